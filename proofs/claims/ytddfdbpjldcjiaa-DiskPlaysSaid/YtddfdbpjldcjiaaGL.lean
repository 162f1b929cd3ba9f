/- What the functions compute. Printed by wip/gen. -/
import Derived.Test.YtddfdbpjldcjiaaG0
set_option linter.unusedVariables false
set_option linter.unusedSimpArgs false
namespace Go.Proofs.Ytddfdbpjldcjiaa
open Go Go.RowKit
def law15_Do_f (a0 : disk_Disk) (a1 : law15_Op) : Option (Int × disk_Disk) :=
  (if a1.What = 4 then ((disk_Disk_Write_f a0 a1.At a1.B).bind fun (x3, x4) => some (x3, x4)) else (((if a1.What = 5 then some true else some ((decide (a1.What = 6)))) : Option (Bool)).bind fun x6 => (if x6 = true then ((disk_Disk_Sync_f a0).bind fun (x10, x11) => some (x10, x11)) else (if a1.What = 7 then ((disk_Disk_Fuse_f a0 a1.N).bind fun x14 => some (0, x14)) else (if a1.What = 8 then ((disk_Disk_Crash_f a0 a1.Keep a1.N).bind fun x17 => some (0, x17)) else ((law15_Fill_f a1.C).bind fun x19 => ((disk_Disk_Write_f a0 a1.At x19).bind fun (x23, x24) => some (x23, x24))))))))
set_option maxHeartbeats 4000000 in
set_option maxRecDepth 20000 in
theorem law15_Do_ok {w0 w : World} {ps : List PF} {fs : List SF} {a0 : disk_Disk} {g0_ : Nat} {a1 : law15_Op} {A1_3 : Option Addr} {c1_3 : Nat} {A1_5 : Option Addr} {c1_5 : Nat} {r0 : Int} {s0 : disk_Disk} (H : Hp w0 (rd kByte A1_3 c1_3 a1.B :: rd kBool A1_5 c1_5 a1.Keep :: ps) (obj_disk_Disk g0_ a0 :: fs) w) (h : law15_Do_f a0 a1 = some (r0, s0)) (ha1_2 : 0 ≤ a1.C ∧ a1.C < 256) :
    Calls Try.prog 14 [.pointer (some ⟨g0_, 0, none⟩), .agg #[.int .i64 a1.What, .int .i64 a1.At, .int .u8 a1.C, .slice A1_3 a1.B.length c1_3, .int .i64 a1.N, .slice A1_5 a1.Keep.length c1_5]].toArray w fun e w' => ∃ v, e = .returned v ∧ v = .int .i64 r0 ∧ Hp w0 ps (obj_disk_Disk g0_ s0 :: fs) w' := by
  refine enter [.pointer (some ⟨g0_, 0, none⟩), .agg #[.int .i64 a1.What, .int .i64 a1.At, .int .u8 a1.C, .slice A1_3 a1.B.length c1_3, .int .i64 a1.N, .slice A1_5 a1.Keep.length c1_5]] 41 Try.func14 fun Q a NP RET NRM F => ?_
  replace NP : ∀ c a w, ¬ Q (.panic c) a w := fun c a w h => by rcases NP c a w h with h | ⟨w, v, h, _⟩ <;> cases h
  unfold law15_Do_f at h
  refine rg ?_
  refine ls (lbox F H rfl (cs := [.int .i64 a1.What, .int .i64 a1.At, .int .u8 a1.C, .slice A1_3 a1.B.length c1_3, .int .i64 a1.N, .slice A1_5 a1.Keep.length c1_5]) rfl fun g1 w a H F => ?_)
  refine as_ F (v := .int .i64 0) rfl fun a F => ?_
  refine rgend ?_
  refine wp_seq ?_
  refine rg ?_
  refine ls (qv F (r_fa (off := 0) (F.ev (x := .tmp 3) rfl) fa34_0) fun a F => ?_)
  refine ls (qv F (r_ld (F.ev (x := .tmp 5) rfl) (cel_cell (o := 0) (H.cell 0 rfl) rfl) one3) fun a F => ?_)
  refine rgend ?_
  refine wp_block ?_
  refine rg ?_
  refine ls (qv F (r_eq (F.ev (x := .tmp 6) rfl) (F.ev (x := .const (.int .i64 4)) rfl)) fun a F => ?_)
  refine as_ F rfl fun a F => ?_
  refine rgend ?_
  replace F := F.only [7, 6, 3, 0] (l' := [(7, .bool (decide (a1.What = 4))), (6, .int .i64 a1.What), (3, .pointer (some ⟨g1, 0, none⟩)), (0, .pointer (some ⟨g0_, 0, none⟩))]) rfl
  by_cases c2 : a1.What = 4
  · rw [if_pos c2] at h
    rw [decide_eq_true c2] at F
    refine wp_cond_true (F.ev rfl) ?_
    refine rg ?_
    refine mv F rfl fun a F => ?_
    refine ls (qv F (r_fa (off := 1) (F.ev (x := .tmp 3) rfl) fa34_1) fun a F => ?_)
    refine ls (qv F (r_ld (F.ev (x := .tmp 10) rfl) (cel_cell (o := 1) (H.cell 0 rfl) rfl) one3) fun a F => ?_)
    refine ls (qv F (r_fa (off := 3) (F.ev (x := .tmp 3) rfl) fa34_3) fun a F => ?_)
    refine ls (qv F (r_ld (F.ev (x := .tmp 12) rfl) (cel_cell (o := 3) (H.cell 0 rfl) rfl) one31) fun a F => ?_)
    obtain ⟨⟨x3, x4⟩, e5, h⟩ := Option.bind_eq_some_iff.1 h
    try dsimp only at h
    refine ls (call F Try.func23 (disk_Disk_Write_ok (H.p0.f1) e5) rfl rfl fun v w hR a F => ?_)
    obtain ⟨rfl, H⟩ := hR
    refine as_ F rfl fun a F => ?_
    refine rgend ?_
    replace F := F.only [4] (l' := [(4, .int .i64 x3)]) rfl
    refine wp_ret ?_
    try dsimp only at h
    obtain ⟨rfl, rfl⟩ := Prod.mk.inj (Option.some.inj h)
    exact RET _ _ (ret1 F rfl rfl ⟨_, rfl, rfl, H.px1.px0.fx1⟩)
  · rw [if_neg c2] at h
    rw [decide_eq_false c2] at F
    refine wp_cond_false (F.ev rfl) ?_
    refine wp_seq ?_
    refine rg ?_
    refine ls (qv F (r_eq (F.ev (x := .tmp 6) rfl) (F.ev (x := .const (.int .i64 5)) rfl)) fun a F => ?_)
    refine as_ F rfl fun a F => ?_
    refine rgend ?_
    obtain ⟨o_6, k_6, h⟩ := Option.bind_eq_some_iff.1 h
    refine cut (fun a w => ∃ (x6 : Bool), x6 = o_6 ∧ Fr 41 [] [(0, .pointer (some ⟨g0_, 0, none⟩)), (3, .pointer (some ⟨g1, 0, none⟩)), (6, .int .i64 a1.What), (15, .bool x6)] a ∧ Hp w0 (rd kByte A1_3 c1_3 a1.B :: rd kBool A1_5 c1_5 a1.Keep :: ps) (obj_disk_Disk g0_ a0 :: cel g1 [.int .i64 a1.What, .int .i64 a1.At, .int .u8 a1.C, .slice A1_3 a1.B.length c1_3, .int .i64 a1.N, .slice A1_5 a1.Keep.length c1_5] 34 :: fs) w) ?_ ?_
    · skip
      by_cases c8 : a1.What = 5
      · rw [if_pos c8] at k_6
        rw [decide_eq_true c8] at F
        refine wp_cond_true (F.ev rfl) ?_
        refine wp_skip ?_
        try dsimp only at k_6
        obtain rfl := Option.some.inj k_6
        exact ⟨_, rfl, F.only [0, 3, 6, 15] rfl, H.f1⟩
      · rw [if_neg c8] at k_6
        rw [decide_eq_false c8] at F
        refine wp_cond_false (F.ev rfl) ?_
        refine wp_region_lit ?_
        refine ls (qv F (r_eq (F.ev (x := .tmp 6) rfl) (F.ev (x := .const (.int .i64 6)) rfl)) fun a F => ?_)
        refine as_ F rfl fun a F => ?_
        refine wpList_nil ?_
        replace F := F.only [15, 6, 3, 0] (l' := [(15, .bool (decide (a1.What = 6))), (6, .int .i64 a1.What), (3, .pointer (some ⟨g1, 0, none⟩)), (0, .pointer (some ⟨g0_, 0, none⟩))]) rfl
        try dsimp only at k_6
        obtain rfl := Option.some.inj k_6
        exact ⟨_, rfl, F.only [0, 3, 6, 15] rfl, H.f1⟩
    · rintro a w ⟨x6, rfl, F, H⟩
      try dsimp only at h F H
      by_cases c9 : x6 = true
      · rw [if_pos c9] at h
        rw [c9] at F
        refine wp_cond_true (F.ev rfl) ?_
        refine rg ?_
        refine mv F rfl fun a F => ?_
        obtain ⟨⟨x10, x11⟩, e12, h⟩ := Option.bind_eq_some_iff.1 h
        try dsimp only at h
        refine ls (call F Try.func21 (disk_Disk_Sync_ok (H) e12) rfl rfl fun v w hR a F => ?_)
        obtain ⟨rfl, H⟩ := hR
        refine as_ F rfl fun a F => ?_
        refine rgend ?_
        replace F := F.only [4] (l' := [(4, .int .i64 x10)]) rfl
        refine wp_ret ?_
        try dsimp only at h
        obtain ⟨rfl, rfl⟩ := Prod.mk.inj (Option.some.inj h)
        exact RET _ _ (ret1 F rfl rfl ⟨_, rfl, rfl, H.px1.px0.fx1⟩)
      · rw [if_neg c9] at h
        rw [Bool.eq_false_iff.2 c9] at F
        refine wp_cond_false (F.ev rfl) ?_
        refine rg ?_
        refine ls (qv F (r_eq (F.ev (x := .tmp 6) rfl) (F.ev (x := .const (.int .i64 7)) rfl)) fun a F => ?_)
        refine as_ F rfl fun a F => ?_
        refine rgend ?_
        by_cases c13 : a1.What = 7
        · rw [if_pos c13] at h
          rw [decide_eq_true c13] at F
          refine wp_cond_true (F.ev rfl) ?_
          refine rg ?_
          refine mv F rfl fun a F => ?_
          refine ls (qv F (r_fa (off := 4) (F.ev (x := .tmp 3) rfl) fa34_4) fun a F => ?_)
          refine ls (qv F (r_ld (F.ev (x := .tmp 23) rfl) (cel_cell (o := 4) (H.cell 1 rfl) rfl) one3) fun a F => ?_)
          obtain ⟨x14, e15, h⟩ := Option.bind_eq_some_iff.1 h
          try dsimp only at h
          refine ls (call F Try.func25 (disk_Disk_Fuse_ok (H) e15) rfl rfl fun v w hR a F => ?_)
          obtain ⟨rfl, H⟩ := hR
          refine rgend ?_
          replace F := F.only [] (l' := []) rfl
          refine rg ?_
          refine as_ F (v := .int .i64 0) rfl fun a F => ?_
          refine rgend ?_
          refine wp_ret ?_
          try dsimp only at h
          obtain ⟨rfl, rfl⟩ := Prod.mk.inj (Option.some.inj h)
          exact RET _ _ (ret1 F rfl rfl ⟨_, rfl, rfl, H.px1.px0.fx1⟩)
        · rw [if_neg c13] at h
          rw [decide_eq_false c13] at F
          refine wp_cond_false (F.ev rfl) ?_
          refine rg ?_
          refine ls (qv F (r_eq (F.ev (x := .tmp 6) rfl) (F.ev (x := .const (.int .i64 8)) rfl)) fun a F => ?_)
          refine as_ F rfl fun a F => ?_
          refine rgend ?_
          replace F := F.only [26, 0, 3] (l' := [(26, .bool (decide (a1.What = 8))), (0, .pointer (some ⟨g0_, 0, none⟩)), (3, .pointer (some ⟨g1, 0, none⟩))]) rfl
          by_cases c16 : a1.What = 8
          · rw [if_pos c16] at h
            rw [decide_eq_true c16] at F
            refine wp_cond_true (F.ev rfl) ?_
            refine rg ?_
            refine mv F rfl fun a F => ?_
            refine ls (qv F (r_fa (off := 5) (F.ev (x := .tmp 3) rfl) fa34_5) fun a F => ?_)
            refine ls (qv F (r_ld (F.ev (x := .tmp 29) rfl) (cel_cell (o := 5) (H.cell 1 rfl) rfl) one32) fun a F => ?_)
            refine ls (qv F (r_fa (off := 4) (F.ev (x := .tmp 3) rfl) fa34_4) fun a F => ?_)
            refine ls (qv F (r_ld (F.ev (x := .tmp 31) rfl) (cel_cell (o := 4) (H.cell 1 rfl) rfl) one3) fun a F => ?_)
            obtain ⟨x17, e18, h⟩ := Option.bind_eq_some_iff.1 h
            try dsimp only at h
            refine ls (call F Try.func22 (disk_Disk_Crash_ok (H.p1) e18) rfl rfl fun v w hR a F => ?_)
            obtain ⟨rfl, H⟩ := hR
            refine rgend ?_
            replace F := F.only [] (l' := []) rfl
            refine rg ?_
            refine as_ F (v := .int .i64 0) rfl fun a F => ?_
            refine rgend ?_
            refine wp_ret ?_
            try dsimp only at h
            obtain ⟨rfl, rfl⟩ := Prod.mk.inj (Option.some.inj h)
            exact RET _ _ (ret1 F rfl rfl ⟨_, rfl, rfl, H.px1.px0.fx1⟩)
          · rw [if_neg c16] at h
            rw [decide_eq_false c16] at F
            refine wp_cond_false (F.ev rfl) ?_
            refine wp_skip ?_
            refine wp_seq ?_
            replace H := H.drew
            have HS := H.fx0
            refine dr (fun w => Hp w0 (rd kByte A1_3 c1_3 a1.B :: rd kBool A1_5 c1_5 a1.Keep :: ps) (cel g1 [.int .i64 a1.What, .int .i64 a1.At, .int .u8 a1.C, .slice A1_3 a1.B.length c1_3, .int .i64 a1.N, .slice A1_5 a1.Keep.length c1_5] 34 :: fs) w) _ (by kernel_rfl) ?_ (n := 8)
            refine dq 0 F rfl (by kernel_rfl) NP HS (fun w S => (r_mv (F.ev (x := .tmp 0) rfl))) fun a F => ?_
            refine dq 1 F rfl (by kernel_rfl) NP HS (fun w S => (r_fa (off := 1) (F.ev (x := .tmp 3) rfl) fa34_1)) fun a F => ?_
            refine dq 2 F rfl (by kernel_rfl) NP HS (fun w S => (r_ld (F.ev (x := .tmp 35) rfl) (cel_cell (o := 1) (S.cell 0 rfl) rfl) one3)) fun a F => ?_
            refine dq 3 F rfl (by kernel_rfl) NP HS (fun w S => (r_fa (off := 2) (F.ev (x := .tmp 3) rfl) fa34_2)) fun a F => ?_
            refine dq 4 F rfl (by kernel_rfl) NP HS (fun w S => (r_ld (F.ev (x := .tmp 37) rfl) (cel_cell (o := 2) (S.cell 0 rfl) rfl) one5)) fun a F => ?_
            obtain ⟨x19, e20, h⟩ := Option.bind_eq_some_iff.1 h
            try dsimp only at h
            refine d1 5 rfl (by kernel_rfl) (call F Try.func24 (law15_Fill_ok (H) e20 ha1_2) rfl rfl fun v w hR a F => ?_)
            obtain ⟨A21, c22, rfl, H⟩ := hR
            have HS := H.fx1.fx0
            refine kg _ HS (fun w S => S) ?_
            replace H := (H).freeze
            obtain ⟨⟨x23, x24⟩, e25, h⟩ := Option.bind_eq_some_iff.1 h
            try dsimp only at h
            refine d1 6 rfl (by kernel_rfl) (call F Try.func23 (disk_Disk_Write_ok (H.p0) e25) rfl rfl fun v w hR a F => ?_)
            obtain ⟨rfl, H⟩ := hR
            have HS := H.fx0
            refine kg _ HS (fun w S => S.px0) ?_
            refine dq 7 F rfl (by kernel_rfl) NP HS (fun w S => (r_as (F.ev (x := .tmp 40) rfl))) fun a F => ?_
            refine ddone (by kernel_rfl) ?_
            replace F := F.only [4] (l' := [(4, .int .i64 x23)]) rfl
            refine wp_ret ?_
            try dsimp only at h
            obtain ⟨rfl, rfl⟩ := Prod.mk.inj (Option.some.inj h)
            exact RET _ _ (ret1 F rfl rfl ⟨_, rfl, rfl, H.px2.px1.px0.fx1⟩)
def law15_Plain_f (a0 : ref15_Disk) (a1 : law15_Op) : Option (Int × ref15_Disk) :=
  (if a1.What = 4 then ((ref15_Disk_Write_f a0 a1.At a1.B).bind fun (x3, x4) => some (x3, x4)) else (((if a1.What = 5 then some true else some ((decide (a1.What = 6)))) : Option (Bool)).bind fun x6 => (if x6 = true then ((ref15_Disk_Sync_f a0).bind fun (x10, x11) => some (x10, x11)) else (if a1.What = 7 then ((ref15_Disk_Fuse_f a0 a1.N).bind fun x14 => some (0, x14)) else (if a1.What = 8 then ((ref15_Disk_Crash_f a0 a1.Keep a1.N).bind fun x17 => some (0, x17)) else ((law15_Fill_f a1.C).bind fun x19 => ((ref15_Disk_Write_f a0 a1.At x19).bind fun (x23, x24) => some (x23, x24))))))))
set_option maxHeartbeats 4000000 in
set_option maxRecDepth 20000 in
theorem law15_Plain_ok {w0 w : World} {ps : List PF} {fs : List SF} {a0 : ref15_Disk} {g0_ : Nat} {a1 : law15_Op} {A1_3 : Option Addr} {c1_3 : Nat} {A1_5 : Option Addr} {c1_5 : Nat} {r0 : Int} {s0 : ref15_Disk} (H : Hp w0 (rd kByte A1_3 c1_3 a1.B :: rd kBool A1_5 c1_5 a1.Keep :: ps) (obj_ref15_Disk g0_ a0 :: fs) w) (h : law15_Plain_f a0 a1 = some (r0, s0)) (ha1_2 : 0 ≤ a1.C ∧ a1.C < 256) :
    Calls Try.prog 15 [.pointer (some ⟨g0_, 0, none⟩), .agg #[.int .i64 a1.What, .int .i64 a1.At, .int .u8 a1.C, .slice A1_3 a1.B.length c1_3, .int .i64 a1.N, .slice A1_5 a1.Keep.length c1_5]].toArray w fun e w' => ∃ v, e = .returned v ∧ v = .int .i64 r0 ∧ Hp w0 ps (obj_ref15_Disk g0_ s0 :: fs) w' := by
  refine enter [.pointer (some ⟨g0_, 0, none⟩), .agg #[.int .i64 a1.What, .int .i64 a1.At, .int .u8 a1.C, .slice A1_3 a1.B.length c1_3, .int .i64 a1.N, .slice A1_5 a1.Keep.length c1_5]] 41 Try.func15 fun Q a NP RET NRM F => ?_
  replace NP : ∀ c a w, ¬ Q (.panic c) a w := fun c a w h => by rcases NP c a w h with h | ⟨w, v, h, _⟩ <;> cases h
  unfold law15_Plain_f at h
  refine rg ?_
  refine ls (lbox F H rfl (cs := [.int .i64 a1.What, .int .i64 a1.At, .int .u8 a1.C, .slice A1_3 a1.B.length c1_3, .int .i64 a1.N, .slice A1_5 a1.Keep.length c1_5]) rfl fun g1 w a H F => ?_)
  refine as_ F (v := .int .i64 0) rfl fun a F => ?_
  refine rgend ?_
  refine wp_seq ?_
  refine rg ?_
  refine ls (qv F (r_fa (off := 0) (F.ev (x := .tmp 3) rfl) fa34_0) fun a F => ?_)
  refine ls (qv F (r_ld (F.ev (x := .tmp 5) rfl) (cel_cell (o := 0) (H.cell 0 rfl) rfl) one3) fun a F => ?_)
  refine rgend ?_
  refine wp_block ?_
  refine rg ?_
  refine ls (qv F (r_eq (F.ev (x := .tmp 6) rfl) (F.ev (x := .const (.int .i64 4)) rfl)) fun a F => ?_)
  refine as_ F rfl fun a F => ?_
  refine rgend ?_
  replace F := F.only [7, 6, 3, 0] (l' := [(7, .bool (decide (a1.What = 4))), (6, .int .i64 a1.What), (3, .pointer (some ⟨g1, 0, none⟩)), (0, .pointer (some ⟨g0_, 0, none⟩))]) rfl
  by_cases c2 : a1.What = 4
  · rw [if_pos c2] at h
    rw [decide_eq_true c2] at F
    refine wp_cond_true (F.ev rfl) ?_
    refine rg ?_
    refine mv F rfl fun a F => ?_
    refine ls (qv F (r_fa (off := 1) (F.ev (x := .tmp 3) rfl) fa34_1) fun a F => ?_)
    refine ls (qv F (r_ld (F.ev (x := .tmp 10) rfl) (cel_cell (o := 1) (H.cell 0 rfl) rfl) one3) fun a F => ?_)
    refine ls (qv F (r_fa (off := 3) (F.ev (x := .tmp 3) rfl) fa34_3) fun a F => ?_)
    refine ls (qv F (r_ld (F.ev (x := .tmp 12) rfl) (cel_cell (o := 3) (H.cell 0 rfl) rfl) one31) fun a F => ?_)
    obtain ⟨⟨x3, x4⟩, e5, h⟩ := Option.bind_eq_some_iff.1 h
    try dsimp only at h
    refine ls (call F Try.func26 (ref15_Disk_Write_ok (H.p0.f1) e5) rfl rfl fun v w hR a F => ?_)
    obtain ⟨rfl, H⟩ := hR
    refine as_ F rfl fun a F => ?_
    refine rgend ?_
    replace F := F.only [4] (l' := [(4, .int .i64 x3)]) rfl
    refine wp_ret ?_
    try dsimp only at h
    obtain ⟨rfl, rfl⟩ := Prod.mk.inj (Option.some.inj h)
    exact RET _ _ (ret1 F rfl rfl ⟨_, rfl, rfl, H.px1.px0.fx1⟩)
  · rw [if_neg c2] at h
    rw [decide_eq_false c2] at F
    refine wp_cond_false (F.ev rfl) ?_
    refine wp_seq ?_
    refine rg ?_
    refine ls (qv F (r_eq (F.ev (x := .tmp 6) rfl) (F.ev (x := .const (.int .i64 5)) rfl)) fun a F => ?_)
    refine as_ F rfl fun a F => ?_
    refine rgend ?_
    obtain ⟨o_6, k_6, h⟩ := Option.bind_eq_some_iff.1 h
    refine cut (fun a w => ∃ (x6 : Bool), x6 = o_6 ∧ Fr 41 [] [(0, .pointer (some ⟨g0_, 0, none⟩)), (3, .pointer (some ⟨g1, 0, none⟩)), (6, .int .i64 a1.What), (15, .bool x6)] a ∧ Hp w0 (rd kByte A1_3 c1_3 a1.B :: rd kBool A1_5 c1_5 a1.Keep :: ps) (obj_ref15_Disk g0_ a0 :: cel g1 [.int .i64 a1.What, .int .i64 a1.At, .int .u8 a1.C, .slice A1_3 a1.B.length c1_3, .int .i64 a1.N, .slice A1_5 a1.Keep.length c1_5] 34 :: fs) w) ?_ ?_
    · skip
      by_cases c8 : a1.What = 5
      · rw [if_pos c8] at k_6
        rw [decide_eq_true c8] at F
        refine wp_cond_true (F.ev rfl) ?_
        refine wp_skip ?_
        try dsimp only at k_6
        obtain rfl := Option.some.inj k_6
        exact ⟨_, rfl, F.only [0, 3, 6, 15] rfl, H.f1⟩
      · rw [if_neg c8] at k_6
        rw [decide_eq_false c8] at F
        refine wp_cond_false (F.ev rfl) ?_
        refine wp_region_lit ?_
        refine ls (qv F (r_eq (F.ev (x := .tmp 6) rfl) (F.ev (x := .const (.int .i64 6)) rfl)) fun a F => ?_)
        refine as_ F rfl fun a F => ?_
        refine wpList_nil ?_
        replace F := F.only [15, 6, 3, 0] (l' := [(15, .bool (decide (a1.What = 6))), (6, .int .i64 a1.What), (3, .pointer (some ⟨g1, 0, none⟩)), (0, .pointer (some ⟨g0_, 0, none⟩))]) rfl
        try dsimp only at k_6
        obtain rfl := Option.some.inj k_6
        exact ⟨_, rfl, F.only [0, 3, 6, 15] rfl, H.f1⟩
    · rintro a w ⟨x6, rfl, F, H⟩
      try dsimp only at h F H
      by_cases c9 : x6 = true
      · rw [if_pos c9] at h
        rw [c9] at F
        refine wp_cond_true (F.ev rfl) ?_
        refine rg ?_
        refine mv F rfl fun a F => ?_
        obtain ⟨⟨x10, x11⟩, e12, h⟩ := Option.bind_eq_some_iff.1 h
        try dsimp only at h
        refine ls (call F Try.func27 (ref15_Disk_Sync_ok (H) e12) rfl rfl fun v w hR a F => ?_)
        obtain ⟨rfl, H⟩ := hR
        refine as_ F rfl fun a F => ?_
        refine rgend ?_
        replace F := F.only [4] (l' := [(4, .int .i64 x10)]) rfl
        refine wp_ret ?_
        try dsimp only at h
        obtain ⟨rfl, rfl⟩ := Prod.mk.inj (Option.some.inj h)
        exact RET _ _ (ret1 F rfl rfl ⟨_, rfl, rfl, H.px1.px0.fx1⟩)
      · rw [if_neg c9] at h
        rw [Bool.eq_false_iff.2 c9] at F
        refine wp_cond_false (F.ev rfl) ?_
        refine rg ?_
        refine ls (qv F (r_eq (F.ev (x := .tmp 6) rfl) (F.ev (x := .const (.int .i64 7)) rfl)) fun a F => ?_)
        refine as_ F rfl fun a F => ?_
        refine rgend ?_
        by_cases c13 : a1.What = 7
        · rw [if_pos c13] at h
          rw [decide_eq_true c13] at F
          refine wp_cond_true (F.ev rfl) ?_
          refine rg ?_
          refine mv F rfl fun a F => ?_
          refine ls (qv F (r_fa (off := 4) (F.ev (x := .tmp 3) rfl) fa34_4) fun a F => ?_)
          refine ls (qv F (r_ld (F.ev (x := .tmp 23) rfl) (cel_cell (o := 4) (H.cell 1 rfl) rfl) one3) fun a F => ?_)
          obtain ⟨x14, e15, h⟩ := Option.bind_eq_some_iff.1 h
          try dsimp only at h
          refine ls (call F Try.func28 (ref15_Disk_Fuse_ok (H) e15) rfl rfl fun v w hR a F => ?_)
          obtain ⟨rfl, H⟩ := hR
          refine rgend ?_
          replace F := F.only [] (l' := []) rfl
          refine rg ?_
          refine as_ F (v := .int .i64 0) rfl fun a F => ?_
          refine rgend ?_
          refine wp_ret ?_
          try dsimp only at h
          obtain ⟨rfl, rfl⟩ := Prod.mk.inj (Option.some.inj h)
          exact RET _ _ (ret1 F rfl rfl ⟨_, rfl, rfl, H.px1.px0.fx1⟩)
        · rw [if_neg c13] at h
          rw [decide_eq_false c13] at F
          refine wp_cond_false (F.ev rfl) ?_
          refine rg ?_
          refine ls (qv F (r_eq (F.ev (x := .tmp 6) rfl) (F.ev (x := .const (.int .i64 8)) rfl)) fun a F => ?_)
          refine as_ F rfl fun a F => ?_
          refine rgend ?_
          replace F := F.only [26, 0, 3] (l' := [(26, .bool (decide (a1.What = 8))), (0, .pointer (some ⟨g0_, 0, none⟩)), (3, .pointer (some ⟨g1, 0, none⟩))]) rfl
          by_cases c16 : a1.What = 8
          · rw [if_pos c16] at h
            rw [decide_eq_true c16] at F
            refine wp_cond_true (F.ev rfl) ?_
            refine rg ?_
            refine mv F rfl fun a F => ?_
            refine ls (qv F (r_fa (off := 5) (F.ev (x := .tmp 3) rfl) fa34_5) fun a F => ?_)
            refine ls (qv F (r_ld (F.ev (x := .tmp 29) rfl) (cel_cell (o := 5) (H.cell 1 rfl) rfl) one32) fun a F => ?_)
            refine ls (qv F (r_fa (off := 4) (F.ev (x := .tmp 3) rfl) fa34_4) fun a F => ?_)
            refine ls (qv F (r_ld (F.ev (x := .tmp 31) rfl) (cel_cell (o := 4) (H.cell 1 rfl) rfl) one3) fun a F => ?_)
            obtain ⟨x17, e18, h⟩ := Option.bind_eq_some_iff.1 h
            try dsimp only at h
            refine ls (call F Try.func29 (ref15_Disk_Crash_ok (H.p1) e18) rfl rfl fun v w hR a F => ?_)
            obtain ⟨rfl, H⟩ := hR
            refine rgend ?_
            replace F := F.only [] (l' := []) rfl
            refine rg ?_
            refine as_ F (v := .int .i64 0) rfl fun a F => ?_
            refine rgend ?_
            refine wp_ret ?_
            try dsimp only at h
            obtain ⟨rfl, rfl⟩ := Prod.mk.inj (Option.some.inj h)
            exact RET _ _ (ret1 F rfl rfl ⟨_, rfl, rfl, H.px1.px0.fx1⟩)
          · rw [if_neg c16] at h
            rw [decide_eq_false c16] at F
            refine wp_cond_false (F.ev rfl) ?_
            refine wp_skip ?_
            refine wp_seq ?_
            replace H := H.drew
            have HS := H.fx0
            refine dr (fun w => Hp w0 (rd kByte A1_3 c1_3 a1.B :: rd kBool A1_5 c1_5 a1.Keep :: ps) (cel g1 [.int .i64 a1.What, .int .i64 a1.At, .int .u8 a1.C, .slice A1_3 a1.B.length c1_3, .int .i64 a1.N, .slice A1_5 a1.Keep.length c1_5] 34 :: fs) w) _ (by kernel_rfl) ?_ (n := 8)
            refine dq 0 F rfl (by kernel_rfl) NP HS (fun w S => (r_mv (F.ev (x := .tmp 0) rfl))) fun a F => ?_
            refine dq 1 F rfl (by kernel_rfl) NP HS (fun w S => (r_fa (off := 1) (F.ev (x := .tmp 3) rfl) fa34_1)) fun a F => ?_
            refine dq 2 F rfl (by kernel_rfl) NP HS (fun w S => (r_ld (F.ev (x := .tmp 35) rfl) (cel_cell (o := 1) (S.cell 0 rfl) rfl) one3)) fun a F => ?_
            refine dq 3 F rfl (by kernel_rfl) NP HS (fun w S => (r_fa (off := 2) (F.ev (x := .tmp 3) rfl) fa34_2)) fun a F => ?_
            refine dq 4 F rfl (by kernel_rfl) NP HS (fun w S => (r_ld (F.ev (x := .tmp 37) rfl) (cel_cell (o := 2) (S.cell 0 rfl) rfl) one5)) fun a F => ?_
            obtain ⟨x19, e20, h⟩ := Option.bind_eq_some_iff.1 h
            try dsimp only at h
            refine d1 5 rfl (by kernel_rfl) (call F Try.func24 (law15_Fill_ok (H) e20 ha1_2) rfl rfl fun v w hR a F => ?_)
            obtain ⟨A21, c22, rfl, H⟩ := hR
            have HS := H.fx1.fx0
            refine kg _ HS (fun w S => S) ?_
            replace H := (H).freeze
            obtain ⟨⟨x23, x24⟩, e25, h⟩ := Option.bind_eq_some_iff.1 h
            try dsimp only at h
            refine d1 6 rfl (by kernel_rfl) (call F Try.func26 (ref15_Disk_Write_ok (H.p0) e25) rfl rfl fun v w hR a F => ?_)
            obtain ⟨rfl, H⟩ := hR
            have HS := H.fx0
            refine kg _ HS (fun w S => S.px0) ?_
            refine dq 7 F rfl (by kernel_rfl) NP HS (fun w S => (r_as (F.ev (x := .tmp 40) rfl))) fun a F => ?_
            refine ddone (by kernel_rfl) ?_
            replace F := F.only [4] (l' := [(4, .int .i64 x23)]) rfl
            refine wp_ret ?_
            try dsimp only at h
            obtain ⟨rfl, rfl⟩ := Prod.mk.inj (Option.some.inj h)
            exact RET _ _ (ret1 F rfl rfl ⟨_, rfl, rfl, H.px2.px1.px0.fx1⟩)
def law15_head_f : Option (Bool) :=
  ((disk_New_f 3).bind fun x1 => match x1 with | none => some false | some x3 => ((disk_New_f (-1)).bind fun x5 => match x5 with | none => ((disk_New_f 4097).bind fun x8 => match x8 with | none => ((law15_Fill_f 1).bind fun x11 => ((disk_Disk_Write_f x3 0 x11).bind fun (x15, x16) => ((disk_Disk_Sync_f x16).bind fun (x18, x19) => ((law15_Fill_f 2).bind fun x21 => ((disk_Disk_Write_f x19 0 x21).bind fun (x25, x26) => ((law15_Fill_f 3).bind fun x28 => ((disk_Disk_Write_f x26 1 x28).bind fun (x32, x33) => ((law15_Fill_f 4).bind fun x35 => ((disk_Disk_Write_f x33 2 x35).bind fun (x39, x40) => ((law15_Fill_f 5).bind fun x42 => ((disk_Disk_Write_f x40 3 x42).bind fun (x46, x47) => ((disk_Disk_Write_f x47 1 []).bind fun (x49, x50) => ((disk_Disk_Pending_f x50).bind fun x52 => ((disk_Disk_Fuse_f x50 0).bind fun x54 => ((disk_Disk_Sync_f x54).bind fun (x56, x57) => ((disk_Disk_Crash_f x57 ([false, true, true]) 2).bind fun x60 => ((disk_Disk_Read_f x60 0).bind fun (x62, x63) => ((disk_Disk_Read_f x60 1).bind fun (x67, x68) => ((disk_Disk_Read_f x60 2).bind fun (x72, x73) => ((disk_Disk_Read_f x60 3).bind fun (x77, x78) => (((if x15 = 0 then (if x18 = 0 then (if x25 = 0 then (if x32 = 0 then (if x39 = 0 then (if x46 = 3 then (if x49 = 1 then (if x52 = 3 then (if x56 = 42 then ((law15_Fill_f 1).bind fun x94 => (if x62 = x94 then (if x63 = 0 then ((law15_Fill_f 3).bind fun x102 => (if x67 = x102 then (if x68 = 0 then (if x73 = 41 then (if x78 = 3 then ((disk_Disk_Pending_f x60).bind fun x111 => (if x111 = 0 then ((disk_Disk_Sectors_f x60).bind fun x114 => some ((decide (x114 = 3)))) else some false)) else some false) else some false) else some false) else some false)) else some false) else some false)) else some false) else some false) else some false) else some false) else some false) else some false) else some false) else some false) else some false) : Option (Bool)).bind fun x82 => some x82))))))))))))))))))))) | some x10 => some false) | some x7 => some false))
set_option maxHeartbeats 4000000 in
set_option maxRecDepth 20000 in
theorem law15_head_ok {w0 w : World} {ps : List PF} {fs : List SF}  {r0 : Bool} (H : Hp w0 ps fs w) (h : law15_head_f = some r0) :
    Calls Try.prog 10 [].toArray w fun e w' => ∃ v, e = .returned v ∧ v = .bool r0 ∧ Hp w0 ps fs w' := by
  refine enter [] 152 Try.func10 fun Q a NP RET NRM F => ?_
  replace NP : ∀ c a w, ¬ Q (.panic c) a w := fun c a w h => by rcases NP c a w h with h | ⟨w, v, h, _⟩ <;> cases h
  unfold law15_head_f at h
  refine rg ?_
  refine as_ F (v := .bool false) rfl fun a F => ?_
  refine rgend ?_
  refine rg ?_
  obtain ⟨x1, e2, h⟩ := Option.bind_eq_some_iff.1 h
  try dsimp only at h
  rcases x1 with _ | x3
  · try dsimp only at h
    refine ls (call F Try.func12 (disk_New_ok (H) e2) rfl rfl fun v w hR a F => ?_)
    obtain ⟨rfl, H⟩ := hR
    refine as_ F rfl fun a F => ?_
    refine rgend ?_
    refine wp_seq ?_
    refine rg ?_
    refine mv F rfl fun a F => ?_
    refine ls (qv F (r_peq0 (F.ev (x := .tmp 20) rfl) (F.ev (x := .const (.pointer none)) rfl) Try.underlying25) fun a F => ?_)
    refine mv F rfl fun a F => ?_
    refine ls (off F fun a F => ?_)
    refine ls (off F fun a F => ?_)
    refine ls (qv F (r_pickT (F.ev (x := .tmp 22) rfl) (F.ev (x := .const (.bool true)) rfl)) fun a F => ?_)
    refine mv F rfl fun a F => ?_
    refine ls (off F fun a F => ?_)
    refine ls (off F fun a F => ?_)
    refine ls (qv F (r_pickT (F.ev (x := .tmp 26) rfl) (F.ev (x := .const (.bool true)) rfl)) fun a F => ?_)
    refine rgend ?_
    replace F := F.only [29, 1] (l' := [(29, .bool true), (1, .pointer none)]) rfl
    refine wp_cond_true (F.ev rfl) ?_
    refine rg ?_
    refine as_ F (v := .bool false) rfl fun a F => ?_
    refine rgend ?_
    refine wp_ret ?_
    try dsimp only at h
    obtain rfl := Option.some.inj h
    exact RET _ _ (ret1 F rfl rfl ⟨_, rfl, rfl, H⟩)
  · try dsimp only at h
    refine ls (call F Try.func12 (disk_New_ok (H) e2) rfl rfl fun v w hR a F => ?_)
    obtain ⟨g4, rfl, H⟩ := hR
    refine as_ F rfl fun a F => ?_
    refine rgend ?_
    refine wp_seq ?_
    refine rg ?_
    refine mv F rfl fun a F => ?_
    refine ls (qv F (r_peq (F.ev (x := .tmp 20) rfl) (F.ev (x := .const (.pointer none)) rfl) Try.underlying25) fun a F => ?_)
    refine mv F rfl fun a F => ?_
    obtain ⟨x5, e6, h⟩ := Option.bind_eq_some_iff.1 h
    try dsimp only at h
    rcases x5 with _ | x7
    · try dsimp only at h
      refine ls (call F Try.func12 (disk_New_ok (H) e6) rfl rfl fun v w hR a F => ?_)
      obtain ⟨rfl, H⟩ := hR
      refine ls (qv F (r_pne0 (F.ev (x := .tmp 23) rfl) (F.ev (x := .const (.pointer none)) rfl) Try.underlying25) fun a F => ?_)
      refine ls (qv F (r_pickF (F.ev (x := .tmp 22) rfl) (F.ev (x := .tmp 24) rfl)) fun a F => ?_)
      refine mv F rfl fun a F => ?_
      obtain ⟨x8, e9, h⟩ := Option.bind_eq_some_iff.1 h
      try dsimp only at h
      rcases x8 with _ | x10
      · try dsimp only at h
        refine ls (call F Try.func12 (disk_New_ok (H) e9) rfl rfl fun v w hR a F => ?_)
        obtain ⟨rfl, H⟩ := hR
        refine ls (qv F (r_pne0 (F.ev (x := .tmp 27) rfl) (F.ev (x := .const (.pointer none)) rfl) Try.underlying25) fun a F => ?_)
        refine ls (qv F (r_pickF (F.ev (x := .tmp 26) rfl) (F.ev (x := .tmp 28) rfl)) fun a F => ?_)
        refine rgend ?_
        replace F := F.only [29, 1] (l' := [(29, .bool false), (1, .pointer (some ⟨g4, 0, none⟩))]) rfl
        refine wp_cond_false (F.ev rfl) ?_
        refine wp_skip ?_
        refine rg ?_
        refine mv F rfl fun a F => ?_
        obtain ⟨x11, e12, h⟩ := Option.bind_eq_some_iff.1 h
        try dsimp only at h
        refine ls (call F Try.func24 (law15_Fill_ok (H) e12 (by decide)) rfl rfl fun v w hR a F => ?_)
        obtain ⟨A13, c14, rfl, H⟩ := hR
        replace H := (H).freeze
        obtain ⟨⟨x15, x16⟩, e17, h⟩ := Option.bind_eq_some_iff.1 h
        try dsimp only at h
        refine ls (call F Try.func23 (disk_Disk_Write_ok (H.p0) e17) rfl rfl fun v w hR a F => ?_)
        obtain ⟨rfl, H⟩ := hR
        refine as_ F rfl fun a F => ?_
        refine rgend ?_
        replace F := F.only [2, 1] (l' := [(2, .int .i64 x15), (1, .pointer (some ⟨g4, 0, none⟩))]) rfl
        refine rg ?_
        refine mv F rfl fun a F => ?_
        obtain ⟨⟨x18, x19⟩, e20, h⟩ := Option.bind_eq_some_iff.1 h
        try dsimp only at h
        refine ls (call F Try.func21 (disk_Disk_Sync_ok (H) e20) rfl rfl fun v w hR a F => ?_)
        obtain ⟨rfl, H⟩ := hR
        refine as_ F rfl fun a F => ?_
        refine rgend ?_
        refine rg ?_
        refine mv F rfl fun a F => ?_
        obtain ⟨x21, e22, h⟩ := Option.bind_eq_some_iff.1 h
        try dsimp only at h
        refine ls (call F Try.func24 (law15_Fill_ok (H) e22 (by decide)) rfl rfl fun v w hR a F => ?_)
        obtain ⟨A23, c24, rfl, H⟩ := hR
        replace H := (H).freeze
        obtain ⟨⟨x25, x26⟩, e27, h⟩ := Option.bind_eq_some_iff.1 h
        try dsimp only at h
        refine ls (call F Try.func23 (disk_Disk_Write_ok (H.p0) e27) rfl rfl fun v w hR a F => ?_)
        obtain ⟨rfl, H⟩ := hR
        refine as_ F rfl fun a F => ?_
        refine rgend ?_
        replace F := F.only [4, 3, 2, 1] (l' := [(4, .int .i64 x25), (3, .int .i64 x18), (2, .int .i64 x15), (1, .pointer (some ⟨g4, 0, none⟩))]) rfl
        refine rg ?_
        refine mv F rfl fun a F => ?_
        obtain ⟨x28, e29, h⟩ := Option.bind_eq_some_iff.1 h
        try dsimp only at h
        refine ls (call F Try.func24 (law15_Fill_ok (H) e29 (by decide)) rfl rfl fun v w hR a F => ?_)
        obtain ⟨A30, c31, rfl, H⟩ := hR
        replace H := (H).freeze
        obtain ⟨⟨x32, x33⟩, e34, h⟩ := Option.bind_eq_some_iff.1 h
        try dsimp only at h
        refine ls (call F Try.func23 (disk_Disk_Write_ok (H.p0) e34) rfl rfl fun v w hR a F => ?_)
        obtain ⟨rfl, H⟩ := hR
        refine as_ F rfl fun a F => ?_
        refine rgend ?_
        refine rg ?_
        refine mv F rfl fun a F => ?_
        obtain ⟨x35, e36, h⟩ := Option.bind_eq_some_iff.1 h
        try dsimp only at h
        refine ls (call F Try.func24 (law15_Fill_ok (H) e36 (by decide)) rfl rfl fun v w hR a F => ?_)
        obtain ⟨A37, c38, rfl, H⟩ := hR
        replace H := (H).freeze
        obtain ⟨⟨x39, x40⟩, e41, h⟩ := Option.bind_eq_some_iff.1 h
        try dsimp only at h
        refine ls (call F Try.func23 (disk_Disk_Write_ok (H.p0) e41) rfl rfl fun v w hR a F => ?_)
        obtain ⟨rfl, H⟩ := hR
        refine as_ F rfl fun a F => ?_
        refine rgend ?_
        replace F := F.only [6, 5, 4, 3, 2, 1] (l' := [(6, .int .i64 x39), (5, .int .i64 x32), (4, .int .i64 x25), (3, .int .i64 x18), (2, .int .i64 x15), (1, .pointer (some ⟨g4, 0, none⟩))]) rfl
        refine rg ?_
        refine mv F rfl fun a F => ?_
        obtain ⟨x42, e43, h⟩ := Option.bind_eq_some_iff.1 h
        try dsimp only at h
        refine ls (call F Try.func24 (law15_Fill_ok (H) e43 (by decide)) rfl rfl fun v w hR a F => ?_)
        obtain ⟨A44, c45, rfl, H⟩ := hR
        replace H := (H).freeze
        obtain ⟨⟨x46, x47⟩, e48, h⟩ := Option.bind_eq_some_iff.1 h
        try dsimp only at h
        refine ls (call F Try.func23 (disk_Disk_Write_ok (H.p0) e48) rfl rfl fun v w hR a F => ?_)
        obtain ⟨rfl, H⟩ := hR
        refine as_ F rfl fun a F => ?_
        refine rgend ?_
        refine rg ?_
        refine mv F rfl fun a F => ?_
        replace H := H.nilRd kByte
        obtain ⟨⟨x49, x50⟩, e51, h⟩ := Option.bind_eq_some_iff.1 h
        try dsimp only at h
        refine ls (call F Try.func23 (disk_Disk_Write_ok (H.p0) e51) rfl rfl fun v w hR a F => ?_)
        obtain ⟨rfl, H⟩ := hR
        refine as_ F rfl fun a F => ?_
        refine rgend ?_
        replace F := F.only [8, 7, 6, 5, 4, 3, 2, 1] (l' := [(8, .int .i64 x49), (7, .int .i64 x46), (6, .int .i64 x39), (5, .int .i64 x32), (4, .int .i64 x25), (3, .int .i64 x18), (2, .int .i64 x15), (1, .pointer (some ⟨g4, 0, none⟩))]) rfl
        refine rg ?_
        refine mv F rfl fun a F => ?_
        obtain ⟨x52, e53, h⟩ := Option.bind_eq_some_iff.1 h
        try dsimp only at h
        refine ls (call F Try.func16 (disk_Disk_Pending_ok (H) e53) rfl rfl fun v w hR a F => ?_)
        obtain ⟨rfl, H⟩ := hR
        refine as_ F rfl fun a F => ?_
        refine rgend ?_
        refine rg ?_
        refine mv F rfl fun a F => ?_
        obtain ⟨x54, e55, h⟩ := Option.bind_eq_some_iff.1 h
        try dsimp only at h
        refine ls (call F Try.func25 (disk_Disk_Fuse_ok (H) e55) rfl rfl fun v w hR a F => ?_)
        obtain ⟨rfl, H⟩ := hR
        refine rgend ?_
        replace F := F.only [9, 8, 7, 6, 5, 4, 3, 2, 1] (l' := [(9, .int .i64 x52), (8, .int .i64 x49), (7, .int .i64 x46), (6, .int .i64 x39), (5, .int .i64 x32), (4, .int .i64 x25), (3, .int .i64 x18), (2, .int .i64 x15), (1, .pointer (some ⟨g4, 0, none⟩))]) rfl
        refine rg ?_
        refine mv F rfl fun a F => ?_
        obtain ⟨⟨x56, x57⟩, e58, h⟩ := Option.bind_eq_some_iff.1 h
        try dsimp only at h
        refine ls (call F Try.func21 (disk_Disk_Sync_ok (H) e58) rfl rfl fun v w hR a F => ?_)
        obtain ⟨rfl, H⟩ := hR
        refine as_ F rfl fun a F => ?_
        refine rgend ?_
        refine rg ?_
        refine mv F rfl fun a F => ?_
        refine ls (lbs F H (e := 4) (vs := [(0, .bool false), (1, .bool true), (2, .bool true)]) (cs := [.bool false, .bool true, .bool true]) rfl (fun w => by kernel_rfl) fun g59 w a H F => ?_)
        replace H := Hp.litRd (kd := kBool) (xs := [false, true, true]) (H) ((SayL.cons (kd := kBool) (c1 := [.bool false]) (y := false) (fun Z hp => rfl) (SayL.cons (kd := kBool) (c1 := [.bool true]) (y := true) (fun Z hp => rfl) (SayL.cons (kd := kBool) (c1 := [.bool true]) (y := true) (fun Z hp => rfl) SayL.nil)))) (Nat.le_of_ble_eq_true rfl)
        obtain ⟨x60, e61, h⟩ := Option.bind_eq_some_iff.1 h
        try dsimp only at h
        refine ls (call F Try.func22 (disk_Disk_Crash_ok (H.p0) e61) rfl rfl fun v w hR a F => ?_)
        obtain ⟨rfl, H⟩ := hR
        refine rgend ?_
        replace F := F.only [10, 9, 8, 7, 6, 5, 4, 3, 2, 1] (l' := [(10, .int .i64 x56), (9, .int .i64 x52), (8, .int .i64 x49), (7, .int .i64 x46), (6, .int .i64 x39), (5, .int .i64 x32), (4, .int .i64 x25), (3, .int .i64 x18), (2, .int .i64 x15), (1, .pointer (some ⟨g4, 0, none⟩))]) rfl
        refine rg ?_
        refine mv F rfl fun a F => ?_
        obtain ⟨⟨x62, x63⟩, e64, h⟩ := Option.bind_eq_some_iff.1 h
        try dsimp only at h
        refine ls (call F Try.func19 (disk_Disk_Read_ok (H) e64) rfl rfl fun v w hR a F => ?_)
        obtain ⟨A65, c66, rfl, H⟩ := hR
        refine mv F rfl fun a F => ?_
        refine ls (qv F (r_ex (F.ev (x := .tmp 58) rfl) rfl) fun a F => ?_)
        refine ls (qv F (r_ex (F.ev (x := .tmp 58) rfl) rfl) fun a F => ?_)
        refine as_ F rfl fun a F => ?_
        refine as_ F rfl fun a F => ?_
        refine rgend ?_
        replace F := F.only [12, 11, 10, 9, 8, 7, 6, 5, 4, 3, 2, 1] (l' := [(12, .int .i64 x63), (11, .slice A65 x62.length c66), (10, .int .i64 x56), (9, .int .i64 x52), (8, .int .i64 x49), (7, .int .i64 x46), (6, .int .i64 x39), (5, .int .i64 x32), (4, .int .i64 x25), (3, .int .i64 x18), (2, .int .i64 x15), (1, .pointer (some ⟨g4, 0, none⟩))]) rfl
        refine rg ?_
        refine mv F rfl fun a F => ?_
        obtain ⟨⟨x67, x68⟩, e69, h⟩ := Option.bind_eq_some_iff.1 h
        try dsimp only at h
        refine ls (call F Try.func19 (disk_Disk_Read_ok (H.f1) e69) rfl rfl fun v w hR a F => ?_)
        obtain ⟨A70, c71, rfl, H⟩ := hR
        refine mv F rfl fun a F => ?_
        refine ls (qv F (r_ex (F.ev (x := .tmp 63) rfl) rfl) fun a F => ?_)
        refine ls (qv F (r_ex (F.ev (x := .tmp 63) rfl) rfl) fun a F => ?_)
        refine as_ F rfl fun a F => ?_
        refine as_ F rfl fun a F => ?_
        refine rgend ?_
        replace F := F.only [14, 13, 12, 11, 10, 9, 8, 7, 6, 5, 4, 3, 2, 1] (l' := [(14, .int .i64 x68), (13, .slice A70 x67.length c71), (12, .int .i64 x63), (11, .slice A65 x62.length c66), (10, .int .i64 x56), (9, .int .i64 x52), (8, .int .i64 x49), (7, .int .i64 x46), (6, .int .i64 x39), (5, .int .i64 x32), (4, .int .i64 x25), (3, .int .i64 x18), (2, .int .i64 x15), (1, .pointer (some ⟨g4, 0, none⟩))]) rfl
        refine rg ?_
        refine mv F rfl fun a F => ?_
        obtain ⟨⟨x72, x73⟩, e74, h⟩ := Option.bind_eq_some_iff.1 h
        try dsimp only at h
        refine ls (call F Try.func19 (disk_Disk_Read_ok (H.f2.f1.f2) e74) rfl rfl fun v w hR a F => ?_)
        obtain ⟨A75, c76, rfl, H⟩ := hR
        refine mv F rfl fun a F => ?_
        refine ls (qv F (r_ex (F.ev (x := .tmp 68) rfl) rfl) fun a F => ?_)
        refine ls (qv F (r_ex (F.ev (x := .tmp 68) rfl) rfl) fun a F => ?_)
        refine as_ F rfl fun a F => ?_
        refine as_ F rfl fun a F => ?_
        refine rgend ?_
        replace F := F.only [16, 14, 13, 12, 11, 10, 9, 8, 7, 6, 5, 4, 3, 2, 1] (l' := [(16, .int .i64 x73), (14, .int .i64 x68), (13, .slice A70 x67.length c71), (12, .int .i64 x63), (11, .slice A65 x62.length c66), (10, .int .i64 x56), (9, .int .i64 x52), (8, .int .i64 x49), (7, .int .i64 x46), (6, .int .i64 x39), (5, .int .i64 x32), (4, .int .i64 x25), (3, .int .i64 x18), (2, .int .i64 x15), (1, .pointer (some ⟨g4, 0, none⟩))]) rfl
        refine rg ?_
        refine mv F rfl fun a F => ?_
        obtain ⟨⟨x77, x78⟩, e79, h⟩ := Option.bind_eq_some_iff.1 h
        try dsimp only at h
        refine ls (call F Try.func19 (disk_Disk_Read_ok (H.f3.f3.f2.f3) e79) rfl rfl fun v w hR a F => ?_)
        obtain ⟨A80, c81, rfl, H⟩ := hR
        refine mv F rfl fun a F => ?_
        refine ls (qv F (r_ex (F.ev (x := .tmp 73) rfl) rfl) fun a F => ?_)
        refine ls (qv F (r_ex (F.ev (x := .tmp 73) rfl) rfl) fun a F => ?_)
        refine as_ F rfl fun a F => ?_
        refine as_ F rfl fun a F => ?_
        refine rgend ?_
        replace F := F.only [18, 16, 14, 13, 12, 11, 10, 9, 8, 7, 6, 5, 4, 3, 2, 1] (l' := [(18, .int .i64 x78), (16, .int .i64 x73), (14, .int .i64 x68), (13, .slice A70 x67.length c71), (12, .int .i64 x63), (11, .slice A65 x62.length c66), (10, .int .i64 x56), (9, .int .i64 x52), (8, .int .i64 x49), (7, .int .i64 x46), (6, .int .i64 x39), (5, .int .i64 x32), (4, .int .i64 x25), (3, .int .i64 x18), (2, .int .i64 x15), (1, .pointer (some ⟨g4, 0, none⟩))]) rfl
        refine wp_seq ?_
        obtain ⟨o_82, k_82, h⟩ := Option.bind_eq_some_iff.1 h
        refine cut (fun a w => ∃ (x82 : Bool), x82 = o_82 ∧ Fr 152 [] [(0, .bool x82)] a ∧ Hp w0 ps (obj_disk_Disk g4 x60 :: fs) w) ?_ ?_
        · skip
          replace H := H.drew
          have HS := H.fx4.fx3.fx2.fx1.fx0
          refine dr (fun w => Hp w0 (rd kBool (some ⟨g59, 0, none⟩) 3 ([false, true, true]) :: rd kByte none 0 [] :: rd kByte A44 c45 x42 :: rd kByte A37 c38 x35 :: rd kByte A30 c31 x28 :: rd kByte A23 c24 x21 :: rd kByte A13 c14 x11 :: ps) fs w) _ (by kernel_rfl) ?_ (n := 75)
          refine dq 0 F rfl (by kernel_rfl) NP HS (fun w S => (r_mv (F.ev (x := .tmp 2) rfl))) fun a F => ?_
          refine dq 1 F rfl (by kernel_rfl) NP HS (fun w S => (r_eq (F.ev (x := .tmp 78) rfl) (F.ev (x := .const (.int .i64 0)) rfl))) fun a F => ?_
          refine dq 2 F rfl (by kernel_rfl) NP HS (fun w S => (r_mv (F.ev (x := .tmp 79) rfl))) fun a F => ?_
          by_cases c84 : x15 = 0
          · rw [if_pos c84] at k_82
            rw [decide_eq_true c84] at F
            refine dq 3 F rfl (by kernel_rfl) NP HS (fun w S => (r_mv (F.ev (x := .tmp 3) rfl))) fun a F => ?_
            refine dq 4 F rfl (by kernel_rfl) NP HS (fun w S => (r_eq (F.ev (x := .tmp 81) rfl) (F.ev (x := .const (.int .i64 0)) rfl))) fun a F => ?_
            refine dq 5 F rfl (by kernel_rfl) NP HS (fun w S => (r_pickT (F.ev (x := .tmp 80) rfl) (F.ev (x := .tmp 82) rfl))) fun a F => ?_
            refine dq 6 F rfl (by kernel_rfl) NP HS (fun w S => (r_mv (F.ev (x := .tmp 83) rfl))) fun a F => ?_
            by_cases c85 : x18 = 0
            · rw [if_pos c85] at k_82
              rw [decide_eq_true c85] at F
              refine dq 7 F rfl (by kernel_rfl) NP HS (fun w S => (r_mv (F.ev (x := .tmp 4) rfl))) fun a F => ?_
              refine dq 8 F rfl (by kernel_rfl) NP HS (fun w S => (r_eq (F.ev (x := .tmp 85) rfl) (F.ev (x := .const (.int .i64 0)) rfl))) fun a F => ?_
              refine dq 9 F rfl (by kernel_rfl) NP HS (fun w S => (r_pickT (F.ev (x := .tmp 84) rfl) (F.ev (x := .tmp 86) rfl))) fun a F => ?_
              refine dq 10 F rfl (by kernel_rfl) NP HS (fun w S => (r_mv (F.ev (x := .tmp 87) rfl))) fun a F => ?_
              by_cases c86 : x25 = 0
              · rw [if_pos c86] at k_82
                rw [decide_eq_true c86] at F
                refine dq 11 F rfl (by kernel_rfl) NP HS (fun w S => (r_mv (F.ev (x := .tmp 5) rfl))) fun a F => ?_
                refine dq 12 F rfl (by kernel_rfl) NP HS (fun w S => (r_eq (F.ev (x := .tmp 89) rfl) (F.ev (x := .const (.int .i64 0)) rfl))) fun a F => ?_
                refine dq 13 F rfl (by kernel_rfl) NP HS (fun w S => (r_pickT (F.ev (x := .tmp 88) rfl) (F.ev (x := .tmp 90) rfl))) fun a F => ?_
                refine dq 14 F rfl (by kernel_rfl) NP HS (fun w S => (r_mv (F.ev (x := .tmp 91) rfl))) fun a F => ?_
                by_cases c87 : x32 = 0
                · rw [if_pos c87] at k_82
                  rw [decide_eq_true c87] at F
                  refine dq 15 F rfl (by kernel_rfl) NP HS (fun w S => (r_mv (F.ev (x := .tmp 6) rfl))) fun a F => ?_
                  refine dq 16 F rfl (by kernel_rfl) NP HS (fun w S => (r_eq (F.ev (x := .tmp 93) rfl) (F.ev (x := .const (.int .i64 0)) rfl))) fun a F => ?_
                  refine dq 17 F rfl (by kernel_rfl) NP HS (fun w S => (r_pickT (F.ev (x := .tmp 92) rfl) (F.ev (x := .tmp 94) rfl))) fun a F => ?_
                  refine dq 18 F rfl (by kernel_rfl) NP HS (fun w S => (r_mv (F.ev (x := .tmp 95) rfl))) fun a F => ?_
                  by_cases c88 : x39 = 0
                  · rw [if_pos c88] at k_82
                    rw [decide_eq_true c88] at F
                    refine dq 19 F rfl (by kernel_rfl) NP HS (fun w S => (r_mv (F.ev (x := .tmp 7) rfl))) fun a F => ?_
                    refine dq 20 F rfl (by kernel_rfl) NP HS (fun w S => (r_eq (F.ev (x := .tmp 97) rfl) (F.ev (x := .const (.int .i64 3)) rfl))) fun a F => ?_
                    refine dq 21 F rfl (by kernel_rfl) NP HS (fun w S => (r_pickT (F.ev (x := .tmp 96) rfl) (F.ev (x := .tmp 98) rfl))) fun a F => ?_
                    refine dq 22 F rfl (by kernel_rfl) NP HS (fun w S => (r_mv (F.ev (x := .tmp 99) rfl))) fun a F => ?_
                    by_cases c89 : x46 = 3
                    · rw [if_pos c89] at k_82
                      rw [decide_eq_true c89] at F
                      refine dq 23 F rfl (by kernel_rfl) NP HS (fun w S => (r_mv (F.ev (x := .tmp 8) rfl))) fun a F => ?_
                      refine dq 24 F rfl (by kernel_rfl) NP HS (fun w S => (r_eq (F.ev (x := .tmp 101) rfl) (F.ev (x := .const (.int .i64 1)) rfl))) fun a F => ?_
                      refine dq 25 F rfl (by kernel_rfl) NP HS (fun w S => (r_pickT (F.ev (x := .tmp 100) rfl) (F.ev (x := .tmp 102) rfl))) fun a F => ?_
                      refine dq 26 F rfl (by kernel_rfl) NP HS (fun w S => (r_mv (F.ev (x := .tmp 103) rfl))) fun a F => ?_
                      by_cases c90 : x49 = 1
                      · rw [if_pos c90] at k_82
                        rw [decide_eq_true c90] at F
                        refine dq 27 F rfl (by kernel_rfl) NP HS (fun w S => (r_mv (F.ev (x := .tmp 9) rfl))) fun a F => ?_
                        refine dq 28 F rfl (by kernel_rfl) NP HS (fun w S => (r_eq (F.ev (x := .tmp 105) rfl) (F.ev (x := .const (.int .i64 3)) rfl))) fun a F => ?_
                        refine dq 29 F rfl (by kernel_rfl) NP HS (fun w S => (r_pickT (F.ev (x := .tmp 104) rfl) (F.ev (x := .tmp 106) rfl))) fun a F => ?_
                        refine dq 30 F rfl (by kernel_rfl) NP HS (fun w S => (r_mv (F.ev (x := .tmp 107) rfl))) fun a F => ?_
                        by_cases c91 : x52 = 3
                        · rw [if_pos c91] at k_82
                          rw [decide_eq_true c91] at F
                          refine dq 31 F rfl (by kernel_rfl) NP HS (fun w S => (r_mv (F.ev (x := .tmp 10) rfl))) fun a F => ?_
                          refine dq 32 F rfl (by kernel_rfl) NP HS (fun w S => (r_eq (F.ev (x := .tmp 109) rfl) (F.ev (x := .const (.int .i64 42)) rfl))) fun a F => ?_
                          refine dq 33 F rfl (by kernel_rfl) NP HS (fun w S => (r_pickT (F.ev (x := .tmp 108) rfl) (F.ev (x := .tmp 110) rfl))) fun a F => ?_
                          refine dq 34 F rfl (by kernel_rfl) NP HS (fun w S => (r_mv (F.ev (x := .tmp 111) rfl))) fun a F => ?_
                          by_cases c92 : x56 = 42
                          · rw [if_pos c92] at k_82
                            rw [decide_eq_true c92] at F
                            refine dq 35 F rfl (by kernel_rfl) NP HS (fun w S => (r_mv (F.ev (x := .tmp 11) rfl))) fun a F => ?_
                            replace H := (H.f3.f3.f3.f3.f4).freeze
                            have hb93 := H.bytes 0 rfl
                            have HS := H.fx3.fx2.fx1.fx0
                            refine dmoreH HS (fun w S => S.px0) ?_
                            refine dq 36 F rfl (by kernel_rfl) NP HS (fun w S => (S.str 0 rfl (F.ev (x := .tmp 113) rfl) Try.underlying31 Try.underlying5 Try.underlying9)) fun a F => ?_
                            obtain ⟨x94, e95, k_82⟩ := Option.bind_eq_some_iff.1 k_82
                            try dsimp only at k_82
                            refine d1 37 rfl (by kernel_rfl) (call F Try.func24 (law15_Fill_ok (H) e95 (by decide)) rfl rfl fun v w hR a F => ?_)
                            obtain ⟨A96, c97, rfl, H⟩ := hR
                            have HS := H.fx4.fx3.fx2.fx1.fx0
                            refine kg _ HS (fun w S => S) ?_
                            replace H := (H).freeze
                            have hb98 := H.bytes 0 rfl
                            have HS := H.fx3.fx2.fx1.fx0
                            refine dmoreH HS (fun w S => S.px0) ?_
                            refine dq 38 F rfl (by kernel_rfl) NP HS (fun w S => (S.str 0 rfl (F.ev (x := .tmp 115) rfl) Try.underlying31 Try.underlying5 Try.underlying9)) fun a F => ?_
                            refine dq 39 F rfl (by kernel_rfl) NP HS (fun w S => (r_seq (F.ev (x := .tmp 114) rfl) (F.ev (x := .tmp 116) rfl) hb93 hb98)) fun a F => ?_
                            refine dq 40 F rfl (by kernel_rfl) NP HS (fun w S => (r_pickT (F.ev (x := .tmp 112) rfl) (F.ev (x := .tmp 117) rfl))) fun a F => ?_
                            refine dq 41 F rfl (by kernel_rfl) NP HS (fun w S => (r_mv (F.ev (x := .tmp 118) rfl))) fun a F => ?_
                            by_cases c99 : x62 = x94
                            · rw [if_pos c99] at k_82
                              rw [decide_eq_true c99] at F
                              refine dq 42 F rfl (by kernel_rfl) NP HS (fun w S => (r_mv (F.ev (x := .tmp 12) rfl))) fun a F => ?_
                              refine dq 43 F rfl (by kernel_rfl) NP HS (fun w S => (r_eq (F.ev (x := .tmp 120) rfl) (F.ev (x := .const (.int .i64 0)) rfl))) fun a F => ?_
                              refine dq 44 F rfl (by kernel_rfl) NP HS (fun w S => (r_pickT (F.ev (x := .tmp 119) rfl) (F.ev (x := .tmp 121) rfl))) fun a F => ?_
                              refine dq 45 F rfl (by kernel_rfl) NP HS (fun w S => (r_mv (F.ev (x := .tmp 122) rfl))) fun a F => ?_
                              by_cases c100 : x63 = 0
                              · rw [if_pos c100] at k_82
                                rw [decide_eq_true c100] at F
                                refine dq 46 F rfl (by kernel_rfl) NP HS (fun w S => (r_mv (F.ev (x := .tmp 13) rfl))) fun a F => ?_
                                replace H := (H.f2.f2.f2.f3).freeze
                                have hb101 := H.bytes 0 rfl
                                have HS := H.fx2.fx1.fx0
                                refine dmoreH HS (fun w S => S.px0) ?_
                                refine dq 47 F rfl (by kernel_rfl) NP HS (fun w S => (S.str 0 rfl (F.ev (x := .tmp 124) rfl) Try.underlying31 Try.underlying5 Try.underlying9)) fun a F => ?_
                                obtain ⟨x102, e103, k_82⟩ := Option.bind_eq_some_iff.1 k_82
                                try dsimp only at k_82
                                refine d1 48 rfl (by kernel_rfl) (call F Try.func24 (law15_Fill_ok (H) e103 (by decide)) rfl rfl fun v w hR a F => ?_)
                                obtain ⟨A104, c105, rfl, H⟩ := hR
                                have HS := H.fx3.fx2.fx1.fx0
                                refine kg _ HS (fun w S => S) ?_
                                replace H := (H).freeze
                                have hb106 := H.bytes 0 rfl
                                have HS := H.fx2.fx1.fx0
                                refine dmoreH HS (fun w S => S.px0) ?_
                                refine dq 49 F rfl (by kernel_rfl) NP HS (fun w S => (S.str 0 rfl (F.ev (x := .tmp 126) rfl) Try.underlying31 Try.underlying5 Try.underlying9)) fun a F => ?_
                                refine dq 50 F rfl (by kernel_rfl) NP HS (fun w S => (r_seq (F.ev (x := .tmp 125) rfl) (F.ev (x := .tmp 127) rfl) hb101 hb106)) fun a F => ?_
                                refine dq 51 F rfl (by kernel_rfl) NP HS (fun w S => (r_pickT (F.ev (x := .tmp 123) rfl) (F.ev (x := .tmp 128) rfl))) fun a F => ?_
                                refine dq 52 F rfl (by kernel_rfl) NP HS (fun w S => (r_mv (F.ev (x := .tmp 129) rfl))) fun a F => ?_
                                by_cases c107 : x67 = x102
                                · rw [if_pos c107] at k_82
                                  rw [decide_eq_true c107] at F
                                  refine dq 53 F rfl (by kernel_rfl) NP HS (fun w S => (r_mv (F.ev (x := .tmp 14) rfl))) fun a F => ?_
                                  refine dq 54 F rfl (by kernel_rfl) NP HS (fun w S => (r_eq (F.ev (x := .tmp 131) rfl) (F.ev (x := .const (.int .i64 0)) rfl))) fun a F => ?_
                                  refine dq 55 F rfl (by kernel_rfl) NP HS (fun w S => (r_pickT (F.ev (x := .tmp 130) rfl) (F.ev (x := .tmp 132) rfl))) fun a F => ?_
                                  refine dq 56 F rfl (by kernel_rfl) NP HS (fun w S => (r_mv (F.ev (x := .tmp 133) rfl))) fun a F => ?_
                                  by_cases c108 : x68 = 0
                                  · rw [if_pos c108] at k_82
                                    rw [decide_eq_true c108] at F
                                    refine dq 57 F rfl (by kernel_rfl) NP HS (fun w S => (r_mv (F.ev (x := .tmp 16) rfl))) fun a F => ?_
                                    refine dq 58 F rfl (by kernel_rfl) NP HS (fun w S => (r_eq (F.ev (x := .tmp 135) rfl) (F.ev (x := .const (.int .i64 41)) rfl))) fun a F => ?_
                                    refine dq 59 F rfl (by kernel_rfl) NP HS (fun w S => (r_pickT (F.ev (x := .tmp 134) rfl) (F.ev (x := .tmp 136) rfl))) fun a F => ?_
                                    refine dq 60 F rfl (by kernel_rfl) NP HS (fun w S => (r_mv (F.ev (x := .tmp 137) rfl))) fun a F => ?_
                                    by_cases c109 : x73 = 41
                                    · rw [if_pos c109] at k_82
                                      rw [decide_eq_true c109] at F
                                      refine dq 61 F rfl (by kernel_rfl) NP HS (fun w S => (r_mv (F.ev (x := .tmp 18) rfl))) fun a F => ?_
                                      refine dq 62 F rfl (by kernel_rfl) NP HS (fun w S => (r_eq (F.ev (x := .tmp 139) rfl) (F.ev (x := .const (.int .i64 3)) rfl))) fun a F => ?_
                                      refine dq 63 F rfl (by kernel_rfl) NP HS (fun w S => (r_pickT (F.ev (x := .tmp 138) rfl) (F.ev (x := .tmp 140) rfl))) fun a F => ?_
                                      refine dq 64 F rfl (by kernel_rfl) NP HS (fun w S => (r_mv (F.ev (x := .tmp 141) rfl))) fun a F => ?_
                                      by_cases c110 : x78 = 3
                                      · rw [if_pos c110] at k_82
                                        rw [decide_eq_true c110] at F
                                        refine dq 65 F rfl (by kernel_rfl) NP HS (fun w S => (r_mv (F.ev (x := .tmp 1) rfl))) fun a F => ?_
                                        obtain ⟨x111, e112, k_82⟩ := Option.bind_eq_some_iff.1 k_82
                                        try dsimp only at k_82
                                        refine d1 66 rfl (by kernel_rfl) (call F Try.func16 (disk_Disk_Pending_ok (H.f2.f1.f2) e112) rfl rfl fun v w hR a F => ?_)
                                        obtain ⟨rfl, H⟩ := hR
                                        have HS := H.fx2.fx1.fx0
                                        refine kg _ HS (fun w S => S) ?_
                                        refine dq 67 F rfl (by kernel_rfl) NP HS (fun w S => (r_eq (F.ev (x := .tmp 144) rfl) (F.ev (x := .const (.int .i64 0)) rfl))) fun a F => ?_
                                        refine dq 68 F rfl (by kernel_rfl) NP HS (fun w S => (r_pickT (F.ev (x := .tmp 142) rfl) (F.ev (x := .tmp 145) rfl))) fun a F => ?_
                                        refine dq 69 F rfl (by kernel_rfl) NP HS (fun w S => (r_mv (F.ev (x := .tmp 146) rfl))) fun a F => ?_
                                        by_cases c113 : x111 = 0
                                        · rw [if_pos c113] at k_82
                                          rw [decide_eq_true c113] at F
                                          refine dq 70 F rfl (by kernel_rfl) NP HS (fun w S => (r_mv (F.ev (x := .tmp 1) rfl))) fun a F => ?_
                                          obtain ⟨x114, e115, k_82⟩ := Option.bind_eq_some_iff.1 k_82
                                          try dsimp only at k_82
                                          refine d1 71 rfl (by kernel_rfl) (call F Try.func18 (disk_Disk_Sectors_ok (H) e115) rfl rfl fun v w hR a F => ?_)
                                          obtain ⟨rfl, H⟩ := hR
                                          have HS := H.fx2.fx1.fx0
                                          refine kg _ HS (fun w S => S) ?_
                                          refine dq 72 F rfl (by kernel_rfl) NP HS (fun w S => (r_eq (F.ev (x := .tmp 149) rfl) (F.ev (x := .const (.int .i64 3)) rfl))) fun a F => ?_
                                          refine dq 73 F rfl (by kernel_rfl) NP HS (fun w S => (r_pickT (F.ev (x := .tmp 147) rfl) (F.ev (x := .tmp 150) rfl))) fun a F => ?_
                                          refine dq 74 F rfl (by kernel_rfl) NP HS (fun w S => (r_as (F.ev (x := .tmp 151) rfl))) fun a F => ?_
                                          refine ddone (by kernel_rfl) ?_
                                          replace F := F.only [0] (l' := [(0, .bool (decide (x114 = 3)))]) rfl
                                          try dsimp only at k_82
                                          obtain rfl := Option.some.inj k_82
                                          exact ⟨_, rfl, F.only [0] rfl, H.px10.px9.px8.px7.px6.px5.px4.px3.px2.px1.px0.fx2.fx1⟩
                                        · rw [if_neg c113] at k_82
                                          rw [decide_eq_false c113] at F
                                          refine doff 70 F rfl (by kernel_rfl) NP HS fun a F => ?_
                                          refine doff 71 F rfl (by kernel_rfl) NP HS fun a F => ?_
                                          refine doff 72 F rfl (by kernel_rfl) NP HS fun a F => ?_
                                          refine dq 73 F rfl (by kernel_rfl) NP HS (fun w S => (r_pickF (F.ev (x := .tmp 147) rfl) (F.ev (x := .const (.bool false)) rfl))) fun a F => ?_
                                          refine dq 74 F rfl (by kernel_rfl) NP HS (fun w S => (r_as (F.ev (x := .tmp 151) rfl))) fun a F => ?_
                                          refine ddone (by kernel_rfl) ?_
                                          replace F := F.only [0] (l' := [(0, .bool false)]) rfl
                                          try dsimp only at k_82
                                          obtain rfl := Option.some.inj k_82
                                          exact ⟨_, rfl, F.only [0] rfl, H.px10.px9.px8.px7.px6.px5.px4.px3.px2.px1.px0.fx2.fx1⟩
                                      · rw [if_neg c110] at k_82
                                        rw [decide_eq_false c110] at F
                                        refine doff 65 F rfl (by kernel_rfl) NP HS fun a F => ?_
                                        refine doff 66 F rfl (by kernel_rfl) NP HS fun a F => ?_
                                        refine doff 67 F rfl (by kernel_rfl) NP HS fun a F => ?_
                                        refine dq 68 F rfl (by kernel_rfl) NP HS (fun w S => (r_pickF (F.ev (x := .tmp 142) rfl) (F.ev (x := .const (.bool false)) rfl))) fun a F => ?_
                                        refine dq 69 F rfl (by kernel_rfl) NP HS (fun w S => (r_mv (F.ev (x := .tmp 146) rfl))) fun a F => ?_
                                        refine doff 70 F rfl (by kernel_rfl) NP HS fun a F => ?_
                                        refine doff 71 F rfl (by kernel_rfl) NP HS fun a F => ?_
                                        refine doff 72 F rfl (by kernel_rfl) NP HS fun a F => ?_
                                        refine dq 73 F rfl (by kernel_rfl) NP HS (fun w S => (r_pickF (F.ev (x := .tmp 147) rfl) (F.ev (x := .const (.bool false)) rfl))) fun a F => ?_
                                        refine dq 74 F rfl (by kernel_rfl) NP HS (fun w S => (r_as (F.ev (x := .tmp 151) rfl))) fun a F => ?_
                                        refine ddone (by kernel_rfl) ?_
                                        replace F := F.only [0] (l' := [(0, .bool false)]) rfl
                                        try dsimp only at k_82
                                        obtain rfl := Option.some.inj k_82
                                        exact ⟨_, rfl, F.only [0] rfl, H.px10.px9.px8.px7.px6.px5.px4.px3.px2.px1.px0.fx2.fx0⟩
                                    · rw [if_neg c109] at k_82
                                      rw [decide_eq_false c109] at F
                                      refine doff 61 F rfl (by kernel_rfl) NP HS fun a F => ?_
                                      refine doff 62 F rfl (by kernel_rfl) NP HS fun a F => ?_
                                      refine dq 63 F rfl (by kernel_rfl) NP HS (fun w S => (r_pickF (F.ev (x := .tmp 138) rfl) (F.ev (x := .const (.bool false)) rfl))) fun a F => ?_
                                      refine dq 64 F rfl (by kernel_rfl) NP HS (fun w S => (r_mv (F.ev (x := .tmp 141) rfl))) fun a F => ?_
                                      refine doff 65 F rfl (by kernel_rfl) NP HS fun a F => ?_
                                      refine doff 66 F rfl (by kernel_rfl) NP HS fun a F => ?_
                                      refine doff 67 F rfl (by kernel_rfl) NP HS fun a F => ?_
                                      refine dq 68 F rfl (by kernel_rfl) NP HS (fun w S => (r_pickF (F.ev (x := .tmp 142) rfl) (F.ev (x := .const (.bool false)) rfl))) fun a F => ?_
                                      refine dq 69 F rfl (by kernel_rfl) NP HS (fun w S => (r_mv (F.ev (x := .tmp 146) rfl))) fun a F => ?_
                                      refine doff 70 F rfl (by kernel_rfl) NP HS fun a F => ?_
                                      refine doff 71 F rfl (by kernel_rfl) NP HS fun a F => ?_
                                      refine doff 72 F rfl (by kernel_rfl) NP HS fun a F => ?_
                                      refine dq 73 F rfl (by kernel_rfl) NP HS (fun w S => (r_pickF (F.ev (x := .tmp 147) rfl) (F.ev (x := .const (.bool false)) rfl))) fun a F => ?_
                                      refine dq 74 F rfl (by kernel_rfl) NP HS (fun w S => (r_as (F.ev (x := .tmp 151) rfl))) fun a F => ?_
                                      refine ddone (by kernel_rfl) ?_
                                      replace F := F.only [0] (l' := [(0, .bool false)]) rfl
                                      try dsimp only at k_82
                                      obtain rfl := Option.some.inj k_82
                                      exact ⟨_, rfl, F.only [0] rfl, H.px10.px9.px8.px7.px6.px5.px4.px3.px2.px1.px0.fx2.fx0⟩
                                  · rw [if_neg c108] at k_82
                                    rw [decide_eq_false c108] at F
                                    refine doff 57 F rfl (by kernel_rfl) NP HS fun a F => ?_
                                    refine doff 58 F rfl (by kernel_rfl) NP HS fun a F => ?_
                                    refine dq 59 F rfl (by kernel_rfl) NP HS (fun w S => (r_pickF (F.ev (x := .tmp 134) rfl) (F.ev (x := .const (.bool false)) rfl))) fun a F => ?_
                                    refine dq 60 F rfl (by kernel_rfl) NP HS (fun w S => (r_mv (F.ev (x := .tmp 137) rfl))) fun a F => ?_
                                    refine doff 61 F rfl (by kernel_rfl) NP HS fun a F => ?_
                                    refine doff 62 F rfl (by kernel_rfl) NP HS fun a F => ?_
                                    refine dq 63 F rfl (by kernel_rfl) NP HS (fun w S => (r_pickF (F.ev (x := .tmp 138) rfl) (F.ev (x := .const (.bool false)) rfl))) fun a F => ?_
                                    refine dq 64 F rfl (by kernel_rfl) NP HS (fun w S => (r_mv (F.ev (x := .tmp 141) rfl))) fun a F => ?_
                                    refine doff 65 F rfl (by kernel_rfl) NP HS fun a F => ?_
                                    refine doff 66 F rfl (by kernel_rfl) NP HS fun a F => ?_
                                    refine doff 67 F rfl (by kernel_rfl) NP HS fun a F => ?_
                                    refine dq 68 F rfl (by kernel_rfl) NP HS (fun w S => (r_pickF (F.ev (x := .tmp 142) rfl) (F.ev (x := .const (.bool false)) rfl))) fun a F => ?_
                                    refine dq 69 F rfl (by kernel_rfl) NP HS (fun w S => (r_mv (F.ev (x := .tmp 146) rfl))) fun a F => ?_
                                    refine doff 70 F rfl (by kernel_rfl) NP HS fun a F => ?_
                                    refine doff 71 F rfl (by kernel_rfl) NP HS fun a F => ?_
                                    refine doff 72 F rfl (by kernel_rfl) NP HS fun a F => ?_
                                    refine dq 73 F rfl (by kernel_rfl) NP HS (fun w S => (r_pickF (F.ev (x := .tmp 147) rfl) (F.ev (x := .const (.bool false)) rfl))) fun a F => ?_
                                    refine dq 74 F rfl (by kernel_rfl) NP HS (fun w S => (r_as (F.ev (x := .tmp 151) rfl))) fun a F => ?_
                                    refine ddone (by kernel_rfl) ?_
                                    replace F := F.only [0] (l' := [(0, .bool false)]) rfl
                                    try dsimp only at k_82
                                    obtain rfl := Option.some.inj k_82
                                    exact ⟨_, rfl, F.only [0] rfl, H.px10.px9.px8.px7.px6.px5.px4.px3.px2.px1.px0.fx2.fx0⟩
                                · rw [if_neg c107] at k_82
                                  rw [decide_eq_false c107] at F
                                  refine doff 53 F rfl (by kernel_rfl) NP HS fun a F => ?_
                                  refine doff 54 F rfl (by kernel_rfl) NP HS fun a F => ?_
                                  refine dq 55 F rfl (by kernel_rfl) NP HS (fun w S => (r_pickF (F.ev (x := .tmp 130) rfl) (F.ev (x := .const (.bool false)) rfl))) fun a F => ?_
                                  refine dq 56 F rfl (by kernel_rfl) NP HS (fun w S => (r_mv (F.ev (x := .tmp 133) rfl))) fun a F => ?_
                                  refine doff 57 F rfl (by kernel_rfl) NP HS fun a F => ?_
                                  refine doff 58 F rfl (by kernel_rfl) NP HS fun a F => ?_
                                  refine dq 59 F rfl (by kernel_rfl) NP HS (fun w S => (r_pickF (F.ev (x := .tmp 134) rfl) (F.ev (x := .const (.bool false)) rfl))) fun a F => ?_
                                  refine dq 60 F rfl (by kernel_rfl) NP HS (fun w S => (r_mv (F.ev (x := .tmp 137) rfl))) fun a F => ?_
                                  refine doff 61 F rfl (by kernel_rfl) NP HS fun a F => ?_
                                  refine doff 62 F rfl (by kernel_rfl) NP HS fun a F => ?_
                                  refine dq 63 F rfl (by kernel_rfl) NP HS (fun w S => (r_pickF (F.ev (x := .tmp 138) rfl) (F.ev (x := .const (.bool false)) rfl))) fun a F => ?_
                                  refine dq 64 F rfl (by kernel_rfl) NP HS (fun w S => (r_mv (F.ev (x := .tmp 141) rfl))) fun a F => ?_
                                  refine doff 65 F rfl (by kernel_rfl) NP HS fun a F => ?_
                                  refine doff 66 F rfl (by kernel_rfl) NP HS fun a F => ?_
                                  refine doff 67 F rfl (by kernel_rfl) NP HS fun a F => ?_
                                  refine dq 68 F rfl (by kernel_rfl) NP HS (fun w S => (r_pickF (F.ev (x := .tmp 142) rfl) (F.ev (x := .const (.bool false)) rfl))) fun a F => ?_
                                  refine dq 69 F rfl (by kernel_rfl) NP HS (fun w S => (r_mv (F.ev (x := .tmp 146) rfl))) fun a F => ?_
                                  refine doff 70 F rfl (by kernel_rfl) NP HS fun a F => ?_
                                  refine doff 71 F rfl (by kernel_rfl) NP HS fun a F => ?_
                                  refine doff 72 F rfl (by kernel_rfl) NP HS fun a F => ?_
                                  refine dq 73 F rfl (by kernel_rfl) NP HS (fun w S => (r_pickF (F.ev (x := .tmp 147) rfl) (F.ev (x := .const (.bool false)) rfl))) fun a F => ?_
                                  refine dq 74 F rfl (by kernel_rfl) NP HS (fun w S => (r_as (F.ev (x := .tmp 151) rfl))) fun a F => ?_
                                  refine ddone (by kernel_rfl) ?_
                                  replace F := F.only [0] (l' := [(0, .bool false)]) rfl
                                  try dsimp only at k_82
                                  obtain rfl := Option.some.inj k_82
                                  exact ⟨_, rfl, F.only [0] rfl, H.px10.px9.px8.px7.px6.px5.px4.px3.px2.px1.px0.fx2.fx0⟩
                              · rw [if_neg c100] at k_82
                                rw [decide_eq_false c100] at F
                                refine doff 46 F rfl (by kernel_rfl) NP HS fun a F => ?_
                                refine doff 47 F rfl (by kernel_rfl) NP HS fun a F => ?_
                                refine doff 48 F rfl (by kernel_rfl) NP HS fun a F => ?_
                                refine doff 49 F rfl (by kernel_rfl) NP HS fun a F => ?_
                                refine doff 50 F rfl (by kernel_rfl) NP HS fun a F => ?_
                                refine dq 51 F rfl (by kernel_rfl) NP HS (fun w S => (r_pickF (F.ev (x := .tmp 123) rfl) (F.ev (x := .const (.bool false)) rfl))) fun a F => ?_
                                refine dq 52 F rfl (by kernel_rfl) NP HS (fun w S => (r_mv (F.ev (x := .tmp 129) rfl))) fun a F => ?_
                                refine doff 53 F rfl (by kernel_rfl) NP HS fun a F => ?_
                                refine doff 54 F rfl (by kernel_rfl) NP HS fun a F => ?_
                                refine dq 55 F rfl (by kernel_rfl) NP HS (fun w S => (r_pickF (F.ev (x := .tmp 130) rfl) (F.ev (x := .const (.bool false)) rfl))) fun a F => ?_
                                refine dq 56 F rfl (by kernel_rfl) NP HS (fun w S => (r_mv (F.ev (x := .tmp 133) rfl))) fun a F => ?_
                                refine doff 57 F rfl (by kernel_rfl) NP HS fun a F => ?_
                                refine doff 58 F rfl (by kernel_rfl) NP HS fun a F => ?_
                                refine dq 59 F rfl (by kernel_rfl) NP HS (fun w S => (r_pickF (F.ev (x := .tmp 134) rfl) (F.ev (x := .const (.bool false)) rfl))) fun a F => ?_
                                refine dq 60 F rfl (by kernel_rfl) NP HS (fun w S => (r_mv (F.ev (x := .tmp 137) rfl))) fun a F => ?_
                                refine doff 61 F rfl (by kernel_rfl) NP HS fun a F => ?_
                                refine doff 62 F rfl (by kernel_rfl) NP HS fun a F => ?_
                                refine dq 63 F rfl (by kernel_rfl) NP HS (fun w S => (r_pickF (F.ev (x := .tmp 138) rfl) (F.ev (x := .const (.bool false)) rfl))) fun a F => ?_
                                refine dq 64 F rfl (by kernel_rfl) NP HS (fun w S => (r_mv (F.ev (x := .tmp 141) rfl))) fun a F => ?_
                                refine doff 65 F rfl (by kernel_rfl) NP HS fun a F => ?_
                                refine doff 66 F rfl (by kernel_rfl) NP HS fun a F => ?_
                                refine doff 67 F rfl (by kernel_rfl) NP HS fun a F => ?_
                                refine dq 68 F rfl (by kernel_rfl) NP HS (fun w S => (r_pickF (F.ev (x := .tmp 142) rfl) (F.ev (x := .const (.bool false)) rfl))) fun a F => ?_
                                refine dq 69 F rfl (by kernel_rfl) NP HS (fun w S => (r_mv (F.ev (x := .tmp 146) rfl))) fun a F => ?_
                                refine doff 70 F rfl (by kernel_rfl) NP HS fun a F => ?_
                                refine doff 71 F rfl (by kernel_rfl) NP HS fun a F => ?_
                                refine doff 72 F rfl (by kernel_rfl) NP HS fun a F => ?_
                                refine dq 73 F rfl (by kernel_rfl) NP HS (fun w S => (r_pickF (F.ev (x := .tmp 147) rfl) (F.ev (x := .const (.bool false)) rfl))) fun a F => ?_
                                refine dq 74 F rfl (by kernel_rfl) NP HS (fun w S => (r_as (F.ev (x := .tmp 151) rfl))) fun a F => ?_
                                refine ddone (by kernel_rfl) ?_
                                replace F := F.only [0] (l' := [(0, .bool false)]) rfl
                                try dsimp only at k_82
                                obtain rfl := Option.some.inj k_82
                                exact ⟨_, rfl, F.only [0] rfl, H.px8.px7.px6.px5.px4.px3.px2.px1.px0.fx3.fx2.fx0⟩
                            · rw [if_neg c99] at k_82
                              rw [decide_eq_false c99] at F
                              refine doff 42 F rfl (by kernel_rfl) NP HS fun a F => ?_
                              refine doff 43 F rfl (by kernel_rfl) NP HS fun a F => ?_
                              refine dq 44 F rfl (by kernel_rfl) NP HS (fun w S => (r_pickF (F.ev (x := .tmp 119) rfl) (F.ev (x := .const (.bool false)) rfl))) fun a F => ?_
                              refine dq 45 F rfl (by kernel_rfl) NP HS (fun w S => (r_mv (F.ev (x := .tmp 122) rfl))) fun a F => ?_
                              refine doff 46 F rfl (by kernel_rfl) NP HS fun a F => ?_
                              refine doff 47 F rfl (by kernel_rfl) NP HS fun a F => ?_
                              refine doff 48 F rfl (by kernel_rfl) NP HS fun a F => ?_
                              refine doff 49 F rfl (by kernel_rfl) NP HS fun a F => ?_
                              refine doff 50 F rfl (by kernel_rfl) NP HS fun a F => ?_
                              refine dq 51 F rfl (by kernel_rfl) NP HS (fun w S => (r_pickF (F.ev (x := .tmp 123) rfl) (F.ev (x := .const (.bool false)) rfl))) fun a F => ?_
                              refine dq 52 F rfl (by kernel_rfl) NP HS (fun w S => (r_mv (F.ev (x := .tmp 129) rfl))) fun a F => ?_
                              refine doff 53 F rfl (by kernel_rfl) NP HS fun a F => ?_
                              refine doff 54 F rfl (by kernel_rfl) NP HS fun a F => ?_
                              refine dq 55 F rfl (by kernel_rfl) NP HS (fun w S => (r_pickF (F.ev (x := .tmp 130) rfl) (F.ev (x := .const (.bool false)) rfl))) fun a F => ?_
                              refine dq 56 F rfl (by kernel_rfl) NP HS (fun w S => (r_mv (F.ev (x := .tmp 133) rfl))) fun a F => ?_
                              refine doff 57 F rfl (by kernel_rfl) NP HS fun a F => ?_
                              refine doff 58 F rfl (by kernel_rfl) NP HS fun a F => ?_
                              refine dq 59 F rfl (by kernel_rfl) NP HS (fun w S => (r_pickF (F.ev (x := .tmp 134) rfl) (F.ev (x := .const (.bool false)) rfl))) fun a F => ?_
                              refine dq 60 F rfl (by kernel_rfl) NP HS (fun w S => (r_mv (F.ev (x := .tmp 137) rfl))) fun a F => ?_
                              refine doff 61 F rfl (by kernel_rfl) NP HS fun a F => ?_
                              refine doff 62 F rfl (by kernel_rfl) NP HS fun a F => ?_
                              refine dq 63 F rfl (by kernel_rfl) NP HS (fun w S => (r_pickF (F.ev (x := .tmp 138) rfl) (F.ev (x := .const (.bool false)) rfl))) fun a F => ?_
                              refine dq 64 F rfl (by kernel_rfl) NP HS (fun w S => (r_mv (F.ev (x := .tmp 141) rfl))) fun a F => ?_
                              refine doff 65 F rfl (by kernel_rfl) NP HS fun a F => ?_
                              refine doff 66 F rfl (by kernel_rfl) NP HS fun a F => ?_
                              refine doff 67 F rfl (by kernel_rfl) NP HS fun a F => ?_
                              refine dq 68 F rfl (by kernel_rfl) NP HS (fun w S => (r_pickF (F.ev (x := .tmp 142) rfl) (F.ev (x := .const (.bool false)) rfl))) fun a F => ?_
                              refine dq 69 F rfl (by kernel_rfl) NP HS (fun w S => (r_mv (F.ev (x := .tmp 146) rfl))) fun a F => ?_
                              refine doff 70 F rfl (by kernel_rfl) NP HS fun a F => ?_
                              refine doff 71 F rfl (by kernel_rfl) NP HS fun a F => ?_
                              refine doff 72 F rfl (by kernel_rfl) NP HS fun a F => ?_
                              refine dq 73 F rfl (by kernel_rfl) NP HS (fun w S => (r_pickF (F.ev (x := .tmp 147) rfl) (F.ev (x := .const (.bool false)) rfl))) fun a F => ?_
                              refine dq 74 F rfl (by kernel_rfl) NP HS (fun w S => (r_as (F.ev (x := .tmp 151) rfl))) fun a F => ?_
                              refine ddone (by kernel_rfl) ?_
                              replace F := F.only [0] (l' := [(0, .bool false)]) rfl
                              try dsimp only at k_82
                              obtain rfl := Option.some.inj k_82
                              exact ⟨_, rfl, F.only [0] rfl, H.px8.px7.px6.px5.px4.px3.px2.px1.px0.fx3.fx2.fx0⟩
                          · rw [if_neg c92] at k_82
                            rw [decide_eq_false c92] at F
                            refine doff 35 F rfl (by kernel_rfl) NP HS fun a F => ?_
                            refine doff 36 F rfl (by kernel_rfl) NP HS fun a F => ?_
                            refine doff 37 F rfl (by kernel_rfl) NP HS fun a F => ?_
                            refine doff 38 F rfl (by kernel_rfl) NP HS fun a F => ?_
                            refine doff 39 F rfl (by kernel_rfl) NP HS fun a F => ?_
                            refine dq 40 F rfl (by kernel_rfl) NP HS (fun w S => (r_pickF (F.ev (x := .tmp 112) rfl) (F.ev (x := .const (.bool false)) rfl))) fun a F => ?_
                            refine dq 41 F rfl (by kernel_rfl) NP HS (fun w S => (r_mv (F.ev (x := .tmp 118) rfl))) fun a F => ?_
                            refine doff 42 F rfl (by kernel_rfl) NP HS fun a F => ?_
                            refine doff 43 F rfl (by kernel_rfl) NP HS fun a F => ?_
                            refine dq 44 F rfl (by kernel_rfl) NP HS (fun w S => (r_pickF (F.ev (x := .tmp 119) rfl) (F.ev (x := .const (.bool false)) rfl))) fun a F => ?_
                            refine dq 45 F rfl (by kernel_rfl) NP HS (fun w S => (r_mv (F.ev (x := .tmp 122) rfl))) fun a F => ?_
                            refine doff 46 F rfl (by kernel_rfl) NP HS fun a F => ?_
                            refine doff 47 F rfl (by kernel_rfl) NP HS fun a F => ?_
                            refine doff 48 F rfl (by kernel_rfl) NP HS fun a F => ?_
                            refine doff 49 F rfl (by kernel_rfl) NP HS fun a F => ?_
                            refine doff 50 F rfl (by kernel_rfl) NP HS fun a F => ?_
                            refine dq 51 F rfl (by kernel_rfl) NP HS (fun w S => (r_pickF (F.ev (x := .tmp 123) rfl) (F.ev (x := .const (.bool false)) rfl))) fun a F => ?_
                            refine dq 52 F rfl (by kernel_rfl) NP HS (fun w S => (r_mv (F.ev (x := .tmp 129) rfl))) fun a F => ?_
                            refine doff 53 F rfl (by kernel_rfl) NP HS fun a F => ?_
                            refine doff 54 F rfl (by kernel_rfl) NP HS fun a F => ?_
                            refine dq 55 F rfl (by kernel_rfl) NP HS (fun w S => (r_pickF (F.ev (x := .tmp 130) rfl) (F.ev (x := .const (.bool false)) rfl))) fun a F => ?_
                            refine dq 56 F rfl (by kernel_rfl) NP HS (fun w S => (r_mv (F.ev (x := .tmp 133) rfl))) fun a F => ?_
                            refine doff 57 F rfl (by kernel_rfl) NP HS fun a F => ?_
                            refine doff 58 F rfl (by kernel_rfl) NP HS fun a F => ?_
                            refine dq 59 F rfl (by kernel_rfl) NP HS (fun w S => (r_pickF (F.ev (x := .tmp 134) rfl) (F.ev (x := .const (.bool false)) rfl))) fun a F => ?_
                            refine dq 60 F rfl (by kernel_rfl) NP HS (fun w S => (r_mv (F.ev (x := .tmp 137) rfl))) fun a F => ?_
                            refine doff 61 F rfl (by kernel_rfl) NP HS fun a F => ?_
                            refine doff 62 F rfl (by kernel_rfl) NP HS fun a F => ?_
                            refine dq 63 F rfl (by kernel_rfl) NP HS (fun w S => (r_pickF (F.ev (x := .tmp 138) rfl) (F.ev (x := .const (.bool false)) rfl))) fun a F => ?_
                            refine dq 64 F rfl (by kernel_rfl) NP HS (fun w S => (r_mv (F.ev (x := .tmp 141) rfl))) fun a F => ?_
                            refine doff 65 F rfl (by kernel_rfl) NP HS fun a F => ?_
                            refine doff 66 F rfl (by kernel_rfl) NP HS fun a F => ?_
                            refine doff 67 F rfl (by kernel_rfl) NP HS fun a F => ?_
                            refine dq 68 F rfl (by kernel_rfl) NP HS (fun w S => (r_pickF (F.ev (x := .tmp 142) rfl) (F.ev (x := .const (.bool false)) rfl))) fun a F => ?_
                            refine dq 69 F rfl (by kernel_rfl) NP HS (fun w S => (r_mv (F.ev (x := .tmp 146) rfl))) fun a F => ?_
                            refine doff 70 F rfl (by kernel_rfl) NP HS fun a F => ?_
                            refine doff 71 F rfl (by kernel_rfl) NP HS fun a F => ?_
                            refine doff 72 F rfl (by kernel_rfl) NP HS fun a F => ?_
                            refine dq 73 F rfl (by kernel_rfl) NP HS (fun w S => (r_pickF (F.ev (x := .tmp 147) rfl) (F.ev (x := .const (.bool false)) rfl))) fun a F => ?_
                            refine dq 74 F rfl (by kernel_rfl) NP HS (fun w S => (r_as (F.ev (x := .tmp 151) rfl))) fun a F => ?_
                            refine ddone (by kernel_rfl) ?_
                            replace F := F.only [0] (l' := [(0, .bool false)]) rfl
                            try dsimp only at k_82
                            obtain rfl := Option.some.inj k_82
                            exact ⟨_, rfl, F.only [0] rfl, H.px6.px5.px4.px3.px2.px1.px0.fx4.fx3.fx2.fx0⟩
                        · rw [if_neg c91] at k_82
                          rw [decide_eq_false c91] at F
                          refine doff 31 F rfl (by kernel_rfl) NP HS fun a F => ?_
                          refine doff 32 F rfl (by kernel_rfl) NP HS fun a F => ?_
                          refine dq 33 F rfl (by kernel_rfl) NP HS (fun w S => (r_pickF (F.ev (x := .tmp 108) rfl) (F.ev (x := .const (.bool false)) rfl))) fun a F => ?_
                          refine dq 34 F rfl (by kernel_rfl) NP HS (fun w S => (r_mv (F.ev (x := .tmp 111) rfl))) fun a F => ?_
                          refine doff 35 F rfl (by kernel_rfl) NP HS fun a F => ?_
                          refine doff 36 F rfl (by kernel_rfl) NP HS fun a F => ?_
                          refine doff 37 F rfl (by kernel_rfl) NP HS fun a F => ?_
                          refine doff 38 F rfl (by kernel_rfl) NP HS fun a F => ?_
                          refine doff 39 F rfl (by kernel_rfl) NP HS fun a F => ?_
                          refine dq 40 F rfl (by kernel_rfl) NP HS (fun w S => (r_pickF (F.ev (x := .tmp 112) rfl) (F.ev (x := .const (.bool false)) rfl))) fun a F => ?_
                          refine dq 41 F rfl (by kernel_rfl) NP HS (fun w S => (r_mv (F.ev (x := .tmp 118) rfl))) fun a F => ?_
                          refine doff 42 F rfl (by kernel_rfl) NP HS fun a F => ?_
                          refine doff 43 F rfl (by kernel_rfl) NP HS fun a F => ?_
                          refine dq 44 F rfl (by kernel_rfl) NP HS (fun w S => (r_pickF (F.ev (x := .tmp 119) rfl) (F.ev (x := .const (.bool false)) rfl))) fun a F => ?_
                          refine dq 45 F rfl (by kernel_rfl) NP HS (fun w S => (r_mv (F.ev (x := .tmp 122) rfl))) fun a F => ?_
                          refine doff 46 F rfl (by kernel_rfl) NP HS fun a F => ?_
                          refine doff 47 F rfl (by kernel_rfl) NP HS fun a F => ?_
                          refine doff 48 F rfl (by kernel_rfl) NP HS fun a F => ?_
                          refine doff 49 F rfl (by kernel_rfl) NP HS fun a F => ?_
                          refine doff 50 F rfl (by kernel_rfl) NP HS fun a F => ?_
                          refine dq 51 F rfl (by kernel_rfl) NP HS (fun w S => (r_pickF (F.ev (x := .tmp 123) rfl) (F.ev (x := .const (.bool false)) rfl))) fun a F => ?_
                          refine dq 52 F rfl (by kernel_rfl) NP HS (fun w S => (r_mv (F.ev (x := .tmp 129) rfl))) fun a F => ?_
                          refine doff 53 F rfl (by kernel_rfl) NP HS fun a F => ?_
                          refine doff 54 F rfl (by kernel_rfl) NP HS fun a F => ?_
                          refine dq 55 F rfl (by kernel_rfl) NP HS (fun w S => (r_pickF (F.ev (x := .tmp 130) rfl) (F.ev (x := .const (.bool false)) rfl))) fun a F => ?_
                          refine dq 56 F rfl (by kernel_rfl) NP HS (fun w S => (r_mv (F.ev (x := .tmp 133) rfl))) fun a F => ?_
                          refine doff 57 F rfl (by kernel_rfl) NP HS fun a F => ?_
                          refine doff 58 F rfl (by kernel_rfl) NP HS fun a F => ?_
                          refine dq 59 F rfl (by kernel_rfl) NP HS (fun w S => (r_pickF (F.ev (x := .tmp 134) rfl) (F.ev (x := .const (.bool false)) rfl))) fun a F => ?_
                          refine dq 60 F rfl (by kernel_rfl) NP HS (fun w S => (r_mv (F.ev (x := .tmp 137) rfl))) fun a F => ?_
                          refine doff 61 F rfl (by kernel_rfl) NP HS fun a F => ?_
                          refine doff 62 F rfl (by kernel_rfl) NP HS fun a F => ?_
                          refine dq 63 F rfl (by kernel_rfl) NP HS (fun w S => (r_pickF (F.ev (x := .tmp 138) rfl) (F.ev (x := .const (.bool false)) rfl))) fun a F => ?_
                          refine dq 64 F rfl (by kernel_rfl) NP HS (fun w S => (r_mv (F.ev (x := .tmp 141) rfl))) fun a F => ?_
                          refine doff 65 F rfl (by kernel_rfl) NP HS fun a F => ?_
                          refine doff 66 F rfl (by kernel_rfl) NP HS fun a F => ?_
                          refine doff 67 F rfl (by kernel_rfl) NP HS fun a F => ?_
                          refine dq 68 F rfl (by kernel_rfl) NP HS (fun w S => (r_pickF (F.ev (x := .tmp 142) rfl) (F.ev (x := .const (.bool false)) rfl))) fun a F => ?_
                          refine dq 69 F rfl (by kernel_rfl) NP HS (fun w S => (r_mv (F.ev (x := .tmp 146) rfl))) fun a F => ?_
                          refine doff 70 F rfl (by kernel_rfl) NP HS fun a F => ?_
                          refine doff 71 F rfl (by kernel_rfl) NP HS fun a F => ?_
                          refine doff 72 F rfl (by kernel_rfl) NP HS fun a F => ?_
                          refine dq 73 F rfl (by kernel_rfl) NP HS (fun w S => (r_pickF (F.ev (x := .tmp 147) rfl) (F.ev (x := .const (.bool false)) rfl))) fun a F => ?_
                          refine dq 74 F rfl (by kernel_rfl) NP HS (fun w S => (r_as (F.ev (x := .tmp 151) rfl))) fun a F => ?_
                          refine ddone (by kernel_rfl) ?_
                          replace F := F.only [0] (l' := [(0, .bool false)]) rfl
                          try dsimp only at k_82
                          obtain rfl := Option.some.inj k_82
                          exact ⟨_, rfl, F.only [0] rfl, H.px6.px5.px4.px3.px2.px1.px0.fx4.fx3.fx2.fx0⟩
                      · rw [if_neg c90] at k_82
                        rw [decide_eq_false c90] at F
                        refine doff 27 F rfl (by kernel_rfl) NP HS fun a F => ?_
                        refine doff 28 F rfl (by kernel_rfl) NP HS fun a F => ?_
                        refine dq 29 F rfl (by kernel_rfl) NP HS (fun w S => (r_pickF (F.ev (x := .tmp 104) rfl) (F.ev (x := .const (.bool false)) rfl))) fun a F => ?_
                        refine dq 30 F rfl (by kernel_rfl) NP HS (fun w S => (r_mv (F.ev (x := .tmp 107) rfl))) fun a F => ?_
                        refine doff 31 F rfl (by kernel_rfl) NP HS fun a F => ?_
                        refine doff 32 F rfl (by kernel_rfl) NP HS fun a F => ?_
                        refine dq 33 F rfl (by kernel_rfl) NP HS (fun w S => (r_pickF (F.ev (x := .tmp 108) rfl) (F.ev (x := .const (.bool false)) rfl))) fun a F => ?_
                        refine dq 34 F rfl (by kernel_rfl) NP HS (fun w S => (r_mv (F.ev (x := .tmp 111) rfl))) fun a F => ?_
                        refine doff 35 F rfl (by kernel_rfl) NP HS fun a F => ?_
                        refine doff 36 F rfl (by kernel_rfl) NP HS fun a F => ?_
                        refine doff 37 F rfl (by kernel_rfl) NP HS fun a F => ?_
                        refine doff 38 F rfl (by kernel_rfl) NP HS fun a F => ?_
                        refine doff 39 F rfl (by kernel_rfl) NP HS fun a F => ?_
                        refine dq 40 F rfl (by kernel_rfl) NP HS (fun w S => (r_pickF (F.ev (x := .tmp 112) rfl) (F.ev (x := .const (.bool false)) rfl))) fun a F => ?_
                        refine dq 41 F rfl (by kernel_rfl) NP HS (fun w S => (r_mv (F.ev (x := .tmp 118) rfl))) fun a F => ?_
                        refine doff 42 F rfl (by kernel_rfl) NP HS fun a F => ?_
                        refine doff 43 F rfl (by kernel_rfl) NP HS fun a F => ?_
                        refine dq 44 F rfl (by kernel_rfl) NP HS (fun w S => (r_pickF (F.ev (x := .tmp 119) rfl) (F.ev (x := .const (.bool false)) rfl))) fun a F => ?_
                        refine dq 45 F rfl (by kernel_rfl) NP HS (fun w S => (r_mv (F.ev (x := .tmp 122) rfl))) fun a F => ?_
                        refine doff 46 F rfl (by kernel_rfl) NP HS fun a F => ?_
                        refine doff 47 F rfl (by kernel_rfl) NP HS fun a F => ?_
                        refine doff 48 F rfl (by kernel_rfl) NP HS fun a F => ?_
                        refine doff 49 F rfl (by kernel_rfl) NP HS fun a F => ?_
                        refine doff 50 F rfl (by kernel_rfl) NP HS fun a F => ?_
                        refine dq 51 F rfl (by kernel_rfl) NP HS (fun w S => (r_pickF (F.ev (x := .tmp 123) rfl) (F.ev (x := .const (.bool false)) rfl))) fun a F => ?_
                        refine dq 52 F rfl (by kernel_rfl) NP HS (fun w S => (r_mv (F.ev (x := .tmp 129) rfl))) fun a F => ?_
                        refine doff 53 F rfl (by kernel_rfl) NP HS fun a F => ?_
                        refine doff 54 F rfl (by kernel_rfl) NP HS fun a F => ?_
                        refine dq 55 F rfl (by kernel_rfl) NP HS (fun w S => (r_pickF (F.ev (x := .tmp 130) rfl) (F.ev (x := .const (.bool false)) rfl))) fun a F => ?_
                        refine dq 56 F rfl (by kernel_rfl) NP HS (fun w S => (r_mv (F.ev (x := .tmp 133) rfl))) fun a F => ?_
                        refine doff 57 F rfl (by kernel_rfl) NP HS fun a F => ?_
                        refine doff 58 F rfl (by kernel_rfl) NP HS fun a F => ?_
                        refine dq 59 F rfl (by kernel_rfl) NP HS (fun w S => (r_pickF (F.ev (x := .tmp 134) rfl) (F.ev (x := .const (.bool false)) rfl))) fun a F => ?_
                        refine dq 60 F rfl (by kernel_rfl) NP HS (fun w S => (r_mv (F.ev (x := .tmp 137) rfl))) fun a F => ?_
                        refine doff 61 F rfl (by kernel_rfl) NP HS fun a F => ?_
                        refine doff 62 F rfl (by kernel_rfl) NP HS fun a F => ?_
                        refine dq 63 F rfl (by kernel_rfl) NP HS (fun w S => (r_pickF (F.ev (x := .tmp 138) rfl) (F.ev (x := .const (.bool false)) rfl))) fun a F => ?_
                        refine dq 64 F rfl (by kernel_rfl) NP HS (fun w S => (r_mv (F.ev (x := .tmp 141) rfl))) fun a F => ?_
                        refine doff 65 F rfl (by kernel_rfl) NP HS fun a F => ?_
                        refine doff 66 F rfl (by kernel_rfl) NP HS fun a F => ?_
                        refine doff 67 F rfl (by kernel_rfl) NP HS fun a F => ?_
                        refine dq 68 F rfl (by kernel_rfl) NP HS (fun w S => (r_pickF (F.ev (x := .tmp 142) rfl) (F.ev (x := .const (.bool false)) rfl))) fun a F => ?_
                        refine dq 69 F rfl (by kernel_rfl) NP HS (fun w S => (r_mv (F.ev (x := .tmp 146) rfl))) fun a F => ?_
                        refine doff 70 F rfl (by kernel_rfl) NP HS fun a F => ?_
                        refine doff 71 F rfl (by kernel_rfl) NP HS fun a F => ?_
                        refine doff 72 F rfl (by kernel_rfl) NP HS fun a F => ?_
                        refine dq 73 F rfl (by kernel_rfl) NP HS (fun w S => (r_pickF (F.ev (x := .tmp 147) rfl) (F.ev (x := .const (.bool false)) rfl))) fun a F => ?_
                        refine dq 74 F rfl (by kernel_rfl) NP HS (fun w S => (r_as (F.ev (x := .tmp 151) rfl))) fun a F => ?_
                        refine ddone (by kernel_rfl) ?_
                        replace F := F.only [0] (l' := [(0, .bool false)]) rfl
                        try dsimp only at k_82
                        obtain rfl := Option.some.inj k_82
                        exact ⟨_, rfl, F.only [0] rfl, H.px6.px5.px4.px3.px2.px1.px0.fx4.fx3.fx2.fx0⟩
                    · rw [if_neg c89] at k_82
                      rw [decide_eq_false c89] at F
                      refine doff 23 F rfl (by kernel_rfl) NP HS fun a F => ?_
                      refine doff 24 F rfl (by kernel_rfl) NP HS fun a F => ?_
                      refine dq 25 F rfl (by kernel_rfl) NP HS (fun w S => (r_pickF (F.ev (x := .tmp 100) rfl) (F.ev (x := .const (.bool false)) rfl))) fun a F => ?_
                      refine dq 26 F rfl (by kernel_rfl) NP HS (fun w S => (r_mv (F.ev (x := .tmp 103) rfl))) fun a F => ?_
                      refine doff 27 F rfl (by kernel_rfl) NP HS fun a F => ?_
                      refine doff 28 F rfl (by kernel_rfl) NP HS fun a F => ?_
                      refine dq 29 F rfl (by kernel_rfl) NP HS (fun w S => (r_pickF (F.ev (x := .tmp 104) rfl) (F.ev (x := .const (.bool false)) rfl))) fun a F => ?_
                      refine dq 30 F rfl (by kernel_rfl) NP HS (fun w S => (r_mv (F.ev (x := .tmp 107) rfl))) fun a F => ?_
                      refine doff 31 F rfl (by kernel_rfl) NP HS fun a F => ?_
                      refine doff 32 F rfl (by kernel_rfl) NP HS fun a F => ?_
                      refine dq 33 F rfl (by kernel_rfl) NP HS (fun w S => (r_pickF (F.ev (x := .tmp 108) rfl) (F.ev (x := .const (.bool false)) rfl))) fun a F => ?_
                      refine dq 34 F rfl (by kernel_rfl) NP HS (fun w S => (r_mv (F.ev (x := .tmp 111) rfl))) fun a F => ?_
                      refine doff 35 F rfl (by kernel_rfl) NP HS fun a F => ?_
                      refine doff 36 F rfl (by kernel_rfl) NP HS fun a F => ?_
                      refine doff 37 F rfl (by kernel_rfl) NP HS fun a F => ?_
                      refine doff 38 F rfl (by kernel_rfl) NP HS fun a F => ?_
                      refine doff 39 F rfl (by kernel_rfl) NP HS fun a F => ?_
                      refine dq 40 F rfl (by kernel_rfl) NP HS (fun w S => (r_pickF (F.ev (x := .tmp 112) rfl) (F.ev (x := .const (.bool false)) rfl))) fun a F => ?_
                      refine dq 41 F rfl (by kernel_rfl) NP HS (fun w S => (r_mv (F.ev (x := .tmp 118) rfl))) fun a F => ?_
                      refine doff 42 F rfl (by kernel_rfl) NP HS fun a F => ?_
                      refine doff 43 F rfl (by kernel_rfl) NP HS fun a F => ?_
                      refine dq 44 F rfl (by kernel_rfl) NP HS (fun w S => (r_pickF (F.ev (x := .tmp 119) rfl) (F.ev (x := .const (.bool false)) rfl))) fun a F => ?_
                      refine dq 45 F rfl (by kernel_rfl) NP HS (fun w S => (r_mv (F.ev (x := .tmp 122) rfl))) fun a F => ?_
                      refine doff 46 F rfl (by kernel_rfl) NP HS fun a F => ?_
                      refine doff 47 F rfl (by kernel_rfl) NP HS fun a F => ?_
                      refine doff 48 F rfl (by kernel_rfl) NP HS fun a F => ?_
                      refine doff 49 F rfl (by kernel_rfl) NP HS fun a F => ?_
                      refine doff 50 F rfl (by kernel_rfl) NP HS fun a F => ?_
                      refine dq 51 F rfl (by kernel_rfl) NP HS (fun w S => (r_pickF (F.ev (x := .tmp 123) rfl) (F.ev (x := .const (.bool false)) rfl))) fun a F => ?_
                      refine dq 52 F rfl (by kernel_rfl) NP HS (fun w S => (r_mv (F.ev (x := .tmp 129) rfl))) fun a F => ?_
                      refine doff 53 F rfl (by kernel_rfl) NP HS fun a F => ?_
                      refine doff 54 F rfl (by kernel_rfl) NP HS fun a F => ?_
                      refine dq 55 F rfl (by kernel_rfl) NP HS (fun w S => (r_pickF (F.ev (x := .tmp 130) rfl) (F.ev (x := .const (.bool false)) rfl))) fun a F => ?_
                      refine dq 56 F rfl (by kernel_rfl) NP HS (fun w S => (r_mv (F.ev (x := .tmp 133) rfl))) fun a F => ?_
                      refine doff 57 F rfl (by kernel_rfl) NP HS fun a F => ?_
                      refine doff 58 F rfl (by kernel_rfl) NP HS fun a F => ?_
                      refine dq 59 F rfl (by kernel_rfl) NP HS (fun w S => (r_pickF (F.ev (x := .tmp 134) rfl) (F.ev (x := .const (.bool false)) rfl))) fun a F => ?_
                      refine dq 60 F rfl (by kernel_rfl) NP HS (fun w S => (r_mv (F.ev (x := .tmp 137) rfl))) fun a F => ?_
                      refine doff 61 F rfl (by kernel_rfl) NP HS fun a F => ?_
                      refine doff 62 F rfl (by kernel_rfl) NP HS fun a F => ?_
                      refine dq 63 F rfl (by kernel_rfl) NP HS (fun w S => (r_pickF (F.ev (x := .tmp 138) rfl) (F.ev (x := .const (.bool false)) rfl))) fun a F => ?_
                      refine dq 64 F rfl (by kernel_rfl) NP HS (fun w S => (r_mv (F.ev (x := .tmp 141) rfl))) fun a F => ?_
                      refine doff 65 F rfl (by kernel_rfl) NP HS fun a F => ?_
                      refine doff 66 F rfl (by kernel_rfl) NP HS fun a F => ?_
                      refine doff 67 F rfl (by kernel_rfl) NP HS fun a F => ?_
                      refine dq 68 F rfl (by kernel_rfl) NP HS (fun w S => (r_pickF (F.ev (x := .tmp 142) rfl) (F.ev (x := .const (.bool false)) rfl))) fun a F => ?_
                      refine dq 69 F rfl (by kernel_rfl) NP HS (fun w S => (r_mv (F.ev (x := .tmp 146) rfl))) fun a F => ?_
                      refine doff 70 F rfl (by kernel_rfl) NP HS fun a F => ?_
                      refine doff 71 F rfl (by kernel_rfl) NP HS fun a F => ?_
                      refine doff 72 F rfl (by kernel_rfl) NP HS fun a F => ?_
                      refine dq 73 F rfl (by kernel_rfl) NP HS (fun w S => (r_pickF (F.ev (x := .tmp 147) rfl) (F.ev (x := .const (.bool false)) rfl))) fun a F => ?_
                      refine dq 74 F rfl (by kernel_rfl) NP HS (fun w S => (r_as (F.ev (x := .tmp 151) rfl))) fun a F => ?_
                      refine ddone (by kernel_rfl) ?_
                      replace F := F.only [0] (l' := [(0, .bool false)]) rfl
                      try dsimp only at k_82
                      obtain rfl := Option.some.inj k_82
                      exact ⟨_, rfl, F.only [0] rfl, H.px6.px5.px4.px3.px2.px1.px0.fx4.fx3.fx2.fx0⟩
                  · rw [if_neg c88] at k_82
                    rw [decide_eq_false c88] at F
                    refine doff 19 F rfl (by kernel_rfl) NP HS fun a F => ?_
                    refine doff 20 F rfl (by kernel_rfl) NP HS fun a F => ?_
                    refine dq 21 F rfl (by kernel_rfl) NP HS (fun w S => (r_pickF (F.ev (x := .tmp 96) rfl) (F.ev (x := .const (.bool false)) rfl))) fun a F => ?_
                    refine dq 22 F rfl (by kernel_rfl) NP HS (fun w S => (r_mv (F.ev (x := .tmp 99) rfl))) fun a F => ?_
                    refine doff 23 F rfl (by kernel_rfl) NP HS fun a F => ?_
                    refine doff 24 F rfl (by kernel_rfl) NP HS fun a F => ?_
                    refine dq 25 F rfl (by kernel_rfl) NP HS (fun w S => (r_pickF (F.ev (x := .tmp 100) rfl) (F.ev (x := .const (.bool false)) rfl))) fun a F => ?_
                    refine dq 26 F rfl (by kernel_rfl) NP HS (fun w S => (r_mv (F.ev (x := .tmp 103) rfl))) fun a F => ?_
                    refine doff 27 F rfl (by kernel_rfl) NP HS fun a F => ?_
                    refine doff 28 F rfl (by kernel_rfl) NP HS fun a F => ?_
                    refine dq 29 F rfl (by kernel_rfl) NP HS (fun w S => (r_pickF (F.ev (x := .tmp 104) rfl) (F.ev (x := .const (.bool false)) rfl))) fun a F => ?_
                    refine dq 30 F rfl (by kernel_rfl) NP HS (fun w S => (r_mv (F.ev (x := .tmp 107) rfl))) fun a F => ?_
                    refine doff 31 F rfl (by kernel_rfl) NP HS fun a F => ?_
                    refine doff 32 F rfl (by kernel_rfl) NP HS fun a F => ?_
                    refine dq 33 F rfl (by kernel_rfl) NP HS (fun w S => (r_pickF (F.ev (x := .tmp 108) rfl) (F.ev (x := .const (.bool false)) rfl))) fun a F => ?_
                    refine dq 34 F rfl (by kernel_rfl) NP HS (fun w S => (r_mv (F.ev (x := .tmp 111) rfl))) fun a F => ?_
                    refine doff 35 F rfl (by kernel_rfl) NP HS fun a F => ?_
                    refine doff 36 F rfl (by kernel_rfl) NP HS fun a F => ?_
                    refine doff 37 F rfl (by kernel_rfl) NP HS fun a F => ?_
                    refine doff 38 F rfl (by kernel_rfl) NP HS fun a F => ?_
                    refine doff 39 F rfl (by kernel_rfl) NP HS fun a F => ?_
                    refine dq 40 F rfl (by kernel_rfl) NP HS (fun w S => (r_pickF (F.ev (x := .tmp 112) rfl) (F.ev (x := .const (.bool false)) rfl))) fun a F => ?_
                    refine dq 41 F rfl (by kernel_rfl) NP HS (fun w S => (r_mv (F.ev (x := .tmp 118) rfl))) fun a F => ?_
                    refine doff 42 F rfl (by kernel_rfl) NP HS fun a F => ?_
                    refine doff 43 F rfl (by kernel_rfl) NP HS fun a F => ?_
                    refine dq 44 F rfl (by kernel_rfl) NP HS (fun w S => (r_pickF (F.ev (x := .tmp 119) rfl) (F.ev (x := .const (.bool false)) rfl))) fun a F => ?_
                    refine dq 45 F rfl (by kernel_rfl) NP HS (fun w S => (r_mv (F.ev (x := .tmp 122) rfl))) fun a F => ?_
                    refine doff 46 F rfl (by kernel_rfl) NP HS fun a F => ?_
                    refine doff 47 F rfl (by kernel_rfl) NP HS fun a F => ?_
                    refine doff 48 F rfl (by kernel_rfl) NP HS fun a F => ?_
                    refine doff 49 F rfl (by kernel_rfl) NP HS fun a F => ?_
                    refine doff 50 F rfl (by kernel_rfl) NP HS fun a F => ?_
                    refine dq 51 F rfl (by kernel_rfl) NP HS (fun w S => (r_pickF (F.ev (x := .tmp 123) rfl) (F.ev (x := .const (.bool false)) rfl))) fun a F => ?_
                    refine dq 52 F rfl (by kernel_rfl) NP HS (fun w S => (r_mv (F.ev (x := .tmp 129) rfl))) fun a F => ?_
                    refine doff 53 F rfl (by kernel_rfl) NP HS fun a F => ?_
                    refine doff 54 F rfl (by kernel_rfl) NP HS fun a F => ?_
                    refine dq 55 F rfl (by kernel_rfl) NP HS (fun w S => (r_pickF (F.ev (x := .tmp 130) rfl) (F.ev (x := .const (.bool false)) rfl))) fun a F => ?_
                    refine dq 56 F rfl (by kernel_rfl) NP HS (fun w S => (r_mv (F.ev (x := .tmp 133) rfl))) fun a F => ?_
                    refine doff 57 F rfl (by kernel_rfl) NP HS fun a F => ?_
                    refine doff 58 F rfl (by kernel_rfl) NP HS fun a F => ?_
                    refine dq 59 F rfl (by kernel_rfl) NP HS (fun w S => (r_pickF (F.ev (x := .tmp 134) rfl) (F.ev (x := .const (.bool false)) rfl))) fun a F => ?_
                    refine dq 60 F rfl (by kernel_rfl) NP HS (fun w S => (r_mv (F.ev (x := .tmp 137) rfl))) fun a F => ?_
                    refine doff 61 F rfl (by kernel_rfl) NP HS fun a F => ?_
                    refine doff 62 F rfl (by kernel_rfl) NP HS fun a F => ?_
                    refine dq 63 F rfl (by kernel_rfl) NP HS (fun w S => (r_pickF (F.ev (x := .tmp 138) rfl) (F.ev (x := .const (.bool false)) rfl))) fun a F => ?_
                    refine dq 64 F rfl (by kernel_rfl) NP HS (fun w S => (r_mv (F.ev (x := .tmp 141) rfl))) fun a F => ?_
                    refine doff 65 F rfl (by kernel_rfl) NP HS fun a F => ?_
                    refine doff 66 F rfl (by kernel_rfl) NP HS fun a F => ?_
                    refine doff 67 F rfl (by kernel_rfl) NP HS fun a F => ?_
                    refine dq 68 F rfl (by kernel_rfl) NP HS (fun w S => (r_pickF (F.ev (x := .tmp 142) rfl) (F.ev (x := .const (.bool false)) rfl))) fun a F => ?_
                    refine dq 69 F rfl (by kernel_rfl) NP HS (fun w S => (r_mv (F.ev (x := .tmp 146) rfl))) fun a F => ?_
                    refine doff 70 F rfl (by kernel_rfl) NP HS fun a F => ?_
                    refine doff 71 F rfl (by kernel_rfl) NP HS fun a F => ?_
                    refine doff 72 F rfl (by kernel_rfl) NP HS fun a F => ?_
                    refine dq 73 F rfl (by kernel_rfl) NP HS (fun w S => (r_pickF (F.ev (x := .tmp 147) rfl) (F.ev (x := .const (.bool false)) rfl))) fun a F => ?_
                    refine dq 74 F rfl (by kernel_rfl) NP HS (fun w S => (r_as (F.ev (x := .tmp 151) rfl))) fun a F => ?_
                    refine ddone (by kernel_rfl) ?_
                    replace F := F.only [0] (l' := [(0, .bool false)]) rfl
                    try dsimp only at k_82
                    obtain rfl := Option.some.inj k_82
                    exact ⟨_, rfl, F.only [0] rfl, H.px6.px5.px4.px3.px2.px1.px0.fx4.fx3.fx2.fx0⟩
                · rw [if_neg c87] at k_82
                  rw [decide_eq_false c87] at F
                  refine doff 15 F rfl (by kernel_rfl) NP HS fun a F => ?_
                  refine doff 16 F rfl (by kernel_rfl) NP HS fun a F => ?_
                  refine dq 17 F rfl (by kernel_rfl) NP HS (fun w S => (r_pickF (F.ev (x := .tmp 92) rfl) (F.ev (x := .const (.bool false)) rfl))) fun a F => ?_
                  refine dq 18 F rfl (by kernel_rfl) NP HS (fun w S => (r_mv (F.ev (x := .tmp 95) rfl))) fun a F => ?_
                  refine doff 19 F rfl (by kernel_rfl) NP HS fun a F => ?_
                  refine doff 20 F rfl (by kernel_rfl) NP HS fun a F => ?_
                  refine dq 21 F rfl (by kernel_rfl) NP HS (fun w S => (r_pickF (F.ev (x := .tmp 96) rfl) (F.ev (x := .const (.bool false)) rfl))) fun a F => ?_
                  refine dq 22 F rfl (by kernel_rfl) NP HS (fun w S => (r_mv (F.ev (x := .tmp 99) rfl))) fun a F => ?_
                  refine doff 23 F rfl (by kernel_rfl) NP HS fun a F => ?_
                  refine doff 24 F rfl (by kernel_rfl) NP HS fun a F => ?_
                  refine dq 25 F rfl (by kernel_rfl) NP HS (fun w S => (r_pickF (F.ev (x := .tmp 100) rfl) (F.ev (x := .const (.bool false)) rfl))) fun a F => ?_
                  refine dq 26 F rfl (by kernel_rfl) NP HS (fun w S => (r_mv (F.ev (x := .tmp 103) rfl))) fun a F => ?_
                  refine doff 27 F rfl (by kernel_rfl) NP HS fun a F => ?_
                  refine doff 28 F rfl (by kernel_rfl) NP HS fun a F => ?_
                  refine dq 29 F rfl (by kernel_rfl) NP HS (fun w S => (r_pickF (F.ev (x := .tmp 104) rfl) (F.ev (x := .const (.bool false)) rfl))) fun a F => ?_
                  refine dq 30 F rfl (by kernel_rfl) NP HS (fun w S => (r_mv (F.ev (x := .tmp 107) rfl))) fun a F => ?_
                  refine doff 31 F rfl (by kernel_rfl) NP HS fun a F => ?_
                  refine doff 32 F rfl (by kernel_rfl) NP HS fun a F => ?_
                  refine dq 33 F rfl (by kernel_rfl) NP HS (fun w S => (r_pickF (F.ev (x := .tmp 108) rfl) (F.ev (x := .const (.bool false)) rfl))) fun a F => ?_
                  refine dq 34 F rfl (by kernel_rfl) NP HS (fun w S => (r_mv (F.ev (x := .tmp 111) rfl))) fun a F => ?_
                  refine doff 35 F rfl (by kernel_rfl) NP HS fun a F => ?_
                  refine doff 36 F rfl (by kernel_rfl) NP HS fun a F => ?_
                  refine doff 37 F rfl (by kernel_rfl) NP HS fun a F => ?_
                  refine doff 38 F rfl (by kernel_rfl) NP HS fun a F => ?_
                  refine doff 39 F rfl (by kernel_rfl) NP HS fun a F => ?_
                  refine dq 40 F rfl (by kernel_rfl) NP HS (fun w S => (r_pickF (F.ev (x := .tmp 112) rfl) (F.ev (x := .const (.bool false)) rfl))) fun a F => ?_
                  refine dq 41 F rfl (by kernel_rfl) NP HS (fun w S => (r_mv (F.ev (x := .tmp 118) rfl))) fun a F => ?_
                  refine doff 42 F rfl (by kernel_rfl) NP HS fun a F => ?_
                  refine doff 43 F rfl (by kernel_rfl) NP HS fun a F => ?_
                  refine dq 44 F rfl (by kernel_rfl) NP HS (fun w S => (r_pickF (F.ev (x := .tmp 119) rfl) (F.ev (x := .const (.bool false)) rfl))) fun a F => ?_
                  refine dq 45 F rfl (by kernel_rfl) NP HS (fun w S => (r_mv (F.ev (x := .tmp 122) rfl))) fun a F => ?_
                  refine doff 46 F rfl (by kernel_rfl) NP HS fun a F => ?_
                  refine doff 47 F rfl (by kernel_rfl) NP HS fun a F => ?_
                  refine doff 48 F rfl (by kernel_rfl) NP HS fun a F => ?_
                  refine doff 49 F rfl (by kernel_rfl) NP HS fun a F => ?_
                  refine doff 50 F rfl (by kernel_rfl) NP HS fun a F => ?_
                  refine dq 51 F rfl (by kernel_rfl) NP HS (fun w S => (r_pickF (F.ev (x := .tmp 123) rfl) (F.ev (x := .const (.bool false)) rfl))) fun a F => ?_
                  refine dq 52 F rfl (by kernel_rfl) NP HS (fun w S => (r_mv (F.ev (x := .tmp 129) rfl))) fun a F => ?_
                  refine doff 53 F rfl (by kernel_rfl) NP HS fun a F => ?_
                  refine doff 54 F rfl (by kernel_rfl) NP HS fun a F => ?_
                  refine dq 55 F rfl (by kernel_rfl) NP HS (fun w S => (r_pickF (F.ev (x := .tmp 130) rfl) (F.ev (x := .const (.bool false)) rfl))) fun a F => ?_
                  refine dq 56 F rfl (by kernel_rfl) NP HS (fun w S => (r_mv (F.ev (x := .tmp 133) rfl))) fun a F => ?_
                  refine doff 57 F rfl (by kernel_rfl) NP HS fun a F => ?_
                  refine doff 58 F rfl (by kernel_rfl) NP HS fun a F => ?_
                  refine dq 59 F rfl (by kernel_rfl) NP HS (fun w S => (r_pickF (F.ev (x := .tmp 134) rfl) (F.ev (x := .const (.bool false)) rfl))) fun a F => ?_
                  refine dq 60 F rfl (by kernel_rfl) NP HS (fun w S => (r_mv (F.ev (x := .tmp 137) rfl))) fun a F => ?_
                  refine doff 61 F rfl (by kernel_rfl) NP HS fun a F => ?_
                  refine doff 62 F rfl (by kernel_rfl) NP HS fun a F => ?_
                  refine dq 63 F rfl (by kernel_rfl) NP HS (fun w S => (r_pickF (F.ev (x := .tmp 138) rfl) (F.ev (x := .const (.bool false)) rfl))) fun a F => ?_
                  refine dq 64 F rfl (by kernel_rfl) NP HS (fun w S => (r_mv (F.ev (x := .tmp 141) rfl))) fun a F => ?_
                  refine doff 65 F rfl (by kernel_rfl) NP HS fun a F => ?_
                  refine doff 66 F rfl (by kernel_rfl) NP HS fun a F => ?_
                  refine doff 67 F rfl (by kernel_rfl) NP HS fun a F => ?_
                  refine dq 68 F rfl (by kernel_rfl) NP HS (fun w S => (r_pickF (F.ev (x := .tmp 142) rfl) (F.ev (x := .const (.bool false)) rfl))) fun a F => ?_
                  refine dq 69 F rfl (by kernel_rfl) NP HS (fun w S => (r_mv (F.ev (x := .tmp 146) rfl))) fun a F => ?_
                  refine doff 70 F rfl (by kernel_rfl) NP HS fun a F => ?_
                  refine doff 71 F rfl (by kernel_rfl) NP HS fun a F => ?_
                  refine doff 72 F rfl (by kernel_rfl) NP HS fun a F => ?_
                  refine dq 73 F rfl (by kernel_rfl) NP HS (fun w S => (r_pickF (F.ev (x := .tmp 147) rfl) (F.ev (x := .const (.bool false)) rfl))) fun a F => ?_
                  refine dq 74 F rfl (by kernel_rfl) NP HS (fun w S => (r_as (F.ev (x := .tmp 151) rfl))) fun a F => ?_
                  refine ddone (by kernel_rfl) ?_
                  replace F := F.only [0] (l' := [(0, .bool false)]) rfl
                  try dsimp only at k_82
                  obtain rfl := Option.some.inj k_82
                  exact ⟨_, rfl, F.only [0] rfl, H.px6.px5.px4.px3.px2.px1.px0.fx4.fx3.fx2.fx0⟩
              · rw [if_neg c86] at k_82
                rw [decide_eq_false c86] at F
                refine doff 11 F rfl (by kernel_rfl) NP HS fun a F => ?_
                refine doff 12 F rfl (by kernel_rfl) NP HS fun a F => ?_
                refine dq 13 F rfl (by kernel_rfl) NP HS (fun w S => (r_pickF (F.ev (x := .tmp 88) rfl) (F.ev (x := .const (.bool false)) rfl))) fun a F => ?_
                refine dq 14 F rfl (by kernel_rfl) NP HS (fun w S => (r_mv (F.ev (x := .tmp 91) rfl))) fun a F => ?_
                refine doff 15 F rfl (by kernel_rfl) NP HS fun a F => ?_
                refine doff 16 F rfl (by kernel_rfl) NP HS fun a F => ?_
                refine dq 17 F rfl (by kernel_rfl) NP HS (fun w S => (r_pickF (F.ev (x := .tmp 92) rfl) (F.ev (x := .const (.bool false)) rfl))) fun a F => ?_
                refine dq 18 F rfl (by kernel_rfl) NP HS (fun w S => (r_mv (F.ev (x := .tmp 95) rfl))) fun a F => ?_
                refine doff 19 F rfl (by kernel_rfl) NP HS fun a F => ?_
                refine doff 20 F rfl (by kernel_rfl) NP HS fun a F => ?_
                refine dq 21 F rfl (by kernel_rfl) NP HS (fun w S => (r_pickF (F.ev (x := .tmp 96) rfl) (F.ev (x := .const (.bool false)) rfl))) fun a F => ?_
                refine dq 22 F rfl (by kernel_rfl) NP HS (fun w S => (r_mv (F.ev (x := .tmp 99) rfl))) fun a F => ?_
                refine doff 23 F rfl (by kernel_rfl) NP HS fun a F => ?_
                refine doff 24 F rfl (by kernel_rfl) NP HS fun a F => ?_
                refine dq 25 F rfl (by kernel_rfl) NP HS (fun w S => (r_pickF (F.ev (x := .tmp 100) rfl) (F.ev (x := .const (.bool false)) rfl))) fun a F => ?_
                refine dq 26 F rfl (by kernel_rfl) NP HS (fun w S => (r_mv (F.ev (x := .tmp 103) rfl))) fun a F => ?_
                refine doff 27 F rfl (by kernel_rfl) NP HS fun a F => ?_
                refine doff 28 F rfl (by kernel_rfl) NP HS fun a F => ?_
                refine dq 29 F rfl (by kernel_rfl) NP HS (fun w S => (r_pickF (F.ev (x := .tmp 104) rfl) (F.ev (x := .const (.bool false)) rfl))) fun a F => ?_
                refine dq 30 F rfl (by kernel_rfl) NP HS (fun w S => (r_mv (F.ev (x := .tmp 107) rfl))) fun a F => ?_
                refine doff 31 F rfl (by kernel_rfl) NP HS fun a F => ?_
                refine doff 32 F rfl (by kernel_rfl) NP HS fun a F => ?_
                refine dq 33 F rfl (by kernel_rfl) NP HS (fun w S => (r_pickF (F.ev (x := .tmp 108) rfl) (F.ev (x := .const (.bool false)) rfl))) fun a F => ?_
                refine dq 34 F rfl (by kernel_rfl) NP HS (fun w S => (r_mv (F.ev (x := .tmp 111) rfl))) fun a F => ?_
                refine doff 35 F rfl (by kernel_rfl) NP HS fun a F => ?_
                refine doff 36 F rfl (by kernel_rfl) NP HS fun a F => ?_
                refine doff 37 F rfl (by kernel_rfl) NP HS fun a F => ?_
                refine doff 38 F rfl (by kernel_rfl) NP HS fun a F => ?_
                refine doff 39 F rfl (by kernel_rfl) NP HS fun a F => ?_
                refine dq 40 F rfl (by kernel_rfl) NP HS (fun w S => (r_pickF (F.ev (x := .tmp 112) rfl) (F.ev (x := .const (.bool false)) rfl))) fun a F => ?_
                refine dq 41 F rfl (by kernel_rfl) NP HS (fun w S => (r_mv (F.ev (x := .tmp 118) rfl))) fun a F => ?_
                refine doff 42 F rfl (by kernel_rfl) NP HS fun a F => ?_
                refine doff 43 F rfl (by kernel_rfl) NP HS fun a F => ?_
                refine dq 44 F rfl (by kernel_rfl) NP HS (fun w S => (r_pickF (F.ev (x := .tmp 119) rfl) (F.ev (x := .const (.bool false)) rfl))) fun a F => ?_
                refine dq 45 F rfl (by kernel_rfl) NP HS (fun w S => (r_mv (F.ev (x := .tmp 122) rfl))) fun a F => ?_
                refine doff 46 F rfl (by kernel_rfl) NP HS fun a F => ?_
                refine doff 47 F rfl (by kernel_rfl) NP HS fun a F => ?_
                refine doff 48 F rfl (by kernel_rfl) NP HS fun a F => ?_
                refine doff 49 F rfl (by kernel_rfl) NP HS fun a F => ?_
                refine doff 50 F rfl (by kernel_rfl) NP HS fun a F => ?_
                refine dq 51 F rfl (by kernel_rfl) NP HS (fun w S => (r_pickF (F.ev (x := .tmp 123) rfl) (F.ev (x := .const (.bool false)) rfl))) fun a F => ?_
                refine dq 52 F rfl (by kernel_rfl) NP HS (fun w S => (r_mv (F.ev (x := .tmp 129) rfl))) fun a F => ?_
                refine doff 53 F rfl (by kernel_rfl) NP HS fun a F => ?_
                refine doff 54 F rfl (by kernel_rfl) NP HS fun a F => ?_
                refine dq 55 F rfl (by kernel_rfl) NP HS (fun w S => (r_pickF (F.ev (x := .tmp 130) rfl) (F.ev (x := .const (.bool false)) rfl))) fun a F => ?_
                refine dq 56 F rfl (by kernel_rfl) NP HS (fun w S => (r_mv (F.ev (x := .tmp 133) rfl))) fun a F => ?_
                refine doff 57 F rfl (by kernel_rfl) NP HS fun a F => ?_
                refine doff 58 F rfl (by kernel_rfl) NP HS fun a F => ?_
                refine dq 59 F rfl (by kernel_rfl) NP HS (fun w S => (r_pickF (F.ev (x := .tmp 134) rfl) (F.ev (x := .const (.bool false)) rfl))) fun a F => ?_
                refine dq 60 F rfl (by kernel_rfl) NP HS (fun w S => (r_mv (F.ev (x := .tmp 137) rfl))) fun a F => ?_
                refine doff 61 F rfl (by kernel_rfl) NP HS fun a F => ?_
                refine doff 62 F rfl (by kernel_rfl) NP HS fun a F => ?_
                refine dq 63 F rfl (by kernel_rfl) NP HS (fun w S => (r_pickF (F.ev (x := .tmp 138) rfl) (F.ev (x := .const (.bool false)) rfl))) fun a F => ?_
                refine dq 64 F rfl (by kernel_rfl) NP HS (fun w S => (r_mv (F.ev (x := .tmp 141) rfl))) fun a F => ?_
                refine doff 65 F rfl (by kernel_rfl) NP HS fun a F => ?_
                refine doff 66 F rfl (by kernel_rfl) NP HS fun a F => ?_
                refine doff 67 F rfl (by kernel_rfl) NP HS fun a F => ?_
                refine dq 68 F rfl (by kernel_rfl) NP HS (fun w S => (r_pickF (F.ev (x := .tmp 142) rfl) (F.ev (x := .const (.bool false)) rfl))) fun a F => ?_
                refine dq 69 F rfl (by kernel_rfl) NP HS (fun w S => (r_mv (F.ev (x := .tmp 146) rfl))) fun a F => ?_
                refine doff 70 F rfl (by kernel_rfl) NP HS fun a F => ?_
                refine doff 71 F rfl (by kernel_rfl) NP HS fun a F => ?_
                refine doff 72 F rfl (by kernel_rfl) NP HS fun a F => ?_
                refine dq 73 F rfl (by kernel_rfl) NP HS (fun w S => (r_pickF (F.ev (x := .tmp 147) rfl) (F.ev (x := .const (.bool false)) rfl))) fun a F => ?_
                refine dq 74 F rfl (by kernel_rfl) NP HS (fun w S => (r_as (F.ev (x := .tmp 151) rfl))) fun a F => ?_
                refine ddone (by kernel_rfl) ?_
                replace F := F.only [0] (l' := [(0, .bool false)]) rfl
                try dsimp only at k_82
                obtain rfl := Option.some.inj k_82
                exact ⟨_, rfl, F.only [0] rfl, H.px6.px5.px4.px3.px2.px1.px0.fx4.fx3.fx2.fx0⟩
            · rw [if_neg c85] at k_82
              rw [decide_eq_false c85] at F
              refine doff 7 F rfl (by kernel_rfl) NP HS fun a F => ?_
              refine doff 8 F rfl (by kernel_rfl) NP HS fun a F => ?_
              refine dq 9 F rfl (by kernel_rfl) NP HS (fun w S => (r_pickF (F.ev (x := .tmp 84) rfl) (F.ev (x := .const (.bool false)) rfl))) fun a F => ?_
              refine dq 10 F rfl (by kernel_rfl) NP HS (fun w S => (r_mv (F.ev (x := .tmp 87) rfl))) fun a F => ?_
              refine doff 11 F rfl (by kernel_rfl) NP HS fun a F => ?_
              refine doff 12 F rfl (by kernel_rfl) NP HS fun a F => ?_
              refine dq 13 F rfl (by kernel_rfl) NP HS (fun w S => (r_pickF (F.ev (x := .tmp 88) rfl) (F.ev (x := .const (.bool false)) rfl))) fun a F => ?_
              refine dq 14 F rfl (by kernel_rfl) NP HS (fun w S => (r_mv (F.ev (x := .tmp 91) rfl))) fun a F => ?_
              refine doff 15 F rfl (by kernel_rfl) NP HS fun a F => ?_
              refine doff 16 F rfl (by kernel_rfl) NP HS fun a F => ?_
              refine dq 17 F rfl (by kernel_rfl) NP HS (fun w S => (r_pickF (F.ev (x := .tmp 92) rfl) (F.ev (x := .const (.bool false)) rfl))) fun a F => ?_
              refine dq 18 F rfl (by kernel_rfl) NP HS (fun w S => (r_mv (F.ev (x := .tmp 95) rfl))) fun a F => ?_
              refine doff 19 F rfl (by kernel_rfl) NP HS fun a F => ?_
              refine doff 20 F rfl (by kernel_rfl) NP HS fun a F => ?_
              refine dq 21 F rfl (by kernel_rfl) NP HS (fun w S => (r_pickF (F.ev (x := .tmp 96) rfl) (F.ev (x := .const (.bool false)) rfl))) fun a F => ?_
              refine dq 22 F rfl (by kernel_rfl) NP HS (fun w S => (r_mv (F.ev (x := .tmp 99) rfl))) fun a F => ?_
              refine doff 23 F rfl (by kernel_rfl) NP HS fun a F => ?_
              refine doff 24 F rfl (by kernel_rfl) NP HS fun a F => ?_
              refine dq 25 F rfl (by kernel_rfl) NP HS (fun w S => (r_pickF (F.ev (x := .tmp 100) rfl) (F.ev (x := .const (.bool false)) rfl))) fun a F => ?_
              refine dq 26 F rfl (by kernel_rfl) NP HS (fun w S => (r_mv (F.ev (x := .tmp 103) rfl))) fun a F => ?_
              refine doff 27 F rfl (by kernel_rfl) NP HS fun a F => ?_
              refine doff 28 F rfl (by kernel_rfl) NP HS fun a F => ?_
              refine dq 29 F rfl (by kernel_rfl) NP HS (fun w S => (r_pickF (F.ev (x := .tmp 104) rfl) (F.ev (x := .const (.bool false)) rfl))) fun a F => ?_
              refine dq 30 F rfl (by kernel_rfl) NP HS (fun w S => (r_mv (F.ev (x := .tmp 107) rfl))) fun a F => ?_
              refine doff 31 F rfl (by kernel_rfl) NP HS fun a F => ?_
              refine doff 32 F rfl (by kernel_rfl) NP HS fun a F => ?_
              refine dq 33 F rfl (by kernel_rfl) NP HS (fun w S => (r_pickF (F.ev (x := .tmp 108) rfl) (F.ev (x := .const (.bool false)) rfl))) fun a F => ?_
              refine dq 34 F rfl (by kernel_rfl) NP HS (fun w S => (r_mv (F.ev (x := .tmp 111) rfl))) fun a F => ?_
              refine doff 35 F rfl (by kernel_rfl) NP HS fun a F => ?_
              refine doff 36 F rfl (by kernel_rfl) NP HS fun a F => ?_
              refine doff 37 F rfl (by kernel_rfl) NP HS fun a F => ?_
              refine doff 38 F rfl (by kernel_rfl) NP HS fun a F => ?_
              refine doff 39 F rfl (by kernel_rfl) NP HS fun a F => ?_
              refine dq 40 F rfl (by kernel_rfl) NP HS (fun w S => (r_pickF (F.ev (x := .tmp 112) rfl) (F.ev (x := .const (.bool false)) rfl))) fun a F => ?_
              refine dq 41 F rfl (by kernel_rfl) NP HS (fun w S => (r_mv (F.ev (x := .tmp 118) rfl))) fun a F => ?_
              refine doff 42 F rfl (by kernel_rfl) NP HS fun a F => ?_
              refine doff 43 F rfl (by kernel_rfl) NP HS fun a F => ?_
              refine dq 44 F rfl (by kernel_rfl) NP HS (fun w S => (r_pickF (F.ev (x := .tmp 119) rfl) (F.ev (x := .const (.bool false)) rfl))) fun a F => ?_
              refine dq 45 F rfl (by kernel_rfl) NP HS (fun w S => (r_mv (F.ev (x := .tmp 122) rfl))) fun a F => ?_
              refine doff 46 F rfl (by kernel_rfl) NP HS fun a F => ?_
              refine doff 47 F rfl (by kernel_rfl) NP HS fun a F => ?_
              refine doff 48 F rfl (by kernel_rfl) NP HS fun a F => ?_
              refine doff 49 F rfl (by kernel_rfl) NP HS fun a F => ?_
              refine doff 50 F rfl (by kernel_rfl) NP HS fun a F => ?_
              refine dq 51 F rfl (by kernel_rfl) NP HS (fun w S => (r_pickF (F.ev (x := .tmp 123) rfl) (F.ev (x := .const (.bool false)) rfl))) fun a F => ?_
              refine dq 52 F rfl (by kernel_rfl) NP HS (fun w S => (r_mv (F.ev (x := .tmp 129) rfl))) fun a F => ?_
              refine doff 53 F rfl (by kernel_rfl) NP HS fun a F => ?_
              refine doff 54 F rfl (by kernel_rfl) NP HS fun a F => ?_
              refine dq 55 F rfl (by kernel_rfl) NP HS (fun w S => (r_pickF (F.ev (x := .tmp 130) rfl) (F.ev (x := .const (.bool false)) rfl))) fun a F => ?_
              refine dq 56 F rfl (by kernel_rfl) NP HS (fun w S => (r_mv (F.ev (x := .tmp 133) rfl))) fun a F => ?_
              refine doff 57 F rfl (by kernel_rfl) NP HS fun a F => ?_
              refine doff 58 F rfl (by kernel_rfl) NP HS fun a F => ?_
              refine dq 59 F rfl (by kernel_rfl) NP HS (fun w S => (r_pickF (F.ev (x := .tmp 134) rfl) (F.ev (x := .const (.bool false)) rfl))) fun a F => ?_
              refine dq 60 F rfl (by kernel_rfl) NP HS (fun w S => (r_mv (F.ev (x := .tmp 137) rfl))) fun a F => ?_
              refine doff 61 F rfl (by kernel_rfl) NP HS fun a F => ?_
              refine doff 62 F rfl (by kernel_rfl) NP HS fun a F => ?_
              refine dq 63 F rfl (by kernel_rfl) NP HS (fun w S => (r_pickF (F.ev (x := .tmp 138) rfl) (F.ev (x := .const (.bool false)) rfl))) fun a F => ?_
              refine dq 64 F rfl (by kernel_rfl) NP HS (fun w S => (r_mv (F.ev (x := .tmp 141) rfl))) fun a F => ?_
              refine doff 65 F rfl (by kernel_rfl) NP HS fun a F => ?_
              refine doff 66 F rfl (by kernel_rfl) NP HS fun a F => ?_
              refine doff 67 F rfl (by kernel_rfl) NP HS fun a F => ?_
              refine dq 68 F rfl (by kernel_rfl) NP HS (fun w S => (r_pickF (F.ev (x := .tmp 142) rfl) (F.ev (x := .const (.bool false)) rfl))) fun a F => ?_
              refine dq 69 F rfl (by kernel_rfl) NP HS (fun w S => (r_mv (F.ev (x := .tmp 146) rfl))) fun a F => ?_
              refine doff 70 F rfl (by kernel_rfl) NP HS fun a F => ?_
              refine doff 71 F rfl (by kernel_rfl) NP HS fun a F => ?_
              refine doff 72 F rfl (by kernel_rfl) NP HS fun a F => ?_
              refine dq 73 F rfl (by kernel_rfl) NP HS (fun w S => (r_pickF (F.ev (x := .tmp 147) rfl) (F.ev (x := .const (.bool false)) rfl))) fun a F => ?_
              refine dq 74 F rfl (by kernel_rfl) NP HS (fun w S => (r_as (F.ev (x := .tmp 151) rfl))) fun a F => ?_
              refine ddone (by kernel_rfl) ?_
              replace F := F.only [0] (l' := [(0, .bool false)]) rfl
              try dsimp only at k_82
              obtain rfl := Option.some.inj k_82
              exact ⟨_, rfl, F.only [0] rfl, H.px6.px5.px4.px3.px2.px1.px0.fx4.fx3.fx2.fx0⟩
          · rw [if_neg c84] at k_82
            rw [decide_eq_false c84] at F
            refine doff 3 F rfl (by kernel_rfl) NP HS fun a F => ?_
            refine doff 4 F rfl (by kernel_rfl) NP HS fun a F => ?_
            refine dq 5 F rfl (by kernel_rfl) NP HS (fun w S => (r_pickF (F.ev (x := .tmp 80) rfl) (F.ev (x := .const (.bool false)) rfl))) fun a F => ?_
            refine dq 6 F rfl (by kernel_rfl) NP HS (fun w S => (r_mv (F.ev (x := .tmp 83) rfl))) fun a F => ?_
            refine doff 7 F rfl (by kernel_rfl) NP HS fun a F => ?_
            refine doff 8 F rfl (by kernel_rfl) NP HS fun a F => ?_
            refine dq 9 F rfl (by kernel_rfl) NP HS (fun w S => (r_pickF (F.ev (x := .tmp 84) rfl) (F.ev (x := .const (.bool false)) rfl))) fun a F => ?_
            refine dq 10 F rfl (by kernel_rfl) NP HS (fun w S => (r_mv (F.ev (x := .tmp 87) rfl))) fun a F => ?_
            refine doff 11 F rfl (by kernel_rfl) NP HS fun a F => ?_
            refine doff 12 F rfl (by kernel_rfl) NP HS fun a F => ?_
            refine dq 13 F rfl (by kernel_rfl) NP HS (fun w S => (r_pickF (F.ev (x := .tmp 88) rfl) (F.ev (x := .const (.bool false)) rfl))) fun a F => ?_
            refine dq 14 F rfl (by kernel_rfl) NP HS (fun w S => (r_mv (F.ev (x := .tmp 91) rfl))) fun a F => ?_
            refine doff 15 F rfl (by kernel_rfl) NP HS fun a F => ?_
            refine doff 16 F rfl (by kernel_rfl) NP HS fun a F => ?_
            refine dq 17 F rfl (by kernel_rfl) NP HS (fun w S => (r_pickF (F.ev (x := .tmp 92) rfl) (F.ev (x := .const (.bool false)) rfl))) fun a F => ?_
            refine dq 18 F rfl (by kernel_rfl) NP HS (fun w S => (r_mv (F.ev (x := .tmp 95) rfl))) fun a F => ?_
            refine doff 19 F rfl (by kernel_rfl) NP HS fun a F => ?_
            refine doff 20 F rfl (by kernel_rfl) NP HS fun a F => ?_
            refine dq 21 F rfl (by kernel_rfl) NP HS (fun w S => (r_pickF (F.ev (x := .tmp 96) rfl) (F.ev (x := .const (.bool false)) rfl))) fun a F => ?_
            refine dq 22 F rfl (by kernel_rfl) NP HS (fun w S => (r_mv (F.ev (x := .tmp 99) rfl))) fun a F => ?_
            refine doff 23 F rfl (by kernel_rfl) NP HS fun a F => ?_
            refine doff 24 F rfl (by kernel_rfl) NP HS fun a F => ?_
            refine dq 25 F rfl (by kernel_rfl) NP HS (fun w S => (r_pickF (F.ev (x := .tmp 100) rfl) (F.ev (x := .const (.bool false)) rfl))) fun a F => ?_
            refine dq 26 F rfl (by kernel_rfl) NP HS (fun w S => (r_mv (F.ev (x := .tmp 103) rfl))) fun a F => ?_
            refine doff 27 F rfl (by kernel_rfl) NP HS fun a F => ?_
            refine doff 28 F rfl (by kernel_rfl) NP HS fun a F => ?_
            refine dq 29 F rfl (by kernel_rfl) NP HS (fun w S => (r_pickF (F.ev (x := .tmp 104) rfl) (F.ev (x := .const (.bool false)) rfl))) fun a F => ?_
            refine dq 30 F rfl (by kernel_rfl) NP HS (fun w S => (r_mv (F.ev (x := .tmp 107) rfl))) fun a F => ?_
            refine doff 31 F rfl (by kernel_rfl) NP HS fun a F => ?_
            refine doff 32 F rfl (by kernel_rfl) NP HS fun a F => ?_
            refine dq 33 F rfl (by kernel_rfl) NP HS (fun w S => (r_pickF (F.ev (x := .tmp 108) rfl) (F.ev (x := .const (.bool false)) rfl))) fun a F => ?_
            refine dq 34 F rfl (by kernel_rfl) NP HS (fun w S => (r_mv (F.ev (x := .tmp 111) rfl))) fun a F => ?_
            refine doff 35 F rfl (by kernel_rfl) NP HS fun a F => ?_
            refine doff 36 F rfl (by kernel_rfl) NP HS fun a F => ?_
            refine doff 37 F rfl (by kernel_rfl) NP HS fun a F => ?_
            refine doff 38 F rfl (by kernel_rfl) NP HS fun a F => ?_
            refine doff 39 F rfl (by kernel_rfl) NP HS fun a F => ?_
            refine dq 40 F rfl (by kernel_rfl) NP HS (fun w S => (r_pickF (F.ev (x := .tmp 112) rfl) (F.ev (x := .const (.bool false)) rfl))) fun a F => ?_
            refine dq 41 F rfl (by kernel_rfl) NP HS (fun w S => (r_mv (F.ev (x := .tmp 118) rfl))) fun a F => ?_
            refine doff 42 F rfl (by kernel_rfl) NP HS fun a F => ?_
            refine doff 43 F rfl (by kernel_rfl) NP HS fun a F => ?_
            refine dq 44 F rfl (by kernel_rfl) NP HS (fun w S => (r_pickF (F.ev (x := .tmp 119) rfl) (F.ev (x := .const (.bool false)) rfl))) fun a F => ?_
            refine dq 45 F rfl (by kernel_rfl) NP HS (fun w S => (r_mv (F.ev (x := .tmp 122) rfl))) fun a F => ?_
            refine doff 46 F rfl (by kernel_rfl) NP HS fun a F => ?_
            refine doff 47 F rfl (by kernel_rfl) NP HS fun a F => ?_
            refine doff 48 F rfl (by kernel_rfl) NP HS fun a F => ?_
            refine doff 49 F rfl (by kernel_rfl) NP HS fun a F => ?_
            refine doff 50 F rfl (by kernel_rfl) NP HS fun a F => ?_
            refine dq 51 F rfl (by kernel_rfl) NP HS (fun w S => (r_pickF (F.ev (x := .tmp 123) rfl) (F.ev (x := .const (.bool false)) rfl))) fun a F => ?_
            refine dq 52 F rfl (by kernel_rfl) NP HS (fun w S => (r_mv (F.ev (x := .tmp 129) rfl))) fun a F => ?_
            refine doff 53 F rfl (by kernel_rfl) NP HS fun a F => ?_
            refine doff 54 F rfl (by kernel_rfl) NP HS fun a F => ?_
            refine dq 55 F rfl (by kernel_rfl) NP HS (fun w S => (r_pickF (F.ev (x := .tmp 130) rfl) (F.ev (x := .const (.bool false)) rfl))) fun a F => ?_
            refine dq 56 F rfl (by kernel_rfl) NP HS (fun w S => (r_mv (F.ev (x := .tmp 133) rfl))) fun a F => ?_
            refine doff 57 F rfl (by kernel_rfl) NP HS fun a F => ?_
            refine doff 58 F rfl (by kernel_rfl) NP HS fun a F => ?_
            refine dq 59 F rfl (by kernel_rfl) NP HS (fun w S => (r_pickF (F.ev (x := .tmp 134) rfl) (F.ev (x := .const (.bool false)) rfl))) fun a F => ?_
            refine dq 60 F rfl (by kernel_rfl) NP HS (fun w S => (r_mv (F.ev (x := .tmp 137) rfl))) fun a F => ?_
            refine doff 61 F rfl (by kernel_rfl) NP HS fun a F => ?_
            refine doff 62 F rfl (by kernel_rfl) NP HS fun a F => ?_
            refine dq 63 F rfl (by kernel_rfl) NP HS (fun w S => (r_pickF (F.ev (x := .tmp 138) rfl) (F.ev (x := .const (.bool false)) rfl))) fun a F => ?_
            refine dq 64 F rfl (by kernel_rfl) NP HS (fun w S => (r_mv (F.ev (x := .tmp 141) rfl))) fun a F => ?_
            refine doff 65 F rfl (by kernel_rfl) NP HS fun a F => ?_
            refine doff 66 F rfl (by kernel_rfl) NP HS fun a F => ?_
            refine doff 67 F rfl (by kernel_rfl) NP HS fun a F => ?_
            refine dq 68 F rfl (by kernel_rfl) NP HS (fun w S => (r_pickF (F.ev (x := .tmp 142) rfl) (F.ev (x := .const (.bool false)) rfl))) fun a F => ?_
            refine dq 69 F rfl (by kernel_rfl) NP HS (fun w S => (r_mv (F.ev (x := .tmp 146) rfl))) fun a F => ?_
            refine doff 70 F rfl (by kernel_rfl) NP HS fun a F => ?_
            refine doff 71 F rfl (by kernel_rfl) NP HS fun a F => ?_
            refine doff 72 F rfl (by kernel_rfl) NP HS fun a F => ?_
            refine dq 73 F rfl (by kernel_rfl) NP HS (fun w S => (r_pickF (F.ev (x := .tmp 147) rfl) (F.ev (x := .const (.bool false)) rfl))) fun a F => ?_
            refine dq 74 F rfl (by kernel_rfl) NP HS (fun w S => (r_as (F.ev (x := .tmp 151) rfl))) fun a F => ?_
            refine ddone (by kernel_rfl) ?_
            replace F := F.only [0] (l' := [(0, .bool false)]) rfl
            try dsimp only at k_82
            obtain rfl := Option.some.inj k_82
            exact ⟨_, rfl, F.only [0] rfl, H.px6.px5.px4.px3.px2.px1.px0.fx4.fx3.fx2.fx0⟩
        · rintro a w ⟨x82, rfl, F, H⟩
          try dsimp only at h F H
          refine wp_ret ?_
          try dsimp only at h
          obtain rfl := Option.some.inj h
          exact RET _ _ (ret1 F rfl rfl ⟨_, rfl, rfl, H.fx0⟩)
      · try dsimp only at h
        refine ls (call F Try.func12 (disk_New_ok (H) e9) rfl rfl fun v w hR a F => ?_)
        obtain ⟨g116, rfl, H⟩ := hR
        refine ls (qv F (r_pne (F.ev (x := .tmp 27) rfl) (F.ev (x := .const (.pointer none)) rfl) Try.underlying25) fun a F => ?_)
        refine ls (qv F (r_pickF (F.ev (x := .tmp 26) rfl) (F.ev (x := .tmp 28) rfl)) fun a F => ?_)
        refine rgend ?_
        replace F := F.only [29, 1] (l' := [(29, .bool true), (1, .pointer (some ⟨g4, 0, none⟩))]) rfl
        refine wp_cond_true (F.ev rfl) ?_
        refine rg ?_
        refine as_ F (v := .bool false) rfl fun a F => ?_
        refine rgend ?_
        refine wp_ret ?_
        try dsimp only at h
        obtain rfl := Option.some.inj h
        exact RET _ _ (ret1 F rfl rfl ⟨_, rfl, rfl, H.fx1.fx0⟩)
    · try dsimp only at h
      refine ls (call F Try.func12 (disk_New_ok (H) e6) rfl rfl fun v w hR a F => ?_)
      obtain ⟨g117, rfl, H⟩ := hR
      refine ls (qv F (r_pne (F.ev (x := .tmp 23) rfl) (F.ev (x := .const (.pointer none)) rfl) Try.underlying25) fun a F => ?_)
      refine ls (qv F (r_pickF (F.ev (x := .tmp 22) rfl) (F.ev (x := .tmp 24) rfl)) fun a F => ?_)
      refine mv F rfl fun a F => ?_
      refine ls (off F fun a F => ?_)
      refine ls (off F fun a F => ?_)
      refine ls (qv F (r_pickT (F.ev (x := .tmp 26) rfl) (F.ev (x := .const (.bool true)) rfl)) fun a F => ?_)
      refine rgend ?_
      replace F := F.only [29, 1] (l' := [(29, .bool true), (1, .pointer (some ⟨g4, 0, none⟩))]) rfl
      refine wp_cond_true (F.ev rfl) ?_
      refine rg ?_
      refine as_ F (v := .bool false) rfl fun a F => ?_
      refine rgend ?_
      refine wp_ret ?_
      try dsimp only at h
      obtain rfl := Option.some.inj h
      exact RET _ _ (ret1 F rfl rfl ⟨_, rfl, rfl, H.fx1.fx0⟩)
end Go.Proofs.Ytddfdbpjldcjiaa
