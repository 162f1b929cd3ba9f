/- What the functions compute. Printed by wip/gen. -/
import Derived.Test.YtddfdbpjldcjiaaGL
set_option linter.unusedVariables false
set_option linter.unusedSimpArgs false
namespace Go.Proofs.Ytddfdbpjldcjiaa
open Go Go.RowKit
def law15_DiskOwn_b0 : ((List Int) × Int) → Option ((List Int) × Int ⊕ Unit)
  | (x38, x41) => (if x41 < (x38.length : Int) then (if 0 ≤ x41 ∧ x41 < (x38.length : Int) then some (.inl ((x38.set (x41 : Int).toNat 77), IntKind.i64.wrap (x41 + 1))) else none) else some (.inr ()))
def law15_DiskOwn_f (a0 : Int) (a1 : Bool) : Option (Bool) :=
  ((law15_head_f).bind fun x1 => ((disk_New_f 1).bind fun x3 => match x3 with | none => some false | some x5 => ((law15_Fill_f a0).bind fun x7 => ((disk_Disk_Write_bor_f x5 0 x7).bind fun (x11, x12) => (((if a1 = true then ((disk_Disk_Sync_f x12).bind fun (x17, x18) => some x18) else some x12) : Option (disk_Disk)).bind fun x14 => (if 0 ≤ (0 : Int) ∧ (0 : Int) < (x7.length : Int) then (if 0 ≤ (0 : Int) ∧ (0 : Int) < (x7.length : Int) then ((disk_Disk_Read_f x14 0).bind fun (x33, x34) => ((lp law15_DiskOwn_b0 (x33, 0)).bind fun _ => ((disk_Disk_Read_f x14 0).bind fun (x50, x51) => (((if x1 = true then (if x51 = 0 then ((law15_Fill_f a0).bind fun x60 => some ((decide (x50 = x60)))) else some false) else some false) : Option (Bool)).bind fun x55 => some x55)))) else none) else none))))))
set_option maxHeartbeats 4000000 in
set_option maxRecDepth 20000 in
theorem law15_DiskOwn_ok {w0 w : World} {ps : List PF} {fs : List SF} {a0 : Int} {a1 : Bool} {r0 : Bool} (H : Hp w0 ps fs w) (h : law15_DiskOwn_f a0 a1 = some r0) (ha0 : 0 ≤ a0 ∧ a0 < 256) :
    Calls Try.prog 8 [.int .u8 a0, .bool a1].toArray w fun e w' => ∃ v, e = .returned v ∧ v = .bool r0 ∧ Hp w0 ps fs w' := by
  refine enter [.int .u8 a0, .bool a1] 62 Try.func8 fun Q a NP RET NRM F => ?_
  replace NP : ∀ c a w, ¬ Q (.panic c) a w := fun c a w h => by rcases NP c a w h with h | ⟨w, v, h, _⟩ <;> cases h
  unfold law15_DiskOwn_f at h
  refine rg ?_
  refine as_ F (v := .bool false) rfl fun a F => ?_
  refine rgend ?_
  refine rg ?_
  obtain ⟨x1, e2, h⟩ := Option.bind_eq_some_iff.1 h
  try dsimp only at h
  refine ls (call F Try.func10 (law15_head_ok (H) e2) rfl rfl fun v w hR a F => ?_)
  obtain ⟨rfl, H⟩ := hR
  refine as_ F rfl fun a F => ?_
  refine rgend ?_
  refine rg ?_
  obtain ⟨x3, e4, h⟩ := Option.bind_eq_some_iff.1 h
  try dsimp only at h
  rcases x3 with _ | x5
  · try dsimp only at h
    refine ls (call F Try.func12 (disk_New_ok (H) e4) rfl rfl fun v w hR a F => ?_)
    obtain ⟨rfl, H⟩ := hR
    refine as_ F rfl fun a F => ?_
    refine rgend ?_
    refine wp_seq ?_
    refine rg ?_
    refine mv F rfl fun a F => ?_
    refine ls (qv F (r_peq0 (F.ev (x := .tmp 15) rfl) (F.ev (x := .const (.pointer none)) rfl) Try.underlying25) fun a F => ?_)
    refine rgend ?_
    replace F := F.only [16, 6, 5, 0, 1] (l' := [(16, .bool true), (6, .pointer none), (5, .bool x1), (0, .int .u8 a0), (1, .bool a1)]) rfl
    refine wp_cond_true (F.ev rfl) ?_
    refine rg ?_
    refine as_ F (v := .bool false) rfl fun a F => ?_
    refine rgend ?_
    replace F := F.only [4] (l' := [(4, .bool false)]) rfl
    refine wp_ret ?_
    try dsimp only at h
    obtain rfl := Option.some.inj h
    exact RET _ _ (ret1 F rfl rfl ⟨_, rfl, rfl, H⟩)
  · try dsimp only at h
    refine ls (call F Try.func12 (disk_New_ok (H) e4) rfl rfl fun v w hR a F => ?_)
    obtain ⟨g6, rfl, H⟩ := hR
    refine as_ F rfl fun a F => ?_
    refine rgend ?_
    refine wp_seq ?_
    refine rg ?_
    refine mv F rfl fun a F => ?_
    refine ls (qv F (r_peq (F.ev (x := .tmp 15) rfl) (F.ev (x := .const (.pointer none)) rfl) Try.underlying25) fun a F => ?_)
    refine rgend ?_
    replace F := F.only [16, 6, 5, 0, 1] (l' := [(16, .bool false), (6, .pointer (some ⟨g6, 0, none⟩)), (5, .bool x1), (0, .int .u8 a0), (1, .bool a1)]) rfl
    refine wp_cond_false (F.ev rfl) ?_
    refine wp_skip ?_
    refine rg ?_
    refine mv F rfl fun a F => ?_
    obtain ⟨x7, e8, h⟩ := Option.bind_eq_some_iff.1 h
    try dsimp only at h
    refine ls (call F Try.func24 (law15_Fill_ok (H) e8 ha0) rfl rfl fun v w hR a F => ?_)
    obtain ⟨A9, c10, rfl, H⟩ := hR
    refine as_ F rfl fun a F => ?_
    refine rgend ?_
    refine rg ?_
    refine mv F rfl fun a F => ?_
    refine mv F rfl fun a F => ?_
    obtain ⟨⟨x11, x12⟩, e13, h⟩ := Option.bind_eq_some_iff.1 h
    try dsimp only at h
    refine ls (call F Try.func23 (disk_Disk_Write_bor_ok (H.f1) e13) rfl rfl fun v w hR a F => ?_)
    obtain ⟨rfl, H⟩ := hR
    refine rgend ?_
    replace F := F.only [7, 6, 5, 0, 1] (l' := [(7, .slice A9 x7.length c10), (6, .pointer (some ⟨g6, 0, none⟩)), (5, .bool x1), (0, .int .u8 a0), (1, .bool a1)]) rfl
    refine wp_seq ?_
    refine rg ?_
    refine mv F rfl fun a F => ?_
    refine rgend ?_
    obtain ⟨o_14, k_14, h⟩ := Option.bind_eq_some_iff.1 h
    refine cut (fun a w => ∃ (x14 : disk_Disk), x14 = o_14 ∧ Fr 62 [] [(0, .int .u8 a0), (5, .bool x1), (6, .pointer (some ⟨g6, 0, none⟩)), (7, .slice A9 x7.length c10)] a ∧ Hp w0 ps (own kByte 5 A9 c10 x7 :: obj_disk_Disk g6 x14 :: fs) w) ?_ ?_
    · skip
      by_cases c16 : a1 = true
      · rw [if_pos c16] at k_14
        rw [c16] at F
        refine wp_cond_true (F.ev rfl) ?_
        refine wp_region_lit ?_
        refine mv F rfl fun a F => ?_
        obtain ⟨⟨x17, x18⟩, e19, k_14⟩ := Option.bind_eq_some_iff.1 k_14
        try dsimp only at k_14
        refine ls (call F Try.func21 (disk_Disk_Sync_ok (H) e19) rfl rfl fun v w hR a F => ?_)
        obtain ⟨rfl, H⟩ := hR
        refine wpList_nil ?_
        replace F := F.only [7, 6, 5, 0] (l' := [(7, .slice A9 x7.length c10), (6, .pointer (some ⟨g6, 0, none⟩)), (5, .bool x1), (0, .int .u8 a0)]) rfl
        try dsimp only at k_14
        obtain rfl := Option.some.inj k_14
        exact ⟨_, rfl, F.only [0, 5, 6, 7] rfl, H.f1⟩
      · rw [if_neg c16] at k_14
        rw [Bool.eq_false_iff.2 c16] at F
        refine wp_cond_false (F.ev rfl) ?_
        refine wp_skip ?_
        try dsimp only at k_14
        obtain rfl := Option.some.inj k_14
        exact ⟨_, rfl, F.only [0, 5, 6, 7] rfl, H.f1⟩
    · rintro a w ⟨x14, rfl, F, H⟩
      try dsimp only at h F H
      refine rg ?_
      refine mv F rfl fun a F => ?_
      obtain ⟨c20, h⟩ := guardO h
      obtain ⟨g21, s22, hA, hq24, hl23, H⟩ := H.ixOwn2 0 0 rfl (F.ev (x := .tmp 25) rfl) (F.ev (x := .const (.int .i64 0)) rfl) Try.underlying31 sz5 (by decide) c20.1 c20.2
      have hA25 := hA
      obtain ⟨rfl, hr26⟩ := H.says_byte 0 rfl
      refine ls (qv F (hq24 _ _ _ _ _ _) fun a F => ?_)
      refine ls (qv F (r_ld (F.ev (x := .tmp 26) rfl) (range_cell (j := 0) hl23 rfl) one5) fun a F => ?_)
      refine ls (qv F (r_add (F.ev (x := .tmp 27) rfl) (F.ev (x := .const (.int .u8 1)) rfl)) fun a F => ?_)
      obtain ⟨c27, h⟩ := guardO h
      obtain ⟨g28, s29, hA, hq31, hl30, H⟩ := H.ixOwn2 0 0 rfl (F.ev (x := .tmp 25) rfl) (F.ev (x := .const (.int .i64 0)) rfl) Try.underlying31 sz5 (by decide) c27.1 c27.2
      cases hA
      obtain ⟨rfl, hr32⟩ := H.says_byte 0 rfl
      refine ls (qv F (hq31 _ _ _ _ _ _) fun a F => ?_)
      obtain ⟨_, hr, H⟩ := Hp.setOwn (kd := kByte) (xs := x7) (j := (0 : Int).toNat) (x1 := IntKind.u8.wrap ((x7.getD (0 : Int).toNat 0) + 1)) (H) (F.ev (x := .tmp 29) rfl) (F.ev (x := .tmp 28) rfl) rfl sz5 (by have := c27; omega) (fun Z hp => ⟨rfl, (wrap_u8 _)⟩)
      refine ls (qn F (.inl rfl) (hr _ _ _ _) fun a F => ?_)
      replace F := F.only [29, 28, 27, 26, 25, 0, 5, 6, 7] (l' := [(29, .pointer (some ⟨g28, (0 : Int).toNat * kByte.sz, none⟩)), (28, .int .u8 (IntKind.u8.wrap ((x7.getD (0 : Int).toNat 0) + 1))), (27, .int .u8 ((x7.getD (0 : Int).toNat 0))), (26, .pointer (some ⟨g21, (0 : Int).toNat * kByte.sz, none⟩)), (25, .slice (some ⟨g28, 0, none⟩) ((x7.set (0 : Int).toNat (IntKind.u8.wrap ((x7.getD (0 : Int).toNat 0) + 1)))).length c10), (0, .int .u8 a0), (5, .bool x1), (6, .pointer (some ⟨g6, 0, none⟩)), (7, .slice (some ⟨g28, 0, none⟩) ((x7.set (0 : Int).toNat (IntKind.u8.wrap ((x7.getD (0 : Int).toNat 0) + 1)))).length c10)]) (by (try simp only [List.length_set]); rfl)
      refine rgend ?_
      replace F := F.only [0, 5, 6] (l' := [(0, .int .u8 a0), (5, .bool x1), (6, .pointer (some ⟨g6, 0, none⟩))]) rfl
      refine rg ?_
      refine mv F rfl fun a F => ?_
      obtain ⟨⟨x33, x34⟩, e35, h⟩ := Option.bind_eq_some_iff.1 h
      try dsimp only at h
      refine ls (call F Try.func19 (disk_Disk_Read_ok (H.f1) e35) rfl rfl fun v w hR a F => ?_)
      obtain ⟨A36, c37, rfl, H⟩ := hR
      refine mv F rfl fun a F => ?_
      refine ls (qv F (r_ex (F.ev (x := .tmp 30) rfl) rfl) fun a F => ?_)
      refine ls (qv F (r_ex (F.ev (x := .tmp 30) rfl) rfl) fun a F => ?_)
      refine as_ F rfl fun a F => ?_
      refine as_ F rfl fun a F => ?_
      refine rgend ?_
      replace F := F.only [8, 0, 5, 6] (l' := [(8, .slice A36 x33.length c37), (0, .int .u8 a0), (5, .bool x1), (6, .pointer (some ⟨g6, 0, none⟩))]) rfl
      refine wp_seq ?_
      refine rg ?_
      refine as_ F (v := .int .i64 0) rfl fun a F => ?_
      refine rgend ?_
      obtain ⟨o_41, k_41, h⟩ := Option.bind_eq_some_iff.1 h
      refine cut (fun a w => () = o_41 ∧ Fr 62 [] [(0, .int .u8 a0), (5, .bool x1), (6, .pointer (some ⟨g6, 0, none⟩))] a ∧ Hp w0 ps (obj_disk_Disk g6 x14 :: fs) w) (wp_block ?_) ?_
      · refine wloop law15_DiskOwn_b0 (fun (s : (List Int) × Int) a w => ∃ (A39 : Option Addr) (c40 : Nat), Fr 62 [] [(0, .int .u8 a0), (5, .bool x1), (6, .pointer (some ⟨g6, 0, none⟩)), (8, .slice A39 s.1.length c40), (10, .int .i64 s.2)] a ∧ Hp w0 ps (own kByte 5 A39 c40 s.1 :: obj_disk_Disk g6 x14 :: fs) w) k_41 ⟨A36, c37, F.only [0, 5, 6, 8, 10] rfl, H.px1.px0.fx2⟩ ?_
        rintro ⟨x38, x41⟩ a w q_41 j_41 u_41 ⟨A39, c40, F, H⟩
        unfold law15_DiskOwn_b0 at j_41
        try dsimp only at j_41 F H
        refine wp_seq ?_
        refine rg ?_
        refine mv F rfl fun a F => ?_
        refine mv F rfl fun a F => ?_
        refine ls (qv F (r_len (F.ev (x := .tmp 36) rfl) Try.underlying31) fun a F => ?_)
        refine ls (qv F (r_lt (F.ev (x := .tmp 35) rfl) (F.ev (x := .tmp 37) rfl)) fun a F => ?_)
        refine rgend ?_
        by_cases c43 : x41 < (x38.length : Int)
        · rw [if_pos c43] at j_41
          rw [decide_eq_true c43] at F
          refine wp_cond_true (F.ev rfl) ?_
          refine wp_skip ?_
          refine wp_seq ?_
          refine wp_block ?_
          refine wp_region_lit ?_
          refine mv F rfl fun a F => ?_
          refine mv F rfl fun a F => ?_
          obtain ⟨c44, j_41⟩ := guardO j_41
          obtain ⟨g45, s46, hA, hq48, hl47, H⟩ := H.ixOwn2 0 0 rfl (F.ev (x := .tmp 41) rfl) (F.ev (x := .tmp 42) rfl) Try.underlying31 sz5 (by decide) c44.1 c44.2
          cases hA
          obtain ⟨rfl, hr49⟩ := H.says_byte 0 rfl
          refine ls (qv F (hq48 _ _ _ _ _ _) fun a F => ?_)
          obtain ⟨_, hr, H⟩ := Hp.setOwn (kd := kByte) (xs := x38) (j := (x41 : Int).toNat) (x1 := 77) (H) (F.ev (x := .tmp 43) rfl) (F.ev (x := .const (.int .u8 77)) rfl) rfl sz5 (by have := c44; omega) (fun Z hp => ⟨rfl, (by decide)⟩)
          refine ls (qn F (.inl rfl) (hr _ _ _ _) fun a F => ?_)
          replace F := F.only [43, 42, 41, 38, 37, 36, 35, 0, 5, 6, 8, 10] (l' := [(43, .pointer (some ⟨g45, (x41 : Int).toNat * kByte.sz, none⟩)), (42, .int .i64 x41), (41, .slice (some ⟨g45, 0, none⟩) ((x38.set (x41 : Int).toNat 77)).length c40), (38, .bool true), (37, .int .i64 (x38.length : Int)), (36, .slice (some ⟨g45, 0, none⟩) ((x38.set (x41 : Int).toNat 77)).length c40), (35, .int .i64 x41), (0, .int .u8 a0), (5, .bool x1), (6, .pointer (some ⟨g6, 0, none⟩)), (8, .slice (some ⟨g45, 0, none⟩) ((x38.set (x41 : Int).toNat 77)).length c40), (10, .int .i64 x41)]) (by (try simp only [List.length_set]); rfl)
          refine wpList_nil ?_
          replace F := F.only [0, 5, 6, 8, 10] (l' := [(0, .int .u8 a0), (5, .bool x1), (6, .pointer (some ⟨g6, 0, none⟩)), (8, .slice (some ⟨g45, 0, none⟩) ((x38.set (x41 : Int).toNat 77)).length c40), (10, .int .i64 x41)]) rfl
          refine wp_region_lit ?_
          refine mv F rfl fun a F => ?_
          refine ls (qv F (r_add (F.ev (x := .tmp 39) rfl) (F.ev (x := .const (.int .i64 1)) rfl)) fun a F => ?_)
          refine as_ F rfl fun a F => ?_
          refine wpList_nil ?_
          try dsimp only at j_41
          obtain rfl := Option.some.inj j_41
          exact ⟨_, rfl, (some ⟨g45, 0, none⟩), c40, F.only [0, 5, 6, 8, 10] rfl, H.px0⟩
        · rw [if_neg c43] at j_41
          rw [decide_eq_false c43] at F
          refine wp_cond_false (F.ev rfl) ?_
          refine wp_exit ?_
          try dsimp only at j_41
          obtain rfl := Option.some.inj j_41
          obtain rfl := u_41 _ rfl
          repeat (with_reducible refine exT ?_)
          with_reducible refine exB ?_
          exact ⟨rfl, F.only [0, 5, 6] rfl, H.fx0⟩
      · rintro a w ⟨rfl, F, H⟩
        try dsimp only at h F H
        refine rg ?_
        refine mv F rfl fun a F => ?_
        obtain ⟨⟨x50, x51⟩, e52, h⟩ := Option.bind_eq_some_iff.1 h
        try dsimp only at h
        refine ls (call F Try.func19 (disk_Disk_Read_ok (H) e52) rfl rfl fun v w hR a F => ?_)
        obtain ⟨A53, c54, rfl, H⟩ := hR
        refine mv F rfl fun a F => ?_
        refine ls (qv F (r_ex (F.ev (x := .tmp 44) rfl) rfl) fun a F => ?_)
        refine ls (qv F (r_ex (F.ev (x := .tmp 44) rfl) rfl) fun a F => ?_)
        refine as_ F rfl fun a F => ?_
        refine as_ F rfl fun a F => ?_
        refine rgend ?_
        replace F := F.only [12, 11, 0, 5] (l' := [(12, .int .i64 x51), (11, .slice A53 x50.length c54), (0, .int .u8 a0), (5, .bool x1)]) rfl
        refine wp_seq ?_
        obtain ⟨o_55, k_55, h⟩ := Option.bind_eq_some_iff.1 h
        refine cut (fun a w => ∃ (x55 : Bool), x55 = o_55 ∧ Fr 62 [] [(4, .bool x55)] a ∧ Hp w0 ps (obj_disk_Disk g6 x14 :: fs) w) ?_ ?_
        · skip
          replace H := H.drew
          have HS := H.fx1.fx0
          refine dr (fun w => Hp w0 ps fs w) _ (by kernel_rfl) ?_ (n := 14)
          refine dq 0 F rfl (by kernel_rfl) NP HS (fun w S => (r_mv (F.ev (x := .tmp 5) rfl))) fun a F => ?_
          refine dq 1 F rfl (by kernel_rfl) NP HS (fun w S => (r_mv (F.ev (x := .tmp 49) rfl))) fun a F => ?_
          by_cases c57 : x1 = true
          · rw [if_pos c57] at k_55
            rw [c57] at F
            refine dq 2 F rfl (by kernel_rfl) NP HS (fun w S => (r_mv (F.ev (x := .tmp 12) rfl))) fun a F => ?_
            refine dq 3 F rfl (by kernel_rfl) NP HS (fun w S => (r_eq (F.ev (x := .tmp 51) rfl) (F.ev (x := .const (.int .i64 0)) rfl))) fun a F => ?_
            refine dq 4 F rfl (by kernel_rfl) NP HS (fun w S => (r_pickT (F.ev (x := .tmp 50) rfl) (F.ev (x := .tmp 52) rfl))) fun a F => ?_
            refine dq 5 F rfl (by kernel_rfl) NP HS (fun w S => (r_mv (F.ev (x := .tmp 53) rfl))) fun a F => ?_
            by_cases c58 : x51 = 0
            · rw [if_pos c58] at k_55
              rw [decide_eq_true c58] at F
              refine dq 6 F rfl (by kernel_rfl) NP HS (fun w S => (r_mv (F.ev (x := .tmp 11) rfl))) fun a F => ?_
              replace H := (H).freeze
              have hb59 := H.bytes 0 rfl
              have HS := H.fx0
              refine dmoreH HS (fun w S => S.px0) ?_
              refine dq 7 F rfl (by kernel_rfl) NP HS (fun w S => (S.str 0 rfl (F.ev (x := .tmp 55) rfl) Try.underlying31 Try.underlying5 Try.underlying9)) fun a F => ?_
              refine dq 8 F rfl (by kernel_rfl) NP HS (fun w S => (r_mv (F.ev (x := .tmp 0) rfl))) fun a F => ?_
              obtain ⟨x60, e61, k_55⟩ := Option.bind_eq_some_iff.1 k_55
              try dsimp only at k_55
              refine d1 9 rfl (by kernel_rfl) (call F Try.func24 (law15_Fill_ok (H) e61 ha0) rfl rfl fun v w hR a F => ?_)
              obtain ⟨A62, c63, rfl, H⟩ := hR
              have HS := H.fx1.fx0
              refine kg _ HS (fun w S => S) ?_
              replace H := (H).freeze
              have hb64 := H.bytes 0 rfl
              have HS := H.fx0
              refine dmoreH HS (fun w S => S.px0) ?_
              refine dq 10 F rfl (by kernel_rfl) NP HS (fun w S => (S.str 0 rfl (F.ev (x := .tmp 58) rfl) Try.underlying31 Try.underlying5 Try.underlying9)) fun a F => ?_
              refine dq 11 F rfl (by kernel_rfl) NP HS (fun w S => (r_seq (F.ev (x := .tmp 56) rfl) (F.ev (x := .tmp 59) rfl) hb59 hb64)) fun a F => ?_
              refine dq 12 F rfl (by kernel_rfl) NP HS (fun w S => (r_pickT (F.ev (x := .tmp 54) rfl) (F.ev (x := .tmp 60) rfl))) fun a F => ?_
              refine dq 13 F rfl (by kernel_rfl) NP HS (fun w S => (r_as (F.ev (x := .tmp 61) rfl))) fun a F => ?_
              refine ddone (by kernel_rfl) ?_
              replace F := F.only [4] (l' := [(4, .bool (decide (x50 = x60)))]) rfl
              try dsimp only at k_55
              obtain rfl := Option.some.inj k_55
              exact ⟨_, rfl, F.only [4] rfl, H.px1.px0⟩
            · rw [if_neg c58] at k_55
              rw [decide_eq_false c58] at F
              refine doff 6 F rfl (by kernel_rfl) NP HS fun a F => ?_
              refine doff 7 F rfl (by kernel_rfl) NP HS fun a F => ?_
              refine doff 8 F rfl (by kernel_rfl) NP HS fun a F => ?_
              refine doff 9 F rfl (by kernel_rfl) NP HS fun a F => ?_
              refine doff 10 F rfl (by kernel_rfl) NP HS fun a F => ?_
              refine doff 11 F rfl (by kernel_rfl) NP HS fun a F => ?_
              refine dq 12 F rfl (by kernel_rfl) NP HS (fun w S => (r_pickF (F.ev (x := .tmp 54) rfl) (F.ev (x := .const (.bool false)) rfl))) fun a F => ?_
              refine dq 13 F rfl (by kernel_rfl) NP HS (fun w S => (r_as (F.ev (x := .tmp 61) rfl))) fun a F => ?_
              refine ddone (by kernel_rfl) ?_
              replace F := F.only [4] (l' := [(4, .bool false)]) rfl
              try dsimp only at k_55
              obtain rfl := Option.some.inj k_55
              exact ⟨_, rfl, F.only [4] rfl, H.fx0⟩
          · rw [if_neg c57] at k_55
            rw [Bool.eq_false_iff.2 c57] at F
            refine doff 2 F rfl (by kernel_rfl) NP HS fun a F => ?_
            refine doff 3 F rfl (by kernel_rfl) NP HS fun a F => ?_
            refine dq 4 F rfl (by kernel_rfl) NP HS (fun w S => (r_pickF (F.ev (x := .tmp 50) rfl) (F.ev (x := .const (.bool false)) rfl))) fun a F => ?_
            refine dq 5 F rfl (by kernel_rfl) NP HS (fun w S => (r_mv (F.ev (x := .tmp 53) rfl))) fun a F => ?_
            refine doff 6 F rfl (by kernel_rfl) NP HS fun a F => ?_
            refine doff 7 F rfl (by kernel_rfl) NP HS fun a F => ?_
            refine doff 8 F rfl (by kernel_rfl) NP HS fun a F => ?_
            refine doff 9 F rfl (by kernel_rfl) NP HS fun a F => ?_
            refine doff 10 F rfl (by kernel_rfl) NP HS fun a F => ?_
            refine doff 11 F rfl (by kernel_rfl) NP HS fun a F => ?_
            refine dq 12 F rfl (by kernel_rfl) NP HS (fun w S => (r_pickF (F.ev (x := .tmp 54) rfl) (F.ev (x := .const (.bool false)) rfl))) fun a F => ?_
            refine dq 13 F rfl (by kernel_rfl) NP HS (fun w S => (r_as (F.ev (x := .tmp 61) rfl))) fun a F => ?_
            refine ddone (by kernel_rfl) ?_
            replace F := F.only [4] (l' := [(4, .bool false)]) rfl
            try dsimp only at k_55
            obtain rfl := Option.some.inj k_55
            exact ⟨_, rfl, F.only [4] rfl, H.fx0⟩
        · rintro a w ⟨x55, rfl, F, H⟩
          try dsimp only at h F H
          refine wp_ret ?_
          try dsimp only at h
          obtain rfl := Option.some.inj h
          exact RET _ _ (ret1 F rfl rfl ⟨_, rfl, rfl, H.fx0⟩)
end Go.Proofs.Ytddfdbpjldcjiaa
