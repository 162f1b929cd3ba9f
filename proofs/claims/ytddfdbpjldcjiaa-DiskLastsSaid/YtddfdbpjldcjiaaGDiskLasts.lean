/- What the functions compute. Printed by wip/gen. -/
import Derived.Test.YtddfdbpjldcjiaaGL
set_option linter.unusedVariables false
set_option linter.unusedSimpArgs false
namespace Go.Proofs.Ytddfdbpjldcjiaa
open Go Go.RowKit
def law15_DiskLasts_b1 (a1 : List law15_Op) (a2 : Int) (x34 : List Int) (x35 : Int) : (Int × disk_Disk) → Option (Int × disk_Disk ⊕ (disk_Disk ⊕ Bool))
  | (x39, x40) => (if x39 < (a1.length : Int) then (if 0 ≤ x39 ∧ x39 < (a1.length : Int) then (((if ((a1.getD (x39 : Int).toNat (⟨0, 0, 0, [], 0, []⟩ : law15_Op)).What) < 5 then some true else some ((decide (((a1.getD (x39 : Int).toNat (⟨0, 0, 0, [], 0, []⟩ : law15_Op)).What) > 8)))) : Option (Bool)).bind fun x54 => (((if x54 = true then some ((decide (((a1.getD (x39 : Int).toNat (⟨0, 0, 0, [], 0, []⟩ : law15_Op)).At) = ((IntKind.i64.wrap a2).tmod 8)))) else some false) : Option (Bool)).bind fun x57 => (if x57 = true then some (.inl (IntKind.i64.wrap (x39 + 1), x40)) else ((law15_Do_f x40 ((a1.getD (x39 : Int).toNat (⟨0, 0, 0, [], 0, []⟩ : law15_Op)))).bind fun (x61, x62) => ((disk_Disk_Read_f x62 ((IntKind.i64.wrap a2).tmod 8)).bind fun (x64, x65) => (if x64 ≠ x34 then some (.inr (.inr false)) else (if x65 ≠ x35 then some (.inr (.inr false)) else some (.inl (IntKind.i64.wrap (x39 + 1), x62))))))))) else none) else some (.inr (.inl x40)))
def law15_DiskLasts_b0 (a0 : List law15_Op) : (Int × disk_Disk) → Option (Int × disk_Disk ⊕ disk_Disk)
  | (x13, x14) => (if x13 < (a0.length : Int) then (if 0 ≤ x13 ∧ x13 < (a0.length : Int) then ((law15_Do_f x14 ((a0.getD (x13 : Int).toNat (⟨0, 0, 0, [], 0, []⟩ : law15_Op)))).bind fun (x27, x28) => some (.inl (IntKind.i64.wrap (x13 + 1), x28))) else none) else some (.inr x14))
def law15_DiskLasts_f (a0 : List law15_Op) (a1 : List law15_Op) (a2 : Int) : Option (Bool) :=
  ((law15_head_f).bind fun x1 => ((disk_New_f 8).bind fun x3 => match x3 with | none => some false | some x5 => ((law15_Great_f a0).bind fun x7 => (if x7 = true then some x1 else ((law15_Great_f a1).bind fun x10 => (if x10 = true then some x1 else ((lp (law15_DiskLasts_b0 a0) (0, x5)).bind fun x15 => ((disk_Disk_Sync_f x15).bind fun (x30, x31) => (if x30 ≠ 0 then some x1 else ((disk_Disk_Read_f x31 ((IntKind.i64.wrap a2).tmod 8)).bind fun (x34, x35) => ((lp (law15_DiskLasts_b1 a1 a2 x34 x35) (0, x31)).bind fun q => match q with | .inl x41 => ((disk_Disk_Crash_f x41 [] (-1)).bind fun x73 => ((disk_Disk_Read_f x73 ((IntKind.i64.wrap a2).tmod 8)).bind fun (x75, x76) => (((if x1 = true then (if x75 = x34 then some ((decide (x76 = x35))) else some false) else some false) : Option (Bool)).bind fun x80 => some x80))) | .inr r => some r)))))))))))
set_option maxHeartbeats 4000000 in
set_option maxRecDepth 20000 in
theorem law15_DiskLasts_ok {w0 w : World} {ps : List PF} {fs : List SF} {a0 : List law15_Op} {A0_ : Option Addr} {c0_ : Nat} {a1 : List law15_Op} {A1_ : Option Addr} {c1_ : Nat} {a2 : Int} {r0 : Bool} (H : Hp w0 (rd k_law15_Op A0_ c0_ a0 :: rd k_law15_Op A1_ c1_ a1 :: ps) fs w) (h : law15_DiskLasts_f a0 a1 a2 = some r0) (ha2 : 0 ≤ a2 ∧ a2 < 256) :
    Calls Try.prog 4 [.slice A0_ a0.length c0_, .slice A1_ a1.length c1_, .int .u8 a2].toArray w fun e w' => ∃ v, e = .returned v ∧ v = .bool r0 ∧ Hp w0 ps fs w' := by
  refine enter [.slice A0_ a0.length c0_, .slice A1_ a1.length c1_, .int .u8 a2] 127 Try.func4 fun Q a NP RET NRM F => ?_
  replace NP : ∀ c a w, ¬ Q (.panic c) a w := fun c a w h => by rcases NP c a w h with h | ⟨w, v, h, _⟩ <;> cases h
  unfold law15_DiskLasts_f at h
  refine rg ?_
  refine as_ F (v := .bool false) rfl fun a F => ?_
  refine rgend ?_
  refine rg ?_
  obtain ⟨x1, e2, h⟩ := Option.bind_eq_some_iff.1 h
  try dsimp only at h
  refine ls (call F Try.func10 (law15_head_ok (H) e2) rfl rfl fun v w hR a F => ?_)
  obtain ⟨rfl, H⟩ := hR
  refine as_ F rfl fun a F => ?_
  refine rgend ?_
  refine rg ?_
  obtain ⟨x3, e4, h⟩ := Option.bind_eq_some_iff.1 h
  try dsimp only at h
  rcases x3 with _ | x5
  · try dsimp only at h
    refine ls (call F Try.func12 (disk_New_ok (H) e4) rfl rfl fun v w hR a F => ?_)
    obtain ⟨rfl, H⟩ := hR
    refine as_ F rfl fun a F => ?_
    refine rgend ?_
    refine wp_seq ?_
    refine rg ?_
    refine mv F rfl fun a F => ?_
    refine ls (qv F (r_peq0 (F.ev (x := .tmp 22) rfl) (F.ev (x := .const (.pointer none)) rfl) Try.underlying25) fun a F => ?_)
    refine mv F rfl fun a F => ?_
    refine ls (off F fun a F => ?_)
    refine ls (off F fun a F => ?_)
    refine ls (qv F (r_pickT (F.ev (x := .tmp 24) rfl) (F.ev (x := .const (.bool true)) rfl)) fun a F => ?_)
    refine mv F rfl fun a F => ?_
    refine ls (off F fun a F => ?_)
    refine ls (off F fun a F => ?_)
    refine ls (qv F (r_pickT (F.ev (x := .tmp 28) rfl) (F.ev (x := .const (.bool true)) rfl)) fun a F => ?_)
    refine rgend ?_
    replace F := F.only [31, 8, 7, 0, 1, 2] (l' := [(31, .bool true), (8, .pointer none), (7, .bool x1), (0, .slice A0_ a0.length c0_), (1, .slice A1_ a1.length c1_), (2, .int .u8 a2)]) rfl
    refine wp_cond_true (F.ev rfl) ?_
    refine wp_seq ?_
    refine wp_region_lit ?_
    refine mv F rfl fun a F => ?_
    refine ls (qv F (r_pne0 (F.ev (x := .tmp 32) rfl) (F.ev (x := .const (.pointer none)) rfl) Try.underlying25) fun a F => ?_)
    refine mv F rfl fun a F => ?_
    refine ls (off F fun a F => ?_)
    refine ls (qv F (r_pickF (F.ev (x := .tmp 34) rfl) (F.ev (x := .const (.bool false)) rfl)) fun a F => ?_)
    refine as_ F rfl fun a F => ?_
    refine wpList_nil ?_
    replace F := F.only [6] (l' := [(6, .bool false)]) rfl
    refine wp_ret ?_
    try dsimp only at h
    obtain rfl := Option.some.inj h
    exact RET _ _ (ret1 F rfl rfl ⟨_, rfl, rfl, H.px1.px0⟩)
  · try dsimp only at h
    refine ls (call F Try.func12 (disk_New_ok (H) e4) rfl rfl fun v w hR a F => ?_)
    obtain ⟨g6, rfl, H⟩ := hR
    refine as_ F rfl fun a F => ?_
    refine rgend ?_
    refine wp_seq ?_
    refine rg ?_
    refine mv F rfl fun a F => ?_
    refine ls (qv F (r_peq (F.ev (x := .tmp 22) rfl) (F.ev (x := .const (.pointer none)) rfl) Try.underlying25) fun a F => ?_)
    refine mv F rfl fun a F => ?_
    refine mv F rfl fun a F => ?_
    obtain ⟨x7, e8, h⟩ := Option.bind_eq_some_iff.1 h
    try dsimp only at h
    refine ls (call F Try.func11 (law15_Great_ok (H.p0) e8) rfl rfl fun v w hR a F => ?_)
    obtain ⟨rfl, H⟩ := hR
    refine ls (qv F (r_pickF (F.ev (x := .tmp 24) rfl) (F.ev (x := .tmp 26) rfl)) fun a F => ?_)
    refine mv F rfl fun a F => ?_
    by_cases c9 : x7 = true
    · rw [if_pos c9] at h
      rw [c9] at F
      refine ls (off F fun a F => ?_)
      refine ls (off F fun a F => ?_)
      refine ls (qv F (r_pickT (F.ev (x := .tmp 28) rfl) (F.ev (x := .const (.bool true)) rfl)) fun a F => ?_)
      refine rgend ?_
      replace F := F.only [31, 8, 7, 0, 1, 2] (l' := [(31, .bool true), (8, .pointer (some ⟨g6, 0, none⟩)), (7, .bool x1), (0, .slice A0_ a0.length c0_), (1, .slice A1_ a1.length c1_), (2, .int .u8 a2)]) rfl
      refine wp_cond_true (F.ev rfl) ?_
      refine wp_seq ?_
      refine wp_region_lit ?_
      refine mv F rfl fun a F => ?_
      refine ls (qv F (r_pne (F.ev (x := .tmp 32) rfl) (F.ev (x := .const (.pointer none)) rfl) Try.underlying25) fun a F => ?_)
      refine mv F rfl fun a F => ?_
      refine mv F rfl fun a F => ?_
      refine ls (qv F (r_pickT (F.ev (x := .tmp 34) rfl) (F.ev (x := .tmp 35) rfl)) fun a F => ?_)
      refine as_ F rfl fun a F => ?_
      refine wpList_nil ?_
      replace F := F.only [6] (l' := [(6, .bool x1)]) rfl
      refine wp_ret ?_
      try dsimp only at h
      obtain rfl := Option.some.inj h
      exact RET _ _ (ret1 F rfl rfl ⟨_, rfl, rfl, H.px1.px0.fx0⟩)
    · rw [if_neg c9] at h
      rw [Bool.eq_false_iff.2 c9] at F
      refine mv F rfl fun a F => ?_
      obtain ⟨x10, e11, h⟩ := Option.bind_eq_some_iff.1 h
      try dsimp only at h
      refine ls (call F Try.func11 (law15_Great_ok (H.p1) e11) rfl rfl fun v w hR a F => ?_)
      obtain ⟨rfl, H⟩ := hR
      refine ls (qv F (r_pickF (F.ev (x := .tmp 28) rfl) (F.ev (x := .tmp 30) rfl)) fun a F => ?_)
      refine rgend ?_
      replace F := F.only [31, 8, 7, 0, 1, 2] (l' := [(31, .bool x10), (8, .pointer (some ⟨g6, 0, none⟩)), (7, .bool x1), (0, .slice A0_ a0.length c0_), (1, .slice A1_ a1.length c1_), (2, .int .u8 a2)]) rfl
      by_cases c12 : x10 = true
      · rw [if_pos c12] at h
        rw [c12] at F
        refine wp_cond_true (F.ev rfl) ?_
        refine wp_seq ?_
        refine wp_region_lit ?_
        refine mv F rfl fun a F => ?_
        refine ls (qv F (r_pne (F.ev (x := .tmp 32) rfl) (F.ev (x := .const (.pointer none)) rfl) Try.underlying25) fun a F => ?_)
        refine mv F rfl fun a F => ?_
        refine mv F rfl fun a F => ?_
        refine ls (qv F (r_pickT (F.ev (x := .tmp 34) rfl) (F.ev (x := .tmp 35) rfl)) fun a F => ?_)
        refine as_ F rfl fun a F => ?_
        refine wpList_nil ?_
        replace F := F.only [6] (l' := [(6, .bool x1)]) rfl
        refine wp_ret ?_
        try dsimp only at h
        obtain rfl := Option.some.inj h
        exact RET _ _ (ret1 F rfl rfl ⟨_, rfl, rfl, H.px1.px0.fx0⟩)
      · rw [if_neg c12] at h
        rw [Bool.eq_false_iff.2 c12] at F
        refine wp_cond_false (F.ev rfl) ?_
        refine wp_skip ?_
        refine wp_seq ?_
        refine rg ?_
        refine as_ F (v := .int .i64 0) rfl fun a F => ?_
        refine rgend ?_
        obtain ⟨o_15, k_15, h⟩ := Option.bind_eq_some_iff.1 h
        refine cut (fun a w => ∃ (x15 : disk_Disk), x15 = o_15 ∧ Fr 127 [] [(1, .slice A1_ a1.length c1_), (2, .int .u8 a2), (7, .bool x1), (8, .pointer (some ⟨g6, 0, none⟩))] a ∧ Hp w0 (rd k_law15_Op A1_ c1_ a1 :: ps) (obj_disk_Disk g6 x15 :: fs) w) (wp_block ?_) ?_
        · refine wloop (law15_DiskLasts_b0 a0) (fun (s : Int × disk_Disk) a w => Fr 127 [] [(0, .slice A0_ a0.length c0_), (1, .slice A1_ a1.length c1_), (2, .int .u8 a2), (7, .bool x1), (8, .pointer (some ⟨g6, 0, none⟩)), (9, .int .i64 s.1)] a ∧ Hp w0 (rd k_law15_Op A0_ c0_ a0 :: rd k_law15_Op A1_ c1_ a1 :: ps) (obj_disk_Disk g6 s.2 :: fs) w) k_15 ⟨F.only [0, 1, 2, 7, 8, 9] rfl, H⟩ ?_
          rintro ⟨x13, x14⟩ a w q_15 j_15 u_15 ⟨F, H⟩
          unfold law15_DiskLasts_b0 at j_15
          try dsimp only at j_15 F H
          refine wp_seq ?_
          refine rg ?_
          refine mv F rfl fun a F => ?_
          refine mv F rfl fun a F => ?_
          refine ls (qv F (r_len (F.ev (x := .tmp 38) rfl) Try.underlying22) fun a F => ?_)
          refine ls (qv F (r_lt (F.ev (x := .tmp 37) rfl) (F.ev (x := .tmp 39) rfl)) fun a F => ?_)
          refine rgend ?_
          by_cases c17 : x13 < (a0.length : Int)
          · rw [if_pos c17] at j_15
            rw [decide_eq_true c17] at F
            refine wp_cond_true (F.ev rfl) ?_
            refine wp_skip ?_
            refine wp_seq ?_
            refine wp_block ?_
            refine wp_region_lit ?_
            refine mv F rfl fun a F => ?_
            refine mv F rfl fun a F => ?_
            refine mv F rfl fun a F => ?_
            obtain ⟨c18, j_15⟩ := guardO j_15
            obtain ⟨g19, o20, s21, hr, H⟩ := H.ix (⟨0, 0, 0, [], 0, []⟩ : law15_Op) 0 rfl (F.ev (x := .tmp 44) rfl) (F.ev (x := .tmp 45) rfl) Try.underlying22 sz34 (by decide) c18.1 c18.2
            obtain ⟨A23, c24, A25, c26, rfl, hr22, H⟩ := H.open_law15_Op 1 rfl
            refine ls (qv F (hr _ _ _ _ _ _) fun a F => ?_)
            refine ls (qv F (r_ldA (F.ev (x := .tmp 46) rfl) (H.range 2 rfl) agg34 rfl) fun a F => ?_)
            obtain ⟨⟨x27, x28⟩, e29, j_15⟩ := Option.bind_eq_some_iff.1 j_15
            try dsimp only at j_15
            refine ls (call F Try.func14 (law15_Do_ok (a1 := (a0.getD (x13 : Int).toNat (⟨0, 0, 0, [], 0, []⟩ : law15_Op))) (H.p1.p1) e29 hr22) rfl rfl fun v w hR a F => ?_)
            obtain ⟨rfl, H⟩ := hR
            refine wpList_nil ?_
            replace F := F.only [0, 1, 2, 7, 8, 9] (l' := [(0, .slice A0_ a0.length c0_), (1, .slice A1_ a1.length c1_), (2, .int .u8 a2), (7, .bool x1), (8, .pointer (some ⟨g6, 0, none⟩)), (9, .int .i64 x13)]) rfl
            refine wp_region_lit ?_
            refine mv F rfl fun a F => ?_
            refine ls (qv F (r_add (F.ev (x := .tmp 41) rfl) (F.ev (x := .const (.int .i64 1)) rfl)) fun a F => ?_)
            refine as_ F rfl fun a F => ?_
            refine wpList_nil ?_
            try dsimp only at j_15
            obtain rfl := Option.some.inj j_15
            exact ⟨_, rfl, F.only [0, 1, 2, 7, 8, 9] rfl, H.px3.px2.px1.px0⟩
          · rw [if_neg c17] at j_15
            rw [decide_eq_false c17] at F
            refine wp_cond_false (F.ev rfl) ?_
            refine wp_exit ?_
            try dsimp only at j_15
            obtain rfl := Option.some.inj j_15
            obtain rfl := u_15 _ rfl
            repeat (with_reducible refine exT ?_)
            with_reducible refine exB ?_
            exact ⟨_, rfl, F.only [1, 2, 7, 8] rfl, H.px0⟩
        · rintro a w ⟨x15, rfl, F, H⟩
          try dsimp only at h F H
          refine rg ?_
          refine mv F rfl fun a F => ?_
          refine ls (qv F (r_ci (F.ev (x := .tmp 49) rfl) Try.underlying3 Try.underlying5) fun a F => ?_)
          refine ls (qv F (r_rem (F.ev (x := .tmp 50) rfl) (F.ev (x := .const (.int .i64 8)) rfl) (by decide)) fun a F => ?_)
          refine as_ F rfl fun a F => ?_
          refine rgend ?_
          replace F := F.only [10, 1, 7, 8] (l' := [(10, .int .i64 ((IntKind.i64.wrap a2).tmod 8)), (1, .slice A1_ a1.length c1_), (7, .bool x1), (8, .pointer (some ⟨g6, 0, none⟩))]) rfl
          refine wp_seq ?_
          refine rg ?_
          refine mv F rfl fun a F => ?_
          obtain ⟨⟨x30, x31⟩, e32, h⟩ := Option.bind_eq_some_iff.1 h
          try dsimp only at h
          refine ls (call F Try.func21 (disk_Disk_Sync_ok (H) e32) rfl rfl fun v w hR a F => ?_)
          obtain ⟨rfl, H⟩ := hR
          refine ls (qv F (r_ne (F.ev (x := .tmp 53) rfl) (F.ev (x := .const (.int .i64 0)) rfl)) fun a F => ?_)
          refine rgend ?_
          by_cases c33 : x30 ≠ 0
          · rw [if_pos c33] at h
            rw [decide_eq_true c33] at F
            refine wp_cond_true (F.ev rfl) ?_
            refine rg ?_
            refine mv F rfl fun a F => ?_
            refine as_ F rfl fun a F => ?_
            refine rgend ?_
            replace F := F.only [6] (l' := [(6, .bool x1)]) rfl
            refine wp_ret ?_
            try dsimp only at h
            obtain rfl := Option.some.inj h
            exact RET _ _ (ret1 F rfl rfl ⟨_, rfl, rfl, H.px0.fx0⟩)
          · rw [if_neg c33] at h
            rw [decide_eq_false c33] at F
            refine wp_cond_false (F.ev rfl) ?_
            refine wp_skip ?_
            refine rg ?_
            refine mv F rfl fun a F => ?_
            refine mv F rfl fun a F => ?_
            obtain ⟨⟨x34, x35⟩, e36, h⟩ := Option.bind_eq_some_iff.1 h
            try dsimp only at h
            refine ls (call F Try.func19 (disk_Disk_Read_ok (H) e36) rfl rfl fun v w hR a F => ?_)
            obtain ⟨A37, c38, rfl, H⟩ := hR
            refine mv F rfl fun a F => ?_
            refine ls (qv F (r_ex (F.ev (x := .tmp 56) rfl) rfl) fun a F => ?_)
            refine ls (qv F (r_ex (F.ev (x := .tmp 56) rfl) rfl) fun a F => ?_)
            refine as_ F rfl fun a F => ?_
            refine as_ F rfl fun a F => ?_
            refine rgend ?_
            replace F := F.only [12, 11, 10, 1, 7, 8] (l' := [(12, .int .i64 x35), (11, .slice A37 x34.length c38), (10, .int .i64 ((IntKind.i64.wrap a2).tmod 8)), (1, .slice A1_ a1.length c1_), (7, .bool x1), (8, .pointer (some ⟨g6, 0, none⟩))]) rfl
            refine wp_seq ?_
            refine rg ?_
            refine as_ F (v := .int .i64 0) rfl fun a F => ?_
            refine rgend ?_
            replace H := (H).freeze
            obtain ⟨o_41, k_41, h⟩ := Option.bind_eq_some_iff.1 h
            refine cut (fun a w => ∃ (x41 : disk_Disk), Sum.inl x41 = o_41 ∧ Fr 127 [] [(7, .bool x1), (8, .pointer (some ⟨g6, 0, none⟩)), (10, .int .i64 ((IntKind.i64.wrap a2).tmod 8)), (11, .slice A37 x34.length c38), (12, .int .i64 x35)] a ∧ Hp w0 (rd kByte A37 c38 x34 :: ps) (obj_disk_Disk g6 x41 :: fs) w) (wp_block ?_) ?_
            · refine wloop (law15_DiskLasts_b1 a1 a2 x34 x35) (fun (s : Int × disk_Disk) a w => Fr 127 [] [(1, .slice A1_ a1.length c1_), (7, .bool x1), (8, .pointer (some ⟨g6, 0, none⟩)), (10, .int .i64 ((IntKind.i64.wrap a2).tmod 8)), (11, .slice A37 x34.length c38), (12, .int .i64 x35), (13, .int .i64 s.1)] a ∧ Hp w0 (rd k_law15_Op A1_ c1_ a1 :: rd kByte A37 c38 x34 :: ps) (obj_disk_Disk g6 s.2 :: fs) w) k_41 ⟨F.only [1, 7, 8, 10, 11, 12, 13] rfl, H.p0.p2.px2.px2⟩ ?_
              rintro ⟨x39, x40⟩ a w q_41 j_41 u_41 ⟨F, H⟩
              unfold law15_DiskLasts_b1 at j_41
              try dsimp only at j_41 F H
              refine wp_seq ?_
              refine rg ?_
              refine mv F rfl fun a F => ?_
              refine mv F rfl fun a F => ?_
              refine ls (qv F (r_len (F.ev (x := .tmp 63) rfl) Try.underlying22) fun a F => ?_)
              refine ls (qv F (r_lt (F.ev (x := .tmp 62) rfl) (F.ev (x := .tmp 64) rfl)) fun a F => ?_)
              refine rgend ?_
              by_cases c43 : x39 < (a1.length : Int)
              · rw [if_pos c43] at j_41
                rw [decide_eq_true c43] at F
                refine wp_cond_true (F.ev rfl) ?_
                refine wp_skip ?_
                refine wp_seq ?_
                refine wp_block ?_
                refine rg ?_
                refine mv F rfl fun a F => ?_
                refine mv F rfl fun a F => ?_
                obtain ⟨c44, j_41⟩ := guardO j_41
                obtain ⟨g45, o46, s47, hr, H⟩ := H.ix (⟨0, 0, 0, [], 0, []⟩ : law15_Op) 0 rfl (F.ev (x := .tmp 68) rfl) (F.ev (x := .tmp 69) rfl) Try.underlying22 sz34 (by decide) c44.1 c44.2
                obtain ⟨A49, c50, A51, c52, rfl, hr48, H⟩ := H.open_law15_Op 1 rfl
                refine ls (qv F (hr _ _ _ _ _ _) fun a F => ?_)
                refine ls (qv F (r_ldA (F.ev (x := .tmp 70) rfl) (H.range 2 rfl) agg34 rfl) fun a F => ?_)
                refine ls (lal F H ti34 (cs := [.int .i64 0, .int .i64 0, .int .u8 0, .slice none 0 0, .int .i64 0, .slice none 0 0]) rfl fun g53 w a H F => ?_)
                obtain ⟨_, hr, H⟩ := Hp.store (t := 34) (o := 0) (n := 6) (vs := [.int .i64 ((a1.getD (x39 : Int).toNat (⟨0, 0, 0, [], 0, []⟩ : law15_Op)).What), .int .i64 ((a1.getD (x39 : Int).toNat (⟨0, 0, 0, [], 0, []⟩ : law15_Op)).At), .int .u8 ((a1.getD (x39 : Int).toNat (⟨0, 0, 0, [], 0, []⟩ : law15_Op)).C), .slice A49 ((a1.getD (x39 : Int).toNat (⟨0, 0, 0, [], 0, []⟩ : law15_Op)).B).length c50, .int .i64 ((a1.getD (x39 : Int).toNat (⟨0, 0, 0, [], 0, []⟩ : law15_Op)).N), .slice A51 ((a1.getD (x39 : Int).toNat (⟨0, 0, 0, [], 0, []⟩ : law15_Op)).Keep).length c52]) (cs' := [.int .i64 ((a1.getD (x39 : Int).toNat (⟨0, 0, 0, [], 0, []⟩ : law15_Op)).What), .int .i64 ((a1.getD (x39 : Int).toNat (⟨0, 0, 0, [], 0, []⟩ : law15_Op)).At), .int .u8 ((a1.getD (x39 : Int).toNat (⟨0, 0, 0, [], 0, []⟩ : law15_Op)).C), .slice A49 ((a1.getD (x39 : Int).toNat (⟨0, 0, 0, [], 0, []⟩ : law15_Op)).B).length c50, .int .i64 ((a1.getD (x39 : Int).toNat (⟨0, 0, 0, [], 0, []⟩ : law15_Op)).N), .slice A51 ((a1.getD (x39 : Int).toNat (⟨0, 0, 0, [], 0, []⟩ : law15_Op)).Keep).length c52]) (H) (F.ev (x := .tmp 14) rfl) (F.ev (x := .tmp 71) rfl) rfl sz34 rfl (Nat.le_of_ble_eq_true rfl) rfl rfl
                refine ls (qn F (.inl rfl) (hr _ _ _ _) fun a F => ?_)
                refine rgend ?_
                replace F := F.only [14, 1, 7, 8, 10, 11, 12, 13] (l' := [(14, .pointer (some ⟨g53, 0, none⟩)), (1, .slice A1_ a1.length c1_), (7, .bool x1), (8, .pointer (some ⟨g6, 0, none⟩)), (10, .int .i64 ((IntKind.i64.wrap a2).tmod 8)), (11, .slice A37 x34.length c38), (12, .int .i64 x35), (13, .int .i64 x39)]) rfl
                refine wp_seq ?_
                obtain ⟨o_54, k_54, j_41⟩ := Option.bind_eq_some_iff.1 j_41
                refine cut (fun a w => ∃ (x54 : Bool), x54 = o_54 ∧ Fr 127 [] [(1, .slice A1_ a1.length c1_), (7, .bool x1), (8, .pointer (some ⟨g6, 0, none⟩)), (10, .int .i64 ((IntKind.i64.wrap a2).tmod 8)), (11, .slice A37 x34.length c38), (12, .int .i64 x35), (13, .int .i64 x39), (14, .pointer (some ⟨g53, 0, none⟩)), (15, .bool x54)] a ∧ Hp w0 (rd k_law15_Op A1_ c1_ a1 :: rd kByte A37 c38 x34 :: rd kByte A49 c50 ((a1.getD (x39 : Int).toNat (⟨0, 0, 0, [], 0, []⟩ : law15_Op)).B) :: rd kBool A51 c52 ((a1.getD (x39 : Int).toNat (⟨0, 0, 0, [], 0, []⟩ : law15_Op)).Keep) :: ps) (cel g53 [.int .i64 ((a1.getD (x39 : Int).toNat (⟨0, 0, 0, [], 0, []⟩ : law15_Op)).What), .int .i64 ((a1.getD (x39 : Int).toNat (⟨0, 0, 0, [], 0, []⟩ : law15_Op)).At), .int .u8 ((a1.getD (x39 : Int).toNat (⟨0, 0, 0, [], 0, []⟩ : law15_Op)).C), .slice A49 ((a1.getD (x39 : Int).toNat (⟨0, 0, 0, [], 0, []⟩ : law15_Op)).B).length c50, .int .i64 ((a1.getD (x39 : Int).toNat (⟨0, 0, 0, [], 0, []⟩ : law15_Op)).N), .slice A51 ((a1.getD (x39 : Int).toNat (⟨0, 0, 0, [], 0, []⟩ : law15_Op)).Keep).length c52] 34 :: obj_disk_Disk g6 x40 :: fs) w) ?_ ?_
                · skip
                  refine wp_region_lit ?_
                  refine ls (qv F (r_fa (off := 0) (F.ev (x := .tmp 14) rfl) fa34_0) fun a F => ?_)
                  refine ls (qv F (r_ld (F.ev (x := .tmp 72) rfl) (cel_cell (o := 0) (H.cell 0 rfl) rfl) one3) fun a F => ?_)
                  refine ls (qv F (r_lt (F.ev (x := .tmp 73) rfl) (F.ev (x := .const (.int .i64 5)) rfl)) fun a F => ?_)
                  refine mv F rfl fun a F => ?_
                  by_cases c56 : ((a1.getD (x39 : Int).toNat (⟨0, 0, 0, [], 0, []⟩ : law15_Op)).What) < 5
                  · rw [if_pos c56] at k_54
                    rw [decide_eq_true c56] at F
                    refine ls (off F fun a F => ?_)
                    refine ls (off F fun a F => ?_)
                    refine ls (off F fun a F => ?_)
                    refine ls (qv F (r_pickT (F.ev (x := .tmp 75) rfl) (F.ev (x := .const (.bool true)) rfl)) fun a F => ?_)
                    refine as_ F rfl fun a F => ?_
                    refine wpList_nil ?_
                    replace F := F.only [15, 14, 1, 7, 8, 10, 11, 12, 13] (l' := [(15, .bool true), (14, .pointer (some ⟨g53, 0, none⟩)), (1, .slice A1_ a1.length c1_), (7, .bool x1), (8, .pointer (some ⟨g6, 0, none⟩)), (10, .int .i64 ((IntKind.i64.wrap a2).tmod 8)), (11, .slice A37 x34.length c38), (12, .int .i64 x35), (13, .int .i64 x39)]) rfl
                    try dsimp only at k_54
                    obtain rfl := Option.some.inj k_54
                    exact ⟨_, rfl, F.only [1, 7, 8, 10, 11, 12, 13, 14, 15] rfl, H.p1.p1.p7.p7.px4.px4.px4.px4.px4.px4⟩
                  · rw [if_neg c56] at k_54
                    rw [decide_eq_false c56] at F
                    refine ls (qv F (r_fa (off := 0) (F.ev (x := .tmp 14) rfl) fa34_0) fun a F => ?_)
                    refine ls (qv F (r_ld (F.ev (x := .tmp 76) rfl) (cel_cell (o := 0) (H.cell 0 rfl) rfl) one3) fun a F => ?_)
                    refine ls (qv F (r_gt (F.ev (x := .tmp 77) rfl) (F.ev (x := .const (.int .i64 8)) rfl)) fun a F => ?_)
                    refine ls (qv F (r_pickF (F.ev (x := .tmp 75) rfl) (F.ev (x := .tmp 78) rfl)) fun a F => ?_)
                    refine as_ F rfl fun a F => ?_
                    refine wpList_nil ?_
                    replace F := F.only [15, 14, 1, 7, 8, 10, 11, 12, 13] (l' := [(15, .bool (decide (((a1.getD (x39 : Int).toNat (⟨0, 0, 0, [], 0, []⟩ : law15_Op)).What) > 8))), (14, .pointer (some ⟨g53, 0, none⟩)), (1, .slice A1_ a1.length c1_), (7, .bool x1), (8, .pointer (some ⟨g6, 0, none⟩)), (10, .int .i64 ((IntKind.i64.wrap a2).tmod 8)), (11, .slice A37 x34.length c38), (12, .int .i64 x35), (13, .int .i64 x39)]) rfl
                    try dsimp only at k_54
                    obtain rfl := Option.some.inj k_54
                    exact ⟨_, rfl, F.only [1, 7, 8, 10, 11, 12, 13, 14, 15] rfl, H.p1.p1.p7.p7.px4.px4.px4.px4.px4.px4⟩
                · rintro a w ⟨x54, rfl, F, H⟩
                  try dsimp only at j_41 F H
                  refine wp_seq ?_
                  refine wp_seq ?_
                  obtain ⟨o_57, k_57, j_41⟩ := Option.bind_eq_some_iff.1 j_41
                  refine cut (fun a w => ∃ (x57 : Bool), x57 = o_57 ∧ Fr 127 [] [(1, .slice A1_ a1.length c1_), (7, .bool x1), (8, .pointer (some ⟨g6, 0, none⟩)), (10, .int .i64 ((IntKind.i64.wrap a2).tmod 8)), (11, .slice A37 x34.length c38), (12, .int .i64 x35), (13, .int .i64 x39), (14, .pointer (some ⟨g53, 0, none⟩)), (86, .bool x57)] a ∧ Hp w0 (rd k_law15_Op A1_ c1_ a1 :: rd kByte A37 c38 x34 :: rd kByte A49 c50 ((a1.getD (x39 : Int).toNat (⟨0, 0, 0, [], 0, []⟩ : law15_Op)).B) :: rd kBool A51 c52 ((a1.getD (x39 : Int).toNat (⟨0, 0, 0, [], 0, []⟩ : law15_Op)).Keep) :: ps) (cel g53 [.int .i64 ((a1.getD (x39 : Int).toNat (⟨0, 0, 0, [], 0, []⟩ : law15_Op)).What), .int .i64 ((a1.getD (x39 : Int).toNat (⟨0, 0, 0, [], 0, []⟩ : law15_Op)).At), .int .u8 ((a1.getD (x39 : Int).toNat (⟨0, 0, 0, [], 0, []⟩ : law15_Op)).C), .slice A49 ((a1.getD (x39 : Int).toNat (⟨0, 0, 0, [], 0, []⟩ : law15_Op)).B).length c50, .int .i64 ((a1.getD (x39 : Int).toNat (⟨0, 0, 0, [], 0, []⟩ : law15_Op)).N), .slice A51 ((a1.getD (x39 : Int).toNat (⟨0, 0, 0, [], 0, []⟩ : law15_Op)).Keep).length c52] 34 :: obj_disk_Disk g6 x40 :: fs) w) ?_ ?_
                  · skip
                    refine wp_region_lit ?_
                    refine mv F rfl fun a F => ?_
                    refine mv F rfl fun a F => ?_
                    by_cases c59 : x54 = true
                    · rw [if_pos c59] at k_57
                      rw [c59] at F
                      refine ls (qv F (r_fa (off := 1) (F.ev (x := .tmp 14) rfl) fa34_1) fun a F => ?_)
                      refine ls (qv F (r_ld (F.ev (x := .tmp 82) rfl) (cel_cell (o := 1) (H.cell 0 rfl) rfl) one3) fun a F => ?_)
                      refine mv F rfl fun a F => ?_
                      refine ls (qv F (r_eq (F.ev (x := .tmp 83) rfl) (F.ev (x := .tmp 84) rfl)) fun a F => ?_)
                      refine ls (qv F (r_pickT (F.ev (x := .tmp 81) rfl) (F.ev (x := .tmp 85) rfl)) fun a F => ?_)
                      refine wpList_nil ?_
                      replace F := F.only [86, 1, 7, 8, 10, 11, 12, 13, 14] (l' := [(86, .bool (decide (((a1.getD (x39 : Int).toNat (⟨0, 0, 0, [], 0, []⟩ : law15_Op)).At) = ((IntKind.i64.wrap a2).tmod 8)))), (1, .slice A1_ a1.length c1_), (7, .bool x1), (8, .pointer (some ⟨g6, 0, none⟩)), (10, .int .i64 ((IntKind.i64.wrap a2).tmod 8)), (11, .slice A37 x34.length c38), (12, .int .i64 x35), (13, .int .i64 x39), (14, .pointer (some ⟨g53, 0, none⟩))]) rfl
                      try dsimp only at k_57
                      obtain rfl := Option.some.inj k_57
                      exact ⟨_, rfl, F.only [1, 7, 8, 10, 11, 12, 13, 14, 86] rfl, H⟩
                    · rw [if_neg c59] at k_57
                      rw [Bool.eq_false_iff.2 c59] at F
                      refine ls (off F fun a F => ?_)
                      refine ls (off F fun a F => ?_)
                      refine ls (off F fun a F => ?_)
                      refine ls (off F fun a F => ?_)
                      refine ls (qv F (r_pickF (F.ev (x := .tmp 81) rfl) (F.ev (x := .const (.bool false)) rfl)) fun a F => ?_)
                      refine wpList_nil ?_
                      replace F := F.only [86, 1, 7, 8, 10, 11, 12, 13, 14] (l' := [(86, .bool false), (1, .slice A1_ a1.length c1_), (7, .bool x1), (8, .pointer (some ⟨g6, 0, none⟩)), (10, .int .i64 ((IntKind.i64.wrap a2).tmod 8)), (11, .slice A37 x34.length c38), (12, .int .i64 x35), (13, .int .i64 x39), (14, .pointer (some ⟨g53, 0, none⟩))]) rfl
                      try dsimp only at k_57
                      obtain rfl := Option.some.inj k_57
                      exact ⟨_, rfl, F.only [1, 7, 8, 10, 11, 12, 13, 14, 86] rfl, H⟩
                  · rintro a w ⟨x57, rfl, F, H⟩
                    try dsimp only at j_41 F H
                    by_cases c60 : x57 = true
                    · rw [if_pos c60] at j_41
                      rw [c60] at F
                      refine wp_cond_true (F.ev rfl) ?_
                      refine wp_exit ?_
                      repeat (with_reducible refine exT ?_)
                      with_reducible refine exB ?_
                      refine wp_region_lit ?_
                      refine mv F rfl fun a F => ?_
                      refine ls (qv F (r_add (F.ev (x := .tmp 66) rfl) (F.ev (x := .const (.int .i64 1)) rfl)) fun a F => ?_)
                      refine as_ F rfl fun a F => ?_
                      refine wpList_nil ?_
                      replace F := F.only [13, 1, 7, 8, 10, 11, 12] (l' := [(13, .int .i64 (IntKind.i64.wrap (x39 + 1))), (1, .slice A1_ a1.length c1_), (7, .bool x1), (8, .pointer (some ⟨g6, 0, none⟩)), (10, .int .i64 ((IntKind.i64.wrap a2).tmod 8)), (11, .slice A37 x34.length c38), (12, .int .i64 x35)]) rfl
                      try dsimp only at j_41
                      obtain rfl := Option.some.inj j_41
                      exact ⟨_, rfl, F.only [1, 7, 8, 10, 11, 12, 13] rfl, H.px3.px2.fx0⟩
                    · rw [if_neg c60] at j_41
                      rw [Bool.eq_false_iff.2 c60] at F
                      refine wp_cond_false (F.ev rfl) ?_
                      refine wp_skip ?_
                      refine rg ?_
                      refine mv F rfl fun a F => ?_
                      refine ls (qv F (r_ldA (F.ev (x := .tmp 14) rfl) (cel_range (o := 0) (n := 6) (vs := [.int .i64 ((a1.getD (x39 : Int).toNat (⟨0, 0, 0, [], 0, []⟩ : law15_Op)).What), .int .i64 ((a1.getD (x39 : Int).toNat (⟨0, 0, 0, [], 0, []⟩ : law15_Op)).At), .int .u8 ((a1.getD (x39 : Int).toNat (⟨0, 0, 0, [], 0, []⟩ : law15_Op)).C), .slice A49 ((a1.getD (x39 : Int).toNat (⟨0, 0, 0, [], 0, []⟩ : law15_Op)).B).length c50, .int .i64 ((a1.getD (x39 : Int).toNat (⟨0, 0, 0, [], 0, []⟩ : law15_Op)).N), .slice A51 ((a1.getD (x39 : Int).toNat (⟨0, 0, 0, [], 0, []⟩ : law15_Op)).Keep).length c52]) (H.cell 0 rfl) rfl) agg34 rfl) fun a F => ?_)
                      obtain ⟨⟨x61, x62⟩, e63, j_41⟩ := Option.bind_eq_some_iff.1 j_41
                      try dsimp only at j_41
                      refine ls (call F Try.func14 (law15_Do_ok (a1 := (a1.getD (x39 : Int).toNat (⟨0, 0, 0, [], 0, []⟩ : law15_Op))) (H.p3.p3.f1) e63 hr48) rfl rfl fun v w hR a F => ?_)
                      obtain ⟨rfl, H⟩ := hR
                      refine rgend ?_
                      replace F := F.only [1, 7, 8, 10, 11, 12, 13] (l' := [(1, .slice A1_ a1.length c1_), (7, .bool x1), (8, .pointer (some ⟨g6, 0, none⟩)), (10, .int .i64 ((IntKind.i64.wrap a2).tmod 8)), (11, .slice A37 x34.length c38), (12, .int .i64 x35), (13, .int .i64 x39)]) rfl
                      refine rg ?_
                      refine mv F rfl fun a F => ?_
                      refine mv F rfl fun a F => ?_
                      obtain ⟨⟨x64, x65⟩, e66, j_41⟩ := Option.bind_eq_some_iff.1 j_41
                      try dsimp only at j_41
                      refine ls (call F Try.func19 (disk_Disk_Read_ok (H) e66) rfl rfl fun v w hR a F => ?_)
                      obtain ⟨A67, c68, rfl, H⟩ := hR
                      refine mv F rfl fun a F => ?_
                      refine ls (qv F (r_ex (F.ev (x := .tmp 90) rfl) rfl) fun a F => ?_)
                      refine ls (qv F (r_ex (F.ev (x := .tmp 90) rfl) rfl) fun a F => ?_)
                      refine as_ F rfl fun a F => ?_
                      refine as_ F rfl fun a F => ?_
                      refine rgend ?_
                      replace F := F.only [17, 16, 1, 7, 8, 10, 11, 12, 13] (l' := [(17, .int .i64 x65), (16, .slice A67 x64.length c68), (1, .slice A1_ a1.length c1_), (7, .bool x1), (8, .pointer (some ⟨g6, 0, none⟩)), (10, .int .i64 ((IntKind.i64.wrap a2).tmod 8)), (11, .slice A37 x34.length c38), (12, .int .i64 x35), (13, .int .i64 x39)]) rfl
                      refine rg ?_
                      refine mv F rfl fun a F => ?_
                      replace H := (H).freeze
                      have hb69 := H.bytes 0 rfl
                      refine ls (qv F (H.str 0 rfl (F.ev (x := .tmp 96) rfl) Try.underlying31 Try.underlying5 Try.underlying9) fun a F => ?_)
                      refine mv F rfl fun a F => ?_
                      have hb70 := H.bytes 2 rfl
                      refine ls (qv F (H.str 2 rfl (F.ev (x := .tmp 98) rfl) Try.underlying31 Try.underlying5 Try.underlying9) fun a F => ?_)
                      refine ls (qv F (r_sne (F.ev (x := .tmp 97) rfl) (F.ev (x := .tmp 99) rfl) hb69 hb70) fun a F => ?_)
                      refine mv F rfl fun a F => ?_
                      by_cases c71 : x64 ≠ x34
                      · rw [if_pos c71] at j_41
                        rw [decide_eq_true c71] at F
                        refine ls (off F fun a F => ?_)
                        refine ls (off F fun a F => ?_)
                        refine ls (off F fun a F => ?_)
                        refine ls (qv F (r_pickT (F.ev (x := .tmp 101) rfl) (F.ev (x := .const (.bool true)) rfl)) fun a F => ?_)
                        refine rgend ?_
                        replace F := F.only [105, 1, 7, 8, 10, 11, 12, 13] (l' := [(105, .bool true), (1, .slice A1_ a1.length c1_), (7, .bool x1), (8, .pointer (some ⟨g6, 0, none⟩)), (10, .int .i64 ((IntKind.i64.wrap a2).tmod 8)), (11, .slice A37 x34.length c38), (12, .int .i64 x35), (13, .int .i64 x39)]) rfl
                        refine wp_cond_true (F.ev rfl) ?_
                        refine rg ?_
                        refine as_ F (v := .bool false) rfl fun a F => ?_
                        refine rgend ?_
                        replace F := F.only [6] (l' := [(6, .bool false)]) rfl
                        refine wp_ret ?_
                        try dsimp only at j_41
                        obtain rfl := Option.some.inj j_41
                        obtain rfl := u_41 _ rfl
                        try dsimp only at h
                        obtain rfl := Option.some.inj h
                        exact RET _ _ (ret1 F rfl rfl ⟨_, rfl, rfl, H.px4.px3.px2.px1.px0.fx1.fx0⟩)
                      · rw [if_neg c71] at j_41
                        rw [decide_eq_false c71] at F
                        refine mv F rfl fun a F => ?_
                        refine mv F rfl fun a F => ?_
                        refine ls (qv F (r_ne (F.ev (x := .tmp 102) rfl) (F.ev (x := .tmp 103) rfl)) fun a F => ?_)
                        refine ls (qv F (r_pickF (F.ev (x := .tmp 101) rfl) (F.ev (x := .tmp 104) rfl)) fun a F => ?_)
                        refine rgend ?_
                        replace F := F.only [105, 1, 7, 8, 10, 11, 12, 13] (l' := [(105, .bool (decide (x65 ≠ x35))), (1, .slice A1_ a1.length c1_), (7, .bool x1), (8, .pointer (some ⟨g6, 0, none⟩)), (10, .int .i64 ((IntKind.i64.wrap a2).tmod 8)), (11, .slice A37 x34.length c38), (12, .int .i64 x35), (13, .int .i64 x39)]) rfl
                        by_cases c72 : x65 ≠ x35
                        · rw [if_pos c72] at j_41
                          rw [decide_eq_true c72] at F
                          refine wp_cond_true (F.ev rfl) ?_
                          refine rg ?_
                          refine as_ F (v := .bool false) rfl fun a F => ?_
                          refine rgend ?_
                          replace F := F.only [6] (l' := [(6, .bool false)]) rfl
                          refine wp_ret ?_
                          try dsimp only at j_41
                          obtain rfl := Option.some.inj j_41
                          obtain rfl := u_41 _ rfl
                          try dsimp only at h
                          obtain rfl := Option.some.inj h
                          exact RET _ _ (ret1 F rfl rfl ⟨_, rfl, rfl, H.px4.px3.px2.px1.px0.fx1.fx0⟩)
                        · rw [if_neg c72] at j_41
                          rw [decide_eq_false c72] at F
                          refine wp_cond_false (F.ev rfl) ?_
                          refine wp_skip ?_
                          refine wp_region_lit ?_
                          refine mv F rfl fun a F => ?_
                          refine ls (qv F (r_add (F.ev (x := .tmp 66) rfl) (F.ev (x := .const (.int .i64 1)) rfl)) fun a F => ?_)
                          refine as_ F rfl fun a F => ?_
                          refine wpList_nil ?_
                          replace F := F.only [13, 1, 7, 8, 10, 11, 12] (l' := [(13, .int .i64 (IntKind.i64.wrap (x39 + 1))), (1, .slice A1_ a1.length c1_), (7, .bool x1), (8, .pointer (some ⟨g6, 0, none⟩)), (10, .int .i64 ((IntKind.i64.wrap a2).tmod 8)), (11, .slice A37 x34.length c38), (12, .int .i64 x35)]) rfl
                          try dsimp only at j_41
                          obtain rfl := Option.some.inj j_41
                          exact ⟨_, rfl, F.only [1, 7, 8, 10, 11, 12, 13] rfl, H.px4.px3.px0.fx1⟩
              · rw [if_neg c43] at j_41
                rw [decide_eq_false c43] at F
                refine wp_cond_false (F.ev rfl) ?_
                refine wp_exit ?_
                try dsimp only at j_41
                obtain rfl := Option.some.inj j_41
                obtain rfl := u_41 _ rfl
                repeat (with_reducible refine exT ?_)
                with_reducible refine exB ?_
                exact ⟨_, rfl, F.only [7, 8, 10, 11, 12] rfl, H.px0⟩
            · rintro a w ⟨x41, rfl, F, H⟩
              try dsimp only at h F H
              refine rg ?_
              refine mv F rfl fun a F => ?_
              replace H := H.nilRd kBool
              obtain ⟨x73, e74, h⟩ := Option.bind_eq_some_iff.1 h
              try dsimp only at h
              refine ls (call F Try.func22 (disk_Disk_Crash_ok (H.p0) e74) rfl rfl fun v w hR a F => ?_)
              obtain ⟨rfl, H⟩ := hR
              refine rgend ?_
              refine rg ?_
              refine mv F rfl fun a F => ?_
              refine mv F rfl fun a F => ?_
              obtain ⟨⟨x75, x76⟩, e77, h⟩ := Option.bind_eq_some_iff.1 h
              try dsimp only at h
              refine ls (call F Try.func19 (disk_Disk_Read_ok (H) e77) rfl rfl fun v w hR a F => ?_)
              obtain ⟨A78, c79, rfl, H⟩ := hR
              refine mv F rfl fun a F => ?_
              refine ls (qv F (r_ex (F.ev (x := .tmp 108) rfl) rfl) fun a F => ?_)
              refine ls (qv F (r_ex (F.ev (x := .tmp 108) rfl) rfl) fun a F => ?_)
              refine as_ F rfl fun a F => ?_
              refine as_ F rfl fun a F => ?_
              refine rgend ?_
              replace F := F.only [19, 18, 7, 11, 12] (l' := [(19, .int .i64 x76), (18, .slice A78 x75.length c79), (7, .bool x1), (11, .slice A37 x34.length c38), (12, .int .i64 x35)]) rfl
              refine wp_seq ?_
              obtain ⟨o_80, k_80, h⟩ := Option.bind_eq_some_iff.1 h
              refine cut (fun a w => ∃ (x80 : Bool), x80 = o_80 ∧ Fr 127 [] [(6, .bool x80)] a ∧ Hp w0 ps (obj_disk_Disk g6 x73 :: fs) w) ?_ ?_
              · skip
                refine wp_region_lit ?_
                refine mv F rfl fun a F => ?_
                refine mv F rfl fun a F => ?_
                by_cases c82 : x1 = true
                · rw [if_pos c82] at k_80
                  rw [c82] at F
                  refine mv F rfl fun a F => ?_
                  replace H := (H).freeze
                  have hb83 := H.bytes 0 rfl
                  refine ls (qv F (H.str 0 rfl (F.ev (x := .tmp 116) rfl) Try.underlying31 Try.underlying5 Try.underlying9) fun a F => ?_)
                  refine mv F rfl fun a F => ?_
                  have hb84 := H.bytes 2 rfl
                  refine ls (qv F (H.str 2 rfl (F.ev (x := .tmp 118) rfl) Try.underlying31 Try.underlying5 Try.underlying9) fun a F => ?_)
                  refine ls (qv F (r_seq (F.ev (x := .tmp 117) rfl) (F.ev (x := .tmp 119) rfl) hb83 hb84) fun a F => ?_)
                  refine ls (qv F (r_pickT (F.ev (x := .tmp 115) rfl) (F.ev (x := .tmp 120) rfl)) fun a F => ?_)
                  refine mv F rfl fun a F => ?_
                  by_cases c85 : x75 = x34
                  · rw [if_pos c85] at k_80
                    rw [decide_eq_true c85] at F
                    refine mv F rfl fun a F => ?_
                    refine mv F rfl fun a F => ?_
                    refine ls (qv F (r_eq (F.ev (x := .tmp 123) rfl) (F.ev (x := .tmp 124) rfl)) fun a F => ?_)
                    refine ls (qv F (r_pickT (F.ev (x := .tmp 122) rfl) (F.ev (x := .tmp 125) rfl)) fun a F => ?_)
                    refine as_ F rfl fun a F => ?_
                    refine wpList_nil ?_
                    replace F := F.only [6] (l' := [(6, .bool (decide (x76 = x35)))]) rfl
                    try dsimp only at k_80
                    obtain rfl := Option.some.inj k_80
                    exact ⟨_, rfl, F.only [6] rfl, H.px2.px1.px0⟩
                  · rw [if_neg c85] at k_80
                    rw [decide_eq_false c85] at F
                    refine ls (off F fun a F => ?_)
                    refine ls (off F fun a F => ?_)
                    refine ls (off F fun a F => ?_)
                    refine ls (qv F (r_pickF (F.ev (x := .tmp 122) rfl) (F.ev (x := .const (.bool false)) rfl)) fun a F => ?_)
                    refine as_ F rfl fun a F => ?_
                    refine wpList_nil ?_
                    replace F := F.only [6] (l' := [(6, .bool false)]) rfl
                    try dsimp only at k_80
                    obtain rfl := Option.some.inj k_80
                    exact ⟨_, rfl, F.only [6] rfl, H.px2.px1.px0⟩
                · rw [if_neg c82] at k_80
                  rw [Bool.eq_false_iff.2 c82] at F
                  refine ls (off F fun a F => ?_)
                  refine ls (off F fun a F => ?_)
                  refine ls (off F fun a F => ?_)
                  refine ls (off F fun a F => ?_)
                  refine ls (off F fun a F => ?_)
                  refine ls (qv F (r_pickF (F.ev (x := .tmp 115) rfl) (F.ev (x := .const (.bool false)) rfl)) fun a F => ?_)
                  refine mv F rfl fun a F => ?_
                  refine ls (off F fun a F => ?_)
                  refine ls (off F fun a F => ?_)
                  refine ls (off F fun a F => ?_)
                  refine ls (qv F (r_pickF (F.ev (x := .tmp 122) rfl) (F.ev (x := .const (.bool false)) rfl)) fun a F => ?_)
                  refine as_ F rfl fun a F => ?_
                  refine wpList_nil ?_
                  replace F := F.only [6] (l' := [(6, .bool false)]) rfl
                  try dsimp only at k_80
                  obtain rfl := Option.some.inj k_80
                  exact ⟨_, rfl, F.only [6] rfl, H.px1.px0.fx0⟩
              · rintro a w ⟨x80, rfl, F, H⟩
                try dsimp only at h F H
                refine wp_ret ?_
                try dsimp only at h
                obtain rfl := Option.some.inj h
                exact RET _ _ (ret1 F rfl rfl ⟨_, rfl, rfl, H.fx0⟩)
end Go.Proofs.Ytddfdbpjldcjiaa
