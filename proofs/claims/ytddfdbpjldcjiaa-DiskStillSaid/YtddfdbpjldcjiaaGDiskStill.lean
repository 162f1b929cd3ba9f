/- What the functions compute. Printed by wip/gen. -/
import Derived.Test.YtddfdbpjldcjiaaGL
set_option linter.unusedVariables false
set_option linter.unusedSimpArgs false
namespace Go.Proofs.Ytddfdbpjldcjiaa
open Go Go.RowKit
def law15_DiskStill_b0 (a0 : Int) (a1 : List law15_Op) : (Int × Int × disk_Disk) → Option (Int × Int × disk_Disk ⊕ (disk_Disk ⊕ Bool))
  | (x12, x13, x14) => (if x13 < (a1.length : Int) then (if 0 ≤ x13 ∧ x13 < (a1.length : Int) then (if ((a1.getD (x13 : Int).toNat (⟨0, 0, 0, [], 0, []⟩ : law15_Op)).What) = 7 then some (.inl (x12, IntKind.i64.wrap (x13 + 1), x14)) else (if ((a1.getD (x13 : Int).toNat (⟨0, 0, 0, [], 0, []⟩ : law15_Op)).What) = 8 then some (.inl (x12, IntKind.i64.wrap (x13 + 1), x14)) else ((disk_Disk_Pending_f x14).bind fun x30 => ((law15_Do_f x14 ((a1.getD (x13 : Int).toNat (⟨0, 0, 0, [], 0, []⟩ : law15_Op)))).bind fun (x32, x33) => (((if (((decide (x32 = 42)) != (decide (x12 ≥ (IntKind.i64.wrap a0))))) = true then some true else (if x12 ≥ (IntKind.i64.wrap a0) then ((disk_Disk_Pending_f x33).bind fun x39 => some ((decide (x39 ≠ x30)))) else some false)) : Option (Bool)).bind fun x35 => (if x35 = true then some (.inr (.inr false)) else some (.inl (IntKind.i64.wrap (x12 + 1), IntKind.i64.wrap (x13 + 1), x33)))))))) else none) else some (.inr (.inl x14)))
def law15_DiskStill_f (a0 : Int) (a1 : List law15_Op) : Option (Bool) :=
  ((law15_head_f).bind fun x1 => ((disk_New_f 6).bind fun x3 => match x3 with | none => some false | some x5 => ((law15_Great_f a1).bind fun x7 => (if x7 = true then some x1 else ((disk_Disk_Fuse_f x5 (IntKind.i64.wrap a0)).bind fun x10 => ((lp (law15_DiskStill_b0 a0 a1) (0, 0, x10)).bind fun q => match q with | .inl x15 => ((disk_Disk_Crash_f x15 [] (-1)).bind fun x42 => (((if x1 = true then ((disk_Disk_Sync_f x42).bind fun (x48, x49) => some (decide (x48 = 0), x49)) else some (false, x42)) : Option (Bool × disk_Disk)).bind fun (x44, x45) => some x44)) | .inr r => some r))))))
set_option maxHeartbeats 4000000 in
set_option maxRecDepth 20000 in
theorem law15_DiskStill_ok {w0 w : World} {ps : List PF} {fs : List SF} {a0 : Int} {a1 : List law15_Op} {A1_ : Option Addr} {c1_ : Nat} {r0 : Bool} (H : Hp w0 (rd k_law15_Op A1_ c1_ a1 :: ps) fs w) (h : law15_DiskStill_f a0 a1 = some r0) (ha0 : 0 ≤ a0 ∧ a0 < 256) :
    Calls Try.prog 7 [.int .u8 a0, .slice A1_ a1.length c1_].toArray w fun e w' => ∃ v, e = .returned v ∧ v = .bool r0 ∧ Hp w0 ps fs w' := by
  refine enter [.int .u8 a0, .slice A1_ a1.length c1_] 80 Try.func7 fun Q a NP RET NRM F => ?_
  replace NP : ∀ c a w, ¬ Q (.panic c) a w := fun c a w h => by rcases NP c a w h with h | ⟨w, v, h, _⟩ <;> cases h
  unfold law15_DiskStill_f at h
  refine rg ?_
  refine as_ F (v := .bool false) rfl fun a F => ?_
  refine rgend ?_
  refine rg ?_
  obtain ⟨x1, e2, h⟩ := Option.bind_eq_some_iff.1 h
  try dsimp only at h
  refine ls (call F Try.func10 (law15_head_ok (H) e2) rfl rfl fun v w hR a F => ?_)
  obtain ⟨rfl, H⟩ := hR
  refine as_ F rfl fun a F => ?_
  refine rgend ?_
  refine rg ?_
  obtain ⟨x3, e4, h⟩ := Option.bind_eq_some_iff.1 h
  try dsimp only at h
  rcases x3 with _ | x5
  · try dsimp only at h
    refine ls (call F Try.func12 (disk_New_ok (H) e4) rfl rfl fun v w hR a F => ?_)
    obtain ⟨rfl, H⟩ := hR
    refine as_ F rfl fun a F => ?_
    refine rgend ?_
    refine wp_seq ?_
    refine rg ?_
    refine mv F rfl fun a F => ?_
    refine ls (qv F (r_peq0 (F.ev (x := .tmp 15) rfl) (F.ev (x := .const (.pointer none)) rfl) Try.underlying25) fun a F => ?_)
    refine mv F rfl fun a F => ?_
    refine ls (off F fun a F => ?_)
    refine ls (off F fun a F => ?_)
    refine ls (qv F (r_pickT (F.ev (x := .tmp 17) rfl) (F.ev (x := .const (.bool true)) rfl)) fun a F => ?_)
    refine rgend ?_
    replace F := F.only [20, 6, 5, 0, 1] (l' := [(20, .bool true), (6, .pointer none), (5, .bool x1), (0, .int .u8 a0), (1, .slice A1_ a1.length c1_)]) rfl
    refine wp_cond_true (F.ev rfl) ?_
    refine wp_seq ?_
    refine wp_region_lit ?_
    refine mv F rfl fun a F => ?_
    refine ls (qv F (r_pne0 (F.ev (x := .tmp 21) rfl) (F.ev (x := .const (.pointer none)) rfl) Try.underlying25) fun a F => ?_)
    refine mv F rfl fun a F => ?_
    refine ls (off F fun a F => ?_)
    refine ls (qv F (r_pickF (F.ev (x := .tmp 23) rfl) (F.ev (x := .const (.bool false)) rfl)) fun a F => ?_)
    refine as_ F rfl fun a F => ?_
    refine wpList_nil ?_
    replace F := F.only [4] (l' := [(4, .bool false)]) rfl
    refine wp_ret ?_
    try dsimp only at h
    obtain rfl := Option.some.inj h
    exact RET _ _ (ret1 F rfl rfl ⟨_, rfl, rfl, H.px0⟩)
  · try dsimp only at h
    refine ls (call F Try.func12 (disk_New_ok (H) e4) rfl rfl fun v w hR a F => ?_)
    obtain ⟨g6, rfl, H⟩ := hR
    refine as_ F rfl fun a F => ?_
    refine rgend ?_
    refine wp_seq ?_
    refine rg ?_
    refine mv F rfl fun a F => ?_
    refine ls (qv F (r_peq (F.ev (x := .tmp 15) rfl) (F.ev (x := .const (.pointer none)) rfl) Try.underlying25) fun a F => ?_)
    refine mv F rfl fun a F => ?_
    refine mv F rfl fun a F => ?_
    obtain ⟨x7, e8, h⟩ := Option.bind_eq_some_iff.1 h
    try dsimp only at h
    refine ls (call F Try.func11 (law15_Great_ok (H.p0) e8) rfl rfl fun v w hR a F => ?_)
    obtain ⟨rfl, H⟩ := hR
    refine ls (qv F (r_pickF (F.ev (x := .tmp 17) rfl) (F.ev (x := .tmp 19) rfl)) fun a F => ?_)
    refine rgend ?_
    replace F := F.only [20, 6, 5, 0, 1] (l' := [(20, .bool x7), (6, .pointer (some ⟨g6, 0, none⟩)), (5, .bool x1), (0, .int .u8 a0), (1, .slice A1_ a1.length c1_)]) rfl
    by_cases c9 : x7 = true
    · rw [if_pos c9] at h
      rw [c9] at F
      refine wp_cond_true (F.ev rfl) ?_
      refine wp_seq ?_
      refine wp_region_lit ?_
      refine mv F rfl fun a F => ?_
      refine ls (qv F (r_pne (F.ev (x := .tmp 21) rfl) (F.ev (x := .const (.pointer none)) rfl) Try.underlying25) fun a F => ?_)
      refine mv F rfl fun a F => ?_
      refine mv F rfl fun a F => ?_
      refine ls (qv F (r_pickT (F.ev (x := .tmp 23) rfl) (F.ev (x := .tmp 24) rfl)) fun a F => ?_)
      refine as_ F rfl fun a F => ?_
      refine wpList_nil ?_
      replace F := F.only [4] (l' := [(4, .bool x1)]) rfl
      refine wp_ret ?_
      try dsimp only at h
      obtain rfl := Option.some.inj h
      exact RET _ _ (ret1 F rfl rfl ⟨_, rfl, rfl, H.px0.fx0⟩)
    · rw [if_neg c9] at h
      rw [Bool.eq_false_iff.2 c9] at F
      refine wp_cond_false (F.ev rfl) ?_
      refine wp_skip ?_
      refine rg ?_
      refine mv F rfl fun a F => ?_
      refine mv F rfl fun a F => ?_
      refine ls (qv F (r_ci (F.ev (x := .tmp 27) rfl) Try.underlying3 Try.underlying5) fun a F => ?_)
      obtain ⟨x10, e11, h⟩ := Option.bind_eq_some_iff.1 h
      try dsimp only at h
      refine ls (call F Try.func25 (disk_Disk_Fuse_ok (H) e11) rfl rfl fun v w hR a F => ?_)
      obtain ⟨rfl, H⟩ := hR
      refine rgend ?_
      replace F := F.only [6, 5, 0, 1] (l' := [(6, .pointer (some ⟨g6, 0, none⟩)), (5, .bool x1), (0, .int .u8 a0), (1, .slice A1_ a1.length c1_)]) rfl
      refine rg ?_
      refine as_ F (v := .int .i64 0) rfl fun a F => ?_
      refine rgend ?_
      refine wp_seq ?_
      refine rg ?_
      refine as_ F (v := .int .i64 0) rfl fun a F => ?_
      refine rgend ?_
      obtain ⟨o_15, k_15, h⟩ := Option.bind_eq_some_iff.1 h
      refine cut (fun a w => ∃ (x15 : disk_Disk), Sum.inl x15 = o_15 ∧ Fr 80 [] [(5, .bool x1), (6, .pointer (some ⟨g6, 0, none⟩))] a ∧ Hp w0 ps (obj_disk_Disk g6 x15 :: fs) w) (wp_block ?_) ?_
      · refine wloop (law15_DiskStill_b0 a0 a1) (fun (s : Int × Int × disk_Disk) a w => Fr 80 [] [(0, .int .u8 a0), (1, .slice A1_ a1.length c1_), (5, .bool x1), (6, .pointer (some ⟨g6, 0, none⟩)), (7, .int .i64 s.1), (8, .int .i64 s.2.1)] a ∧ Hp w0 (rd k_law15_Op A1_ c1_ a1 :: ps) (obj_disk_Disk g6 s.2.2 :: fs) w) k_15 ⟨F.only [0, 1, 5, 6, 7, 8] rfl, H⟩ ?_
        rintro ⟨x12, x13, x14⟩ a w q_15 j_15 u_15 ⟨F, H⟩
        unfold law15_DiskStill_b0 at j_15
        try dsimp only at j_15 F H
        refine wp_seq ?_
        refine rg ?_
        refine mv F rfl fun a F => ?_
        refine mv F rfl fun a F => ?_
        refine ls (qv F (r_len (F.ev (x := .tmp 31) rfl) Try.underlying22) fun a F => ?_)
        refine ls (qv F (r_lt (F.ev (x := .tmp 30) rfl) (F.ev (x := .tmp 32) rfl)) fun a F => ?_)
        refine rgend ?_
        by_cases c17 : x13 < (a1.length : Int)
        · rw [if_pos c17] at j_15
          rw [decide_eq_true c17] at F
          refine wp_cond_true (F.ev rfl) ?_
          refine wp_skip ?_
          refine wp_seq ?_
          refine wp_block ?_
          refine rg ?_
          refine mv F rfl fun a F => ?_
          refine mv F rfl fun a F => ?_
          obtain ⟨c18, j_15⟩ := guardO j_15
          obtain ⟨g19, o20, s21, hr, H⟩ := H.ix (⟨0, 0, 0, [], 0, []⟩ : law15_Op) 0 rfl (F.ev (x := .tmp 36) rfl) (F.ev (x := .tmp 37) rfl) Try.underlying22 sz34 (by decide) c18.1 c18.2
          obtain ⟨A23, c24, A25, c26, rfl, hr22, H⟩ := H.open_law15_Op 1 rfl
          refine ls (qv F (hr _ _ _ _ _ _) fun a F => ?_)
          refine ls (qv F (r_ldA (F.ev (x := .tmp 38) rfl) (H.range 2 rfl) agg34 rfl) fun a F => ?_)
          refine ls (lal F H ti34 (cs := [.int .i64 0, .int .i64 0, .int .u8 0, .slice none 0 0, .int .i64 0, .slice none 0 0]) rfl fun g27 w a H F => ?_)
          obtain ⟨_, hr, H⟩ := Hp.store (t := 34) (o := 0) (n := 6) (vs := [.int .i64 ((a1.getD (x13 : Int).toNat (⟨0, 0, 0, [], 0, []⟩ : law15_Op)).What), .int .i64 ((a1.getD (x13 : Int).toNat (⟨0, 0, 0, [], 0, []⟩ : law15_Op)).At), .int .u8 ((a1.getD (x13 : Int).toNat (⟨0, 0, 0, [], 0, []⟩ : law15_Op)).C), .slice A23 ((a1.getD (x13 : Int).toNat (⟨0, 0, 0, [], 0, []⟩ : law15_Op)).B).length c24, .int .i64 ((a1.getD (x13 : Int).toNat (⟨0, 0, 0, [], 0, []⟩ : law15_Op)).N), .slice A25 ((a1.getD (x13 : Int).toNat (⟨0, 0, 0, [], 0, []⟩ : law15_Op)).Keep).length c26]) (cs' := [.int .i64 ((a1.getD (x13 : Int).toNat (⟨0, 0, 0, [], 0, []⟩ : law15_Op)).What), .int .i64 ((a1.getD (x13 : Int).toNat (⟨0, 0, 0, [], 0, []⟩ : law15_Op)).At), .int .u8 ((a1.getD (x13 : Int).toNat (⟨0, 0, 0, [], 0, []⟩ : law15_Op)).C), .slice A23 ((a1.getD (x13 : Int).toNat (⟨0, 0, 0, [], 0, []⟩ : law15_Op)).B).length c24, .int .i64 ((a1.getD (x13 : Int).toNat (⟨0, 0, 0, [], 0, []⟩ : law15_Op)).N), .slice A25 ((a1.getD (x13 : Int).toNat (⟨0, 0, 0, [], 0, []⟩ : law15_Op)).Keep).length c26]) (H) (F.ev (x := .tmp 9) rfl) (F.ev (x := .tmp 39) rfl) rfl sz34 rfl (Nat.le_of_ble_eq_true rfl) rfl rfl
          refine ls (qn F (.inl rfl) (hr _ _ _ _) fun a F => ?_)
          refine rgend ?_
          replace F := F.only [9, 0, 1, 5, 6, 7, 8] (l' := [(9, .pointer (some ⟨g27, 0, none⟩)), (0, .int .u8 a0), (1, .slice A1_ a1.length c1_), (5, .bool x1), (6, .pointer (some ⟨g6, 0, none⟩)), (7, .int .i64 x12), (8, .int .i64 x13)]) rfl
          refine wp_seq ?_
          refine rg ?_
          refine ls (qv F (r_fa (off := 0) (F.ev (x := .tmp 9) rfl) fa34_0) fun a F => ?_)
          refine ls (qv F (r_ld (F.ev (x := .tmp 40) rfl) (cel_cell (o := 0) (H.cell 0 rfl) rfl) one3) fun a F => ?_)
          refine ls (qv F (r_eq (F.ev (x := .tmp 41) rfl) (F.ev (x := .const (.int .i64 7)) rfl)) fun a F => ?_)
          refine mv F rfl fun a F => ?_
          by_cases c28 : ((a1.getD (x13 : Int).toNat (⟨0, 0, 0, [], 0, []⟩ : law15_Op)).What) = 7
          · rw [if_pos c28] at j_15
            rw [decide_eq_true c28] at F
            refine ls (off F fun a F => ?_)
            refine ls (off F fun a F => ?_)
            refine ls (off F fun a F => ?_)
            refine ls (qv F (r_pickT (F.ev (x := .tmp 43) rfl) (F.ev (x := .const (.bool true)) rfl)) fun a F => ?_)
            refine rgend ?_
            replace F := F.only [47, 9, 0, 1, 5, 6, 7, 8] (l' := [(47, .bool true), (9, .pointer (some ⟨g27, 0, none⟩)), (0, .int .u8 a0), (1, .slice A1_ a1.length c1_), (5, .bool x1), (6, .pointer (some ⟨g6, 0, none⟩)), (7, .int .i64 x12), (8, .int .i64 x13)]) rfl
            refine wp_cond_true (F.ev rfl) ?_
            refine wp_exit ?_
            repeat (with_reducible refine exT ?_)
            with_reducible refine exB ?_
            refine wp_region_lit ?_
            refine mv F rfl fun a F => ?_
            refine ls (qv F (r_add (F.ev (x := .tmp 34) rfl) (F.ev (x := .const (.int .i64 1)) rfl)) fun a F => ?_)
            refine as_ F rfl fun a F => ?_
            refine wpList_nil ?_
            replace F := F.only [8, 0, 1, 5, 6, 7] (l' := [(8, .int .i64 (IntKind.i64.wrap (x13 + 1))), (0, .int .u8 a0), (1, .slice A1_ a1.length c1_), (5, .bool x1), (6, .pointer (some ⟨g6, 0, none⟩)), (7, .int .i64 x12)]) rfl
            try dsimp only at j_15
            obtain rfl := Option.some.inj j_15
            exact ⟨_, rfl, F.only [0, 1, 5, 6, 7, 8] rfl, H.px3.px2.px1.px0.fx0⟩
          · rw [if_neg c28] at j_15
            rw [decide_eq_false c28] at F
            refine ls (qv F (r_fa (off := 0) (F.ev (x := .tmp 9) rfl) fa34_0) fun a F => ?_)
            refine ls (qv F (r_ld (F.ev (x := .tmp 44) rfl) (cel_cell (o := 0) (H.cell 0 rfl) rfl) one3) fun a F => ?_)
            refine ls (qv F (r_eq (F.ev (x := .tmp 45) rfl) (F.ev (x := .const (.int .i64 8)) rfl)) fun a F => ?_)
            refine ls (qv F (r_pickF (F.ev (x := .tmp 43) rfl) (F.ev (x := .tmp 46) rfl)) fun a F => ?_)
            refine rgend ?_
            replace F := F.only [47, 9, 0, 1, 5, 6, 7, 8] (l' := [(47, .bool (decide (((a1.getD (x13 : Int).toNat (⟨0, 0, 0, [], 0, []⟩ : law15_Op)).What) = 8))), (9, .pointer (some ⟨g27, 0, none⟩)), (0, .int .u8 a0), (1, .slice A1_ a1.length c1_), (5, .bool x1), (6, .pointer (some ⟨g6, 0, none⟩)), (7, .int .i64 x12), (8, .int .i64 x13)]) rfl
            by_cases c29 : ((a1.getD (x13 : Int).toNat (⟨0, 0, 0, [], 0, []⟩ : law15_Op)).What) = 8
            · rw [if_pos c29] at j_15
              rw [decide_eq_true c29] at F
              refine wp_cond_true (F.ev rfl) ?_
              refine wp_exit ?_
              repeat (with_reducible refine exT ?_)
              with_reducible refine exB ?_
              refine wp_region_lit ?_
              refine mv F rfl fun a F => ?_
              refine ls (qv F (r_add (F.ev (x := .tmp 34) rfl) (F.ev (x := .const (.int .i64 1)) rfl)) fun a F => ?_)
              refine as_ F rfl fun a F => ?_
              refine wpList_nil ?_
              replace F := F.only [8, 0, 1, 5, 6, 7] (l' := [(8, .int .i64 (IntKind.i64.wrap (x13 + 1))), (0, .int .u8 a0), (1, .slice A1_ a1.length c1_), (5, .bool x1), (6, .pointer (some ⟨g6, 0, none⟩)), (7, .int .i64 x12)]) rfl
              try dsimp only at j_15
              obtain rfl := Option.some.inj j_15
              exact ⟨_, rfl, F.only [0, 1, 5, 6, 7, 8] rfl, H.px3.px2.px1.px0.fx0⟩
            · rw [if_neg c29] at j_15
              rw [decide_eq_false c29] at F
              refine wp_cond_false (F.ev rfl) ?_
              refine wp_skip ?_
              refine rg ?_
              refine mv F rfl fun a F => ?_
              obtain ⟨x30, e31, j_15⟩ := Option.bind_eq_some_iff.1 j_15
              try dsimp only at j_15
              refine ls (call F Try.func16 (disk_Disk_Pending_ok (H.f1) e31) rfl rfl fun v w hR a F => ?_)
              obtain ⟨rfl, H⟩ := hR
              refine as_ F rfl fun a F => ?_
              refine rgend ?_
              refine rg ?_
              refine mv F rfl fun a F => ?_
              refine ls (qv F (r_ldA (F.ev (x := .tmp 9) rfl) (cel_range (o := 0) (n := 6) (vs := [.int .i64 ((a1.getD (x13 : Int).toNat (⟨0, 0, 0, [], 0, []⟩ : law15_Op)).What), .int .i64 ((a1.getD (x13 : Int).toNat (⟨0, 0, 0, [], 0, []⟩ : law15_Op)).At), .int .u8 ((a1.getD (x13 : Int).toNat (⟨0, 0, 0, [], 0, []⟩ : law15_Op)).C), .slice A23 ((a1.getD (x13 : Int).toNat (⟨0, 0, 0, [], 0, []⟩ : law15_Op)).B).length c24, .int .i64 ((a1.getD (x13 : Int).toNat (⟨0, 0, 0, [], 0, []⟩ : law15_Op)).N), .slice A25 ((a1.getD (x13 : Int).toNat (⟨0, 0, 0, [], 0, []⟩ : law15_Op)).Keep).length c26]) (H.cell 1 rfl) rfl) agg34 rfl) fun a F => ?_)
              obtain ⟨⟨x32, x33⟩, e34, j_15⟩ := Option.bind_eq_some_iff.1 j_15
              try dsimp only at j_15
              refine ls (call F Try.func14 (law15_Do_ok (a1 := (a1.getD (x13 : Int).toNat (⟨0, 0, 0, [], 0, []⟩ : law15_Op))) (H.p1.p1) e34 hr22) rfl rfl fun v w hR a F => ?_)
              obtain ⟨rfl, H⟩ := hR
              refine as_ F rfl fun a F => ?_
              refine rgend ?_
              replace F := F.only [11, 10, 0, 1, 5, 6, 7, 8] (l' := [(11, .int .i64 x32), (10, .int .i64 x30), (0, .int .u8 a0), (1, .slice A1_ a1.length c1_), (5, .bool x1), (6, .pointer (some ⟨g6, 0, none⟩)), (7, .int .i64 x12), (8, .int .i64 x13)]) rfl
              refine rg ?_
              refine mv F rfl fun a F => ?_
              refine mv F rfl fun a F => ?_
              refine ls (qv F (r_ci (F.ev (x := .tmp 54) rfl) Try.underlying3 Try.underlying5) fun a F => ?_)
              refine ls (qv F (r_ge (F.ev (x := .tmp 53) rfl) (F.ev (x := .tmp 55) rfl)) fun a F => ?_)
              refine as_ F rfl fun a F => ?_
              refine rgend ?_
              replace F := F.only [12, 11, 10, 0, 1, 5, 6, 7, 8] (l' := [(12, .bool (decide (x12 ≥ (IntKind.i64.wrap a0)))), (11, .int .i64 x32), (10, .int .i64 x30), (0, .int .u8 a0), (1, .slice A1_ a1.length c1_), (5, .bool x1), (6, .pointer (some ⟨g6, 0, none⟩)), (7, .int .i64 x12), (8, .int .i64 x13)]) rfl
              refine wp_seq ?_
              refine wp_seq ?_
              obtain ⟨o_35, k_35, j_15⟩ := Option.bind_eq_some_iff.1 j_15
              refine cut (fun a w => ∃ (x35 : Bool), x35 = o_35 ∧ Fr 80 [] [(0, .int .u8 a0), (1, .slice A1_ a1.length c1_), (5, .bool x1), (6, .pointer (some ⟨g6, 0, none⟩)), (7, .int .i64 x12), (8, .int .i64 x13), (69, .bool x35)] a ∧ Hp w0 (rd k_law15_Op A1_ c1_ a1 :: ps) (obj_disk_Disk g6 x33 :: fs) w) ?_ ?_
              · skip
                refine wp_region_lit ?_
                refine mv F rfl fun a F => ?_
                refine ls (qv F (r_eq (F.ev (x := .tmp 57) rfl) (F.ev (x := .const (.int .i64 42)) rfl)) fun a F => ?_)
                refine mv F rfl fun a F => ?_
                refine ls (qv F (r_bne (F.ev (x := .tmp 58) rfl) (F.ev (x := .tmp 59) rfl) Try.underlying4) fun a F => ?_)
                refine mv F rfl fun a F => ?_
                by_cases c37 : (((decide (x32 = 42)) != (decide (x12 ≥ (IntKind.i64.wrap a0))))) = true
                · rw [if_pos c37] at k_35
                  rw [c37] at F
                  refine ls (off F fun a F => ?_)
                  refine ls (off F fun a F => ?_)
                  refine ls (off F fun a F => ?_)
                  refine ls (off F fun a F => ?_)
                  refine ls (off F fun a F => ?_)
                  refine ls (off F fun a F => ?_)
                  refine ls (off F fun a F => ?_)
                  refine ls (qv F (r_pickT (F.ev (x := .tmp 61) rfl) (F.ev (x := .const (.bool true)) rfl)) fun a F => ?_)
                  refine wpList_nil ?_
                  replace F := F.only [69, 0, 1, 5, 6, 7, 8] (l' := [(69, .bool true), (0, .int .u8 a0), (1, .slice A1_ a1.length c1_), (5, .bool x1), (6, .pointer (some ⟨g6, 0, none⟩)), (7, .int .i64 x12), (8, .int .i64 x13)]) rfl
                  try dsimp only at k_35
                  obtain rfl := Option.some.inj k_35
                  exact ⟨_, rfl, F.only [0, 1, 5, 6, 7, 8, 69] rfl, H.px3.px2.px1.px0.fx1⟩
                · rw [if_neg c37] at k_35
                  rw [Bool.eq_false_iff.2 c37] at F
                  refine mv F rfl fun a F => ?_
                  refine mv F rfl fun a F => ?_
                  by_cases c38 : x12 ≥ (IntKind.i64.wrap a0)
                  · rw [if_pos c38] at k_35
                    rw [decide_eq_true c38] at F
                    refine mv F rfl fun a F => ?_
                    obtain ⟨x39, e40, k_35⟩ := Option.bind_eq_some_iff.1 k_35
                    try dsimp only at k_35
                    refine ls (call F Try.func16 (disk_Disk_Pending_ok (H) e40) rfl rfl fun v w hR a F => ?_)
                    obtain ⟨rfl, H⟩ := hR
                    refine mv F rfl fun a F => ?_
                    refine ls (qv F (r_ne (F.ev (x := .tmp 65) rfl) (F.ev (x := .tmp 66) rfl)) fun a F => ?_)
                    refine ls (qv F (r_pickT (F.ev (x := .tmp 63) rfl) (F.ev (x := .tmp 67) rfl)) fun a F => ?_)
                    refine ls (qv F (r_pickF (F.ev (x := .tmp 61) rfl) (F.ev (x := .tmp 68) rfl)) fun a F => ?_)
                    refine wpList_nil ?_
                    replace F := F.only [69, 0, 1, 5, 6, 7, 8] (l' := [(69, .bool (decide (x39 ≠ x30))), (0, .int .u8 a0), (1, .slice A1_ a1.length c1_), (5, .bool x1), (6, .pointer (some ⟨g6, 0, none⟩)), (7, .int .i64 x12), (8, .int .i64 x13)]) rfl
                    try dsimp only at k_35
                    obtain rfl := Option.some.inj k_35
                    exact ⟨_, rfl, F.only [0, 1, 5, 6, 7, 8, 69] rfl, H.px3.px2.px1.px0.fx1⟩
                  · rw [if_neg c38] at k_35
                    rw [decide_eq_false c38] at F
                    refine ls (off F fun a F => ?_)
                    refine ls (off F fun a F => ?_)
                    refine ls (off F fun a F => ?_)
                    refine ls (off F fun a F => ?_)
                    refine ls (qv F (r_pickF (F.ev (x := .tmp 63) rfl) (F.ev (x := .const (.bool false)) rfl)) fun a F => ?_)
                    refine ls (qv F (r_pickF (F.ev (x := .tmp 61) rfl) (F.ev (x := .tmp 68) rfl)) fun a F => ?_)
                    refine wpList_nil ?_
                    replace F := F.only [69, 0, 1, 5, 6, 7, 8] (l' := [(69, .bool false), (0, .int .u8 a0), (1, .slice A1_ a1.length c1_), (5, .bool x1), (6, .pointer (some ⟨g6, 0, none⟩)), (7, .int .i64 x12), (8, .int .i64 x13)]) rfl
                    try dsimp only at k_35
                    obtain rfl := Option.some.inj k_35
                    exact ⟨_, rfl, F.only [0, 1, 5, 6, 7, 8, 69] rfl, H.px3.px2.px1.px0.fx1⟩
              · rintro a w ⟨x35, rfl, F, H⟩
                try dsimp only at j_15 F H
                by_cases c41 : x35 = true
                · rw [if_pos c41] at j_15
                  rw [c41] at F
                  refine wp_cond_true (F.ev rfl) ?_
                  refine rg ?_
                  refine as_ F (v := .bool false) rfl fun a F => ?_
                  refine rgend ?_
                  replace F := F.only [4] (l' := [(4, .bool false)]) rfl
                  refine wp_ret ?_
                  try dsimp only at j_15
                  obtain rfl := Option.some.inj j_15
                  obtain rfl := u_15 _ rfl
                  try dsimp only at h
                  obtain rfl := Option.some.inj h
                  exact RET _ _ (ret1 F rfl rfl ⟨_, rfl, rfl, H.px0.fx0⟩)
                · rw [if_neg c41] at j_15
                  rw [Bool.eq_false_iff.2 c41] at F
                  refine wp_cond_false (F.ev rfl) ?_
                  refine wp_skip ?_
                  refine wp_region_lit ?_
                  refine mv F rfl fun a F => ?_
                  refine ls (qv F (r_add (F.ev (x := .tmp 70) rfl) (F.ev (x := .const (.int .i64 1)) rfl)) fun a F => ?_)
                  refine as_ F rfl fun a F => ?_
                  refine wpList_nil ?_
                  replace F := F.only [7, 0, 1, 5, 6, 8] (l' := [(7, .int .i64 (IntKind.i64.wrap (x12 + 1))), (0, .int .u8 a0), (1, .slice A1_ a1.length c1_), (5, .bool x1), (6, .pointer (some ⟨g6, 0, none⟩)), (8, .int .i64 x13)]) rfl
                  refine wp_region_lit ?_
                  refine mv F rfl fun a F => ?_
                  refine ls (qv F (r_add (F.ev (x := .tmp 34) rfl) (F.ev (x := .const (.int .i64 1)) rfl)) fun a F => ?_)
                  refine as_ F rfl fun a F => ?_
                  refine wpList_nil ?_
                  try dsimp only at j_15
                  obtain rfl := Option.some.inj j_15
                  exact ⟨_, rfl, F.only [0, 1, 5, 6, 7, 8] rfl, H⟩
        · rw [if_neg c17] at j_15
          rw [decide_eq_false c17] at F
          refine wp_cond_false (F.ev rfl) ?_
          refine wp_exit ?_
          try dsimp only at j_15
          obtain rfl := Option.some.inj j_15
          obtain rfl := u_15 _ rfl
          repeat (with_reducible refine exT ?_)
          with_reducible refine exB ?_
          exact ⟨_, rfl, F.only [5, 6] rfl, H.px0⟩
      · rintro a w ⟨x15, rfl, F, H⟩
        try dsimp only at h F H
        refine rg ?_
        refine mv F rfl fun a F => ?_
        replace H := H.nilRd kBool
        obtain ⟨x42, e43, h⟩ := Option.bind_eq_some_iff.1 h
        try dsimp only at h
        refine ls (call F Try.func22 (disk_Disk_Crash_ok (H.p0) e43) rfl rfl fun v w hR a F => ?_)
        obtain ⟨rfl, H⟩ := hR
        refine rgend ?_
        refine wp_seq ?_
        obtain ⟨o_45, k_45, h⟩ := Option.bind_eq_some_iff.1 h
        refine cut (fun a w => ∃ (x44 : Bool) (x45 : disk_Disk), (x44, x45) = o_45 ∧ Fr 80 [] [(4, .bool x44)] a ∧ Hp w0 ps (obj_disk_Disk g6 x45 :: fs) w) ?_ ?_
        · skip
          refine wp_region_lit ?_
          refine mv F rfl fun a F => ?_
          refine mv F rfl fun a F => ?_
          by_cases c47 : x1 = true
          · rw [if_pos c47] at k_45
            rw [c47] at F
            refine mv F rfl fun a F => ?_
            obtain ⟨⟨x48, x49⟩, e50, k_45⟩ := Option.bind_eq_some_iff.1 k_45
            try dsimp only at k_45
            refine ls (call F Try.func21 (disk_Disk_Sync_ok (H) e50) rfl rfl fun v w hR a F => ?_)
            obtain ⟨rfl, H⟩ := hR
            refine ls (qv F (r_eq (F.ev (x := .tmp 77) rfl) (F.ev (x := .const (.int .i64 0)) rfl)) fun a F => ?_)
            refine ls (qv F (r_pickT (F.ev (x := .tmp 75) rfl) (F.ev (x := .tmp 78) rfl)) fun a F => ?_)
            refine as_ F rfl fun a F => ?_
            refine wpList_nil ?_
            replace F := F.only [4] (l' := [(4, .bool (decide (x48 = 0)))]) rfl
            try dsimp only at k_45
            obtain rfl := Option.some.inj k_45
            exact ⟨_, _, rfl, F.only [4] rfl, H.px0⟩
          · rw [if_neg c47] at k_45
            rw [Bool.eq_false_iff.2 c47] at F
            refine ls (off F fun a F => ?_)
            refine ls (off F fun a F => ?_)
            refine ls (off F fun a F => ?_)
            refine ls (qv F (r_pickF (F.ev (x := .tmp 75) rfl) (F.ev (x := .const (.bool false)) rfl)) fun a F => ?_)
            refine as_ F rfl fun a F => ?_
            refine wpList_nil ?_
            replace F := F.only [4] (l' := [(4, .bool false)]) rfl
            try dsimp only at k_45
            obtain rfl := Option.some.inj k_45
            exact ⟨_, _, rfl, F.only [4] rfl, H.px0⟩
        · rintro a w ⟨x44, x45, rfl, F, H⟩
          try dsimp only at h F H
          refine wp_ret ?_
          try dsimp only at h
          obtain rfl := Option.some.inj h
          exact RET _ _ (ret1 F rfl rfl ⟨_, rfl, rfl, H.fx0⟩)
end Go.Proofs.Ytddfdbpjldcjiaa
