/- What the functions compute. Printed by wip/gen. -/
import Derived.Test.YtddfdbpjldcjiaaGL
set_option linter.unusedVariables false
set_option linter.unusedSimpArgs false
namespace Go.Proofs.Ytddfdbpjldcjiaa
open Go Go.RowKit
def law15_DiskAll_b3 (x34 : List (List Int)) (x37 : List Int) (x74 : disk_Disk) : Int → Option (Int ⊕ (Unit ⊕ Bool))
  | x76 => (if x76 < 6 then ((disk_Disk_Read_f x74 x76).bind fun (x79, x80) => (((if 0 ≤ x76 ∧ x76 < (x34.length : Int) then (if x79 ≠ (x34.getD (x76 : Int).toNat []) then some true else (if 0 ≤ x76 ∧ x76 < (x37.length : Int) then some ((decide (x80 ≠ (x37.getD (x76 : Int).toNat 0)))) else none)) else none) : Option (Bool)).bind fun x84 => (if x84 = true then some (.inr (.inr false)) else some (.inl (IntKind.i64.wrap (x76 + 1)))))) else some (.inr (.inl ())))
def law15_DiskAll_b2 : ((List Bool) × Int) → Option ((List Bool) × Int ⊕ List Bool)
  | (x58, x61) => (if x61 < 300 then (if 0 ≤ x61 ∧ x61 < (x58.length : Int) then some (.inl ((x58.set (x61 : Int).toNat true), IntKind.i64.wrap (x61 + 1))) else none) else some (.inr x58))
def law15_DiskAll_b1 (x12 : disk_Disk) : ((List (List Int)) × (List Int) × Int) → Option ((List (List Int)) × (List Int) × Int ⊕ (List (List Int)) × (List Int))
  | (x27, x30, x33) => (if x33 < 6 then ((disk_Disk_Read_f x12 x33).bind fun (x42, x43) => (if (x27.length + 1) * 16 ≤ 140737488355328 then (if (x30.length + 1) * 8 ≤ 140737488355328 then some (.inl ((x27 ++ ([x42])), (x30 ++ ([x43])), IntKind.i64.wrap (x33 + 1))) else none) else none)) else some (.inr (x27, x30)))
def law15_DiskAll_b0 (a0 : List law15_Op) : (Int × disk_Disk) → Option (Int × disk_Disk ⊕ disk_Disk)
  | (x10, x11) => (if x10 < (a0.length : Int) then (if 0 ≤ x10 ∧ x10 < (a0.length : Int) then ((law15_Do_f x11 ((a0.getD (x10 : Int).toNat (⟨0, 0, 0, [], 0, []⟩ : law15_Op)))).bind fun (x24, x25) => some (.inl (IntKind.i64.wrap (x10 + 1), x25))) else none) else some (.inr x11))
def law15_DiskAll_f (a0 : List law15_Op) : Option (Bool) :=
  ((law15_head_f).bind fun x1 => ((disk_New_f 6).bind fun x3 => match x3 with | none => some false | some x5 => ((law15_Great_f a0).bind fun x7 => (if x7 = true then some x1 else ((lp (law15_DiskAll_b0 a0) (0, x5)).bind fun x12 => ((lp (law15_DiskAll_b1 x12) ([], [], 0)).bind fun (x34, x37) => (if 0 ≤ (300 : Int) ∧ 1 * (300 : Int) ≤ 281474976710656 then ((lp law15_DiskAll_b2 (List.replicate (300 : Int).toNat false, 0)).bind fun x62 => ((disk_Disk_Crash_f x12 x62 (-1)).bind fun x72 => ((disk_Disk_Crash_f x72 [] 0).bind fun x74 => ((lp (law15_DiskAll_b3 x34 x37 x74) 0).bind fun q => match q with | .inl _ => some x1 | .inr r => some r)))) else none)))))))
set_option maxHeartbeats 4000000 in
set_option maxRecDepth 20000 in
theorem law15_DiskAll_ok {w0 w : World} {ps : List PF} {fs : List SF} {a0 : List law15_Op} {A0_ : Option Addr} {c0_ : Nat} {r0 : Bool} (H : Hp w0 (rd k_law15_Op A0_ c0_ a0 :: ps) fs w) (h : law15_DiskAll_f a0 = some r0) :
    Calls Try.prog 6 [.slice A0_ a0.length c0_].toArray w fun e w' => ∃ v, e = .returned v ∧ v = .bool r0 ∧ Hp w0 ps fs w' := by
  refine enter [.slice A0_ a0.length c0_] 99 Try.func6 fun Q a NP RET NRM F => ?_
  replace NP : ∀ c a w, ¬ Q (.panic c) a w := fun c a w h => by rcases NP c a w h with h | ⟨w, v, h, _⟩ <;> cases h
  unfold law15_DiskAll_f at h
  refine rg ?_
  refine as_ F (v := .bool false) rfl fun a F => ?_
  refine rgend ?_
  refine rg ?_
  obtain ⟨x1, e2, h⟩ := Option.bind_eq_some_iff.1 h
  try dsimp only at h
  refine ls (call F Try.func10 (law15_head_ok (H) e2) rfl rfl fun v w hR a F => ?_)
  obtain ⟨rfl, H⟩ := hR
  refine as_ F rfl fun a F => ?_
  refine rgend ?_
  refine rg ?_
  obtain ⟨x3, e4, h⟩ := Option.bind_eq_some_iff.1 h
  try dsimp only at h
  rcases x3 with _ | x5
  · try dsimp only at h
    refine ls (call F Try.func12 (disk_New_ok (H) e4) rfl rfl fun v w hR a F => ?_)
    obtain ⟨rfl, H⟩ := hR
    refine as_ F rfl fun a F => ?_
    refine rgend ?_
    refine wp_seq ?_
    refine rg ?_
    refine mv F rfl fun a F => ?_
    refine ls (qv F (r_peq0 (F.ev (x := .tmp 18) rfl) (F.ev (x := .const (.pointer none)) rfl) Try.underlying25) fun a F => ?_)
    refine mv F rfl fun a F => ?_
    refine ls (off F fun a F => ?_)
    refine ls (off F fun a F => ?_)
    refine ls (qv F (r_pickT (F.ev (x := .tmp 20) rfl) (F.ev (x := .const (.bool true)) rfl)) fun a F => ?_)
    refine rgend ?_
    replace F := F.only [23, 4, 3, 0] (l' := [(23, .bool true), (4, .pointer none), (3, .bool x1), (0, .slice A0_ a0.length c0_)]) rfl
    refine wp_cond_true (F.ev rfl) ?_
    refine wp_seq ?_
    refine wp_region_lit ?_
    refine mv F rfl fun a F => ?_
    refine ls (qv F (r_pne0 (F.ev (x := .tmp 24) rfl) (F.ev (x := .const (.pointer none)) rfl) Try.underlying25) fun a F => ?_)
    refine mv F rfl fun a F => ?_
    refine ls (off F fun a F => ?_)
    refine ls (qv F (r_pickF (F.ev (x := .tmp 26) rfl) (F.ev (x := .const (.bool false)) rfl)) fun a F => ?_)
    refine as_ F rfl fun a F => ?_
    refine wpList_nil ?_
    replace F := F.only [2] (l' := [(2, .bool false)]) rfl
    refine wp_ret ?_
    try dsimp only at h
    obtain rfl := Option.some.inj h
    exact RET _ _ (ret1 F rfl rfl ⟨_, rfl, rfl, H.px0⟩)
  · try dsimp only at h
    refine ls (call F Try.func12 (disk_New_ok (H) e4) rfl rfl fun v w hR a F => ?_)
    obtain ⟨g6, rfl, H⟩ := hR
    refine as_ F rfl fun a F => ?_
    refine rgend ?_
    refine wp_seq ?_
    refine rg ?_
    refine mv F rfl fun a F => ?_
    refine ls (qv F (r_peq (F.ev (x := .tmp 18) rfl) (F.ev (x := .const (.pointer none)) rfl) Try.underlying25) fun a F => ?_)
    refine mv F rfl fun a F => ?_
    refine mv F rfl fun a F => ?_
    obtain ⟨x7, e8, h⟩ := Option.bind_eq_some_iff.1 h
    try dsimp only at h
    refine ls (call F Try.func11 (law15_Great_ok (H.p0) e8) rfl rfl fun v w hR a F => ?_)
    obtain ⟨rfl, H⟩ := hR
    refine ls (qv F (r_pickF (F.ev (x := .tmp 20) rfl) (F.ev (x := .tmp 22) rfl)) fun a F => ?_)
    refine rgend ?_
    replace F := F.only [23, 4, 3, 0] (l' := [(23, .bool x7), (4, .pointer (some ⟨g6, 0, none⟩)), (3, .bool x1), (0, .slice A0_ a0.length c0_)]) rfl
    by_cases c9 : x7 = true
    · rw [if_pos c9] at h
      rw [c9] at F
      refine wp_cond_true (F.ev rfl) ?_
      refine wp_seq ?_
      refine wp_region_lit ?_
      refine mv F rfl fun a F => ?_
      refine ls (qv F (r_pne (F.ev (x := .tmp 24) rfl) (F.ev (x := .const (.pointer none)) rfl) Try.underlying25) fun a F => ?_)
      refine mv F rfl fun a F => ?_
      refine mv F rfl fun a F => ?_
      refine ls (qv F (r_pickT (F.ev (x := .tmp 26) rfl) (F.ev (x := .tmp 27) rfl)) fun a F => ?_)
      refine as_ F rfl fun a F => ?_
      refine wpList_nil ?_
      replace F := F.only [2] (l' := [(2, .bool x1)]) rfl
      refine wp_ret ?_
      try dsimp only at h
      obtain rfl := Option.some.inj h
      exact RET _ _ (ret1 F rfl rfl ⟨_, rfl, rfl, H.px0.fx0⟩)
    · rw [if_neg c9] at h
      rw [Bool.eq_false_iff.2 c9] at F
      refine wp_cond_false (F.ev rfl) ?_
      refine wp_skip ?_
      refine wp_seq ?_
      refine rg ?_
      refine as_ F (v := .int .i64 0) rfl fun a F => ?_
      refine rgend ?_
      obtain ⟨o_12, k_12, h⟩ := Option.bind_eq_some_iff.1 h
      refine cut (fun a w => ∃ (x12 : disk_Disk), x12 = o_12 ∧ Fr 99 [] [(3, .bool x1), (4, .pointer (some ⟨g6, 0, none⟩))] a ∧ Hp w0 ps (obj_disk_Disk g6 x12 :: fs) w) (wp_block ?_) ?_
      · refine wloop (law15_DiskAll_b0 a0) (fun (s : Int × disk_Disk) a w => Fr 99 [] [(0, .slice A0_ a0.length c0_), (3, .bool x1), (4, .pointer (some ⟨g6, 0, none⟩)), (5, .int .i64 s.1)] a ∧ Hp w0 (rd k_law15_Op A0_ c0_ a0 :: ps) (obj_disk_Disk g6 s.2 :: fs) w) k_12 ⟨F.only [0, 3, 4, 5] rfl, H⟩ ?_
        rintro ⟨x10, x11⟩ a w q_12 j_12 u_12 ⟨F, H⟩
        unfold law15_DiskAll_b0 at j_12
        try dsimp only at j_12 F H
        refine wp_seq ?_
        refine rg ?_
        refine mv F rfl fun a F => ?_
        refine mv F rfl fun a F => ?_
        refine ls (qv F (r_len (F.ev (x := .tmp 30) rfl) Try.underlying22) fun a F => ?_)
        refine ls (qv F (r_lt (F.ev (x := .tmp 29) rfl) (F.ev (x := .tmp 31) rfl)) fun a F => ?_)
        refine rgend ?_
        by_cases c14 : x10 < (a0.length : Int)
        · rw [if_pos c14] at j_12
          rw [decide_eq_true c14] at F
          refine wp_cond_true (F.ev rfl) ?_
          refine wp_skip ?_
          refine wp_seq ?_
          refine wp_block ?_
          refine wp_region_lit ?_
          refine mv F rfl fun a F => ?_
          refine mv F rfl fun a F => ?_
          refine mv F rfl fun a F => ?_
          obtain ⟨c15, j_12⟩ := guardO j_12
          obtain ⟨g16, o17, s18, hr, H⟩ := H.ix (⟨0, 0, 0, [], 0, []⟩ : law15_Op) 0 rfl (F.ev (x := .tmp 36) rfl) (F.ev (x := .tmp 37) rfl) Try.underlying22 sz34 (by decide) c15.1 c15.2
          obtain ⟨A20, c21, A22, c23, rfl, hr19, H⟩ := H.open_law15_Op 1 rfl
          refine ls (qv F (hr _ _ _ _ _ _) fun a F => ?_)
          refine ls (qv F (r_ldA (F.ev (x := .tmp 38) rfl) (H.range 2 rfl) agg34 rfl) fun a F => ?_)
          obtain ⟨⟨x24, x25⟩, e26, j_12⟩ := Option.bind_eq_some_iff.1 j_12
          try dsimp only at j_12
          refine ls (call F Try.func14 (law15_Do_ok (a1 := (a0.getD (x10 : Int).toNat (⟨0, 0, 0, [], 0, []⟩ : law15_Op))) (H.p1.p1) e26 hr19) rfl rfl fun v w hR a F => ?_)
          obtain ⟨rfl, H⟩ := hR
          refine wpList_nil ?_
          replace F := F.only [0, 3, 4, 5] (l' := [(0, .slice A0_ a0.length c0_), (3, .bool x1), (4, .pointer (some ⟨g6, 0, none⟩)), (5, .int .i64 x10)]) rfl
          refine wp_region_lit ?_
          refine mv F rfl fun a F => ?_
          refine ls (qv F (r_add (F.ev (x := .tmp 33) rfl) (F.ev (x := .const (.int .i64 1)) rfl)) fun a F => ?_)
          refine as_ F rfl fun a F => ?_
          refine wpList_nil ?_
          try dsimp only at j_12
          obtain rfl := Option.some.inj j_12
          exact ⟨_, rfl, F.only [0, 3, 4, 5] rfl, H.px3.px2.px1.px0⟩
        · rw [if_neg c14] at j_12
          rw [decide_eq_false c14] at F
          refine wp_cond_false (F.ev rfl) ?_
          refine wp_exit ?_
          try dsimp only at j_12
          obtain rfl := Option.some.inj j_12
          obtain rfl := u_12 _ rfl
          repeat (with_reducible refine exT ?_)
          with_reducible refine exB ?_
          exact ⟨_, rfl, F.only [3, 4] rfl, H.px0⟩
      · rintro a w ⟨x12, rfl, F, H⟩
        try dsimp only at h F H
        refine rg ?_
        refine as_ F (v := .slice none 0 0) rfl fun a F => ?_
        refine rgend ?_
        refine rg ?_
        refine as_ F (v := .slice none 0 0) rfl fun a F => ?_
        refine rgend ?_
        refine wp_seq ?_
        refine rg ?_
        refine as_ F (v := .int .i64 0) rfl fun a F => ?_
        refine rgend ?_
        replace H := H.nilOwn kStr 9
        replace H := H.nilOwn (kInt .i64) 29
        obtain ⟨o_39, k_39, h⟩ := Option.bind_eq_some_iff.1 h
        refine cut (fun a w => ∃ (x34 : List (List Int)) (x37 : List Int), (x34, x37) = o_39 ∧ ∃ (A35 : Option Addr) (c36 : Nat) (A38 : Option Addr) (c39 : Nat), Fr 99 [] [(3, .bool x1), (4, .pointer (some ⟨g6, 0, none⟩)), (6, .slice A35 x34.length c36), (7, .slice A38 x37.length c39)] a ∧ Hp w0 ps (own kStr 9 A35 c36 x34 :: own (kInt .i64) 29 A38 c39 x37 :: obj_disk_Disk g6 x12 :: fs) w) (wp_block ?_) ?_
        · refine wloop (law15_DiskAll_b1 x12) (fun (s : (List (List Int)) × (List Int) × Int) a w => ∃ (A28 : Option Addr) (c29 : Nat) (A31 : Option Addr) (c32 : Nat), Fr 99 [] [(3, .bool x1), (4, .pointer (some ⟨g6, 0, none⟩)), (6, .slice A28 s.1.length c29), (7, .slice A31 s.2.1.length c32), (8, .int .i64 s.2.2)] a ∧ Hp w0 ps (own kStr 9 A28 c29 s.1 :: own (kInt .i64) 29 A31 c32 s.2.1 :: obj_disk_Disk g6 x12 :: fs) w) k_39 ⟨none, 0, none, 0, F.only [3, 4, 6, 7, 8] rfl, H.f2.f1.f2⟩ ?_
          rintro ⟨x27, x30, x33⟩ a w q_39 j_39 u_39 ⟨A28, c29, A31, c32, F, H⟩
          unfold law15_DiskAll_b1 at j_39
          try dsimp only at j_39 F H
          refine wp_seq ?_
          refine rg ?_
          refine mv F rfl fun a F => ?_
          refine ls (qv F (r_lt (F.ev (x := .tmp 41) rfl) (F.ev (x := .const (.int .i64 6)) rfl)) fun a F => ?_)
          refine rgend ?_
          by_cases c41 : x33 < 6
          · rw [if_pos c41] at j_39
            rw [decide_eq_true c41] at F
            refine wp_cond_true (F.ev rfl) ?_
            refine wp_skip ?_
            refine wp_seq ?_
            refine wp_block ?_
            refine rg ?_
            refine mv F rfl fun a F => ?_
            refine mv F rfl fun a F => ?_
            obtain ⟨⟨x42, x43⟩, e44, j_39⟩ := Option.bind_eq_some_iff.1 j_39
            try dsimp only at j_39
            refine ls (call F Try.func19 (disk_Disk_Read_ok (H.f1.f1.f2) e44) rfl rfl fun v w hR a F => ?_)
            obtain ⟨A45, c46, rfl, H⟩ := hR
            refine mv F rfl fun a F => ?_
            refine ls (qv F (r_ex (F.ev (x := .tmp 45) rfl) rfl) fun a F => ?_)
            refine ls (qv F (r_ex (F.ev (x := .tmp 45) rfl) rfl) fun a F => ?_)
            refine as_ F rfl fun a F => ?_
            refine as_ F rfl fun a F => ?_
            refine rgend ?_
            replace F := F.only [10, 9, 3, 4, 6, 7, 8] (l' := [(10, .int .i64 x43), (9, .slice A45 x42.length c46), (3, .bool x1), (4, .pointer (some ⟨g6, 0, none⟩)), (6, .slice A28 x27.length c29), (7, .slice A31 x30.length c32), (8, .int .i64 x33)]) rfl
            refine rg ?_
            refine mv F rfl fun a F => ?_
            refine mv F rfl fun a F => ?_
            replace H := (H).freeze
            have hb47 := H.bytes 0 rfl
            refine ls (qv F (H.str 0 rfl (F.ev (x := .tmp 52) rfl) Try.underlying31 Try.underlying5 Try.underlying9) fun a F => ?_)
            refine ls (lbs F H (e := 9) (vs := [(0, .string (strOf x42))]) (cs := [.string (strOf x42)]) rfl (fun w => by kernel_rfl) fun g48 w a H F => ?_)
            obtain ⟨c49, j_39⟩ := guardO j_39
            obtain ⟨A50, c51, _, hr, H⟩ := Hp.appendCelL (kd := kStr) (xs := x27) (ys := [x42]) (H.f3.f2.f2.f3) (F.ev (x := .tmp 51) rfl) (F.ev (x := .tmp 54) rfl) Try.underlying47 ti9 rfl (by decide) (by decide) rfl ((SayL.cons (kd := kStr) (c1 := [.string (strOf x42)]) (y := x42) (fun Z hp => ⟨rfl, hb47⟩) SayL.nil)) c49
            refine ls (qv F (hr _ _ _ _ _) fun a F => ?_)
            refine as_ F rfl fun a F => ?_
            refine rgend ?_
            replace F := F.only [6, 10, 3, 4, 7, 8] (l' := [(6, .slice A50 ((x27 ++ ([x42]))).length c51), (10, .int .i64 x43), (3, .bool x1), (4, .pointer (some ⟨g6, 0, none⟩)), (7, .slice A31 x30.length c32), (8, .int .i64 x33)]) rfl
            refine wp_region_lit ?_
            refine mv F rfl fun a F => ?_
            refine mv F rfl fun a F => ?_
            refine ls (lbs F H (e := 29) (vs := [(0, .int .i64 x43)]) (cs := [.int .i64 x43]) rfl (fun w => by kernel_rfl) fun g52 w a H F => ?_)
            obtain ⟨c53, j_39⟩ := guardO j_39
            obtain ⟨A54, c55, _, hr, H⟩ := Hp.appendCelL (kd := (kInt .i64)) (xs := x30) (ys := [x43]) (H.f2.f2.f2.f3) (F.ev (x := .tmp 56) rfl) (F.ev (x := .tmp 58) rfl) Try.underlying48 ti29 rfl (by decide) (by decide) rfl ((SayL.cons (kd := (kInt .i64)) (c1 := [.int .i64 x43]) (y := x43) (fun Z hp => rfl) SayL.nil)) c53
            refine ls (qv F (hr _ _ _ _ _) fun a F => ?_)
            refine as_ F rfl fun a F => ?_
            refine wpList_nil ?_
            replace F := F.only [7, 6, 3, 4, 8] (l' := [(7, .slice A54 ((x30 ++ ([x43]))).length c55), (6, .slice A50 ((x27 ++ ([x42]))).length c51), (3, .bool x1), (4, .pointer (some ⟨g6, 0, none⟩)), (8, .int .i64 x33)]) rfl
            refine wp_region_lit ?_
            refine mv F rfl fun a F => ?_
            refine ls (qv F (r_add (F.ev (x := .tmp 43) rfl) (F.ev (x := .const (.int .i64 1)) rfl)) fun a F => ?_)
            refine as_ F rfl fun a F => ?_
            refine wpList_nil ?_
            try dsimp only at j_39
            obtain rfl := Option.some.inj j_39
            exact ⟨_, rfl, A50, c51, A54, c55, F.only [3, 4, 6, 7, 8] rfl, H.px0.f2.f1.f2⟩
          · rw [if_neg c41] at j_39
            rw [decide_eq_false c41] at F
            refine wp_cond_false (F.ev rfl) ?_
            refine wp_exit ?_
            try dsimp only at j_39
            obtain rfl := Option.some.inj j_39
            obtain rfl := u_39 _ rfl
            repeat (with_reducible refine exT ?_)
            with_reducible refine exB ?_
            exact ⟨_, _, rfl, A28, c29, A31, c32, F.only [3, 4, 6, 7] rfl, H⟩
        · rintro a w ⟨x34, x37, rfl, A35, c36, A38, c39, F, H⟩
          try dsimp only at h F H
          refine rg ?_
          obtain ⟨c57, h⟩ := guardO h
          obtain ⟨g56, _, hr, H⟩ := Hp.make (kd := kBool) (zx := false) H (F.ev (x := .const (.int .i64 300)) rfl) (F.ev (x := .const (.int .i64 300)) rfl) Try.underlying32 ti4 rfl rfl (by decide) c57.1 c57.2 (fun Z w => rfl) rfl
          refine ls (qv F (hr _ _ _ _ _) fun a F => ?_)
          refine as_ F rfl fun a F => ?_
          refine rgend ?_
          refine wp_seq ?_
          refine rg ?_
          refine as_ F (v := .int .i64 0) rfl fun a F => ?_
          refine rgend ?_
          obtain ⟨o_64, k_64, h⟩ := Option.bind_eq_some_iff.1 h
          refine cut (fun a w => ∃ (x62 : List Bool), x62 = o_64 ∧ ∃ (A63 : Option Addr) (c64 : Nat), Fr 99 [] [(3, .bool x1), (4, .pointer (some ⟨g6, 0, none⟩)), (6, .slice A35 x34.length c36), (7, .slice A38 x37.length c39), (11, .slice A63 x62.length c64)] a ∧ Hp w0 ps (own kBool 4 A63 c64 x62 :: own kStr 9 A35 c36 x34 :: own (kInt .i64) 29 A38 c39 x37 :: obj_disk_Disk g6 x12 :: fs) w) (wp_block ?_) ?_
          · refine wloop law15_DiskAll_b2 (fun (s : (List Bool) × Int) a w => ∃ (A59 : Option Addr) (c60 : Nat), Fr 99 [] [(3, .bool x1), (4, .pointer (some ⟨g6, 0, none⟩)), (6, .slice A35 x34.length c36), (7, .slice A38 x37.length c39), (11, .slice A59 s.1.length c60), (12, .int .i64 s.2)] a ∧ Hp w0 ps (own kBool 4 A59 c60 s.1 :: own kStr 9 A35 c36 x34 :: own (kInt .i64) 29 A38 c39 x37 :: obj_disk_Disk g6 x12 :: fs) w) k_64 ⟨(some ⟨g56, 0, none⟩), (List.replicate (300 : Int).toNat false).length, F.only [3, 4, 6, 7, 11, 12] rfl, H⟩ ?_
            rintro ⟨x58, x61⟩ a w q_64 j_64 u_64 ⟨A59, c60, F, H⟩
            unfold law15_DiskAll_b2 at j_64
            try dsimp only at j_64 F H
            refine wp_seq ?_
            refine rg ?_
            refine mv F rfl fun a F => ?_
            refine ls (qv F (r_lt (F.ev (x := .tmp 61) rfl) (F.ev (x := .const (.int .i64 300)) rfl)) fun a F => ?_)
            refine rgend ?_
            by_cases c66 : x61 < 300
            · rw [if_pos c66] at j_64
              rw [decide_eq_true c66] at F
              refine wp_cond_true (F.ev rfl) ?_
              refine wp_skip ?_
              refine wp_seq ?_
              refine wp_block ?_
              refine wp_region_lit ?_
              refine mv F rfl fun a F => ?_
              refine mv F rfl fun a F => ?_
              obtain ⟨c67, j_64⟩ := guardO j_64
              obtain ⟨g68, s69, hA, hq71, hl70, H⟩ := H.ixOwn2 false 0 rfl (F.ev (x := .tmp 65) rfl) (F.ev (x := .tmp 66) rfl) Try.underlying32 sz4 (by decide) c67.1 c67.2
              cases hA
              obtain rfl := H.says_bool 0 rfl
              refine ls (qv F (hq71 _ _ _ _ _ _) fun a F => ?_)
              obtain ⟨_, hr, H⟩ := Hp.setOwn (kd := kBool) (xs := x58) (j := (x61 : Int).toNat) (x1 := true) (H) (F.ev (x := .tmp 67) rfl) (F.ev (x := .const (.bool true)) rfl) rfl sz4 (by have := c67; omega) (fun Z hp => rfl)
              refine ls (qn F (.inl rfl) (hr _ _ _ _) fun a F => ?_)
              replace F := F.only [67, 66, 65, 62, 61, 3, 4, 6, 7, 11, 12] (l' := [(67, .pointer (some ⟨g68, (x61 : Int).toNat * kBool.sz, none⟩)), (66, .int .i64 x61), (65, .slice (some ⟨g68, 0, none⟩) ((x58.set (x61 : Int).toNat true)).length c60), (62, .bool true), (61, .int .i64 x61), (3, .bool x1), (4, .pointer (some ⟨g6, 0, none⟩)), (6, .slice A35 x34.length c36), (7, .slice A38 x37.length c39), (11, .slice (some ⟨g68, 0, none⟩) ((x58.set (x61 : Int).toNat true)).length c60), (12, .int .i64 x61)]) (by (try simp only [List.length_set]); rfl)
              refine wpList_nil ?_
              replace F := F.only [3, 4, 6, 7, 11, 12] (l' := [(3, .bool x1), (4, .pointer (some ⟨g6, 0, none⟩)), (6, .slice A35 x34.length c36), (7, .slice A38 x37.length c39), (11, .slice (some ⟨g68, 0, none⟩) ((x58.set (x61 : Int).toNat true)).length c60), (12, .int .i64 x61)]) rfl
              refine wp_region_lit ?_
              refine mv F rfl fun a F => ?_
              refine ls (qv F (r_add (F.ev (x := .tmp 63) rfl) (F.ev (x := .const (.int .i64 1)) rfl)) fun a F => ?_)
              refine as_ F rfl fun a F => ?_
              refine wpList_nil ?_
              try dsimp only at j_64
              obtain rfl := Option.some.inj j_64
              exact ⟨_, rfl, (some ⟨g68, 0, none⟩), c60, F.only [3, 4, 6, 7, 11, 12] rfl, H.px0⟩
            · rw [if_neg c66] at j_64
              rw [decide_eq_false c66] at F
              refine wp_cond_false (F.ev rfl) ?_
              refine wp_exit ?_
              try dsimp only at j_64
              obtain rfl := Option.some.inj j_64
              obtain rfl := u_64 _ rfl
              repeat (with_reducible refine exT ?_)
              with_reducible refine exB ?_
              exact ⟨_, rfl, A59, c60, F.only [3, 4, 6, 7, 11] rfl, H⟩
          · rintro a w ⟨x62, rfl, A63, c64, F, H⟩
            try dsimp only at h F H
            refine rg ?_
            refine mv F rfl fun a F => ?_
            refine mv F rfl fun a F => ?_
            replace H := (H).freeze
            obtain ⟨x72, e73, h⟩ := Option.bind_eq_some_iff.1 h
            try dsimp only at h
            refine ls (call F Try.func22 (disk_Disk_Crash_ok (H.p0.f1.f1.f2) e73) rfl rfl fun v w hR a F => ?_)
            obtain ⟨rfl, H⟩ := hR
            refine rgend ?_
            replace F := F.only [3, 4, 6, 7] (l' := [(3, .bool x1), (4, .pointer (some ⟨g6, 0, none⟩)), (6, .slice A35 x34.length c36), (7, .slice A38 x37.length c39)]) rfl
            refine rg ?_
            refine mv F rfl fun a F => ?_
            replace H := H.nilRd kBool
            obtain ⟨x74, e75, h⟩ := Option.bind_eq_some_iff.1 h
            try dsimp only at h
            refine ls (call F Try.func22 (disk_Disk_Crash_ok (H.p0) e75) rfl rfl fun v w hR a F => ?_)
            obtain ⟨rfl, H⟩ := hR
            refine rgend ?_
            refine wp_seq ?_
            refine rg ?_
            refine as_ F (v := .int .i64 0) rfl fun a F => ?_
            refine rgend ?_
            obtain ⟨o_76, k_76, h⟩ := Option.bind_eq_some_iff.1 h
            refine cut (fun a w => Sum.inl () = o_76 ∧ Fr 99 [] [(3, .bool x1)] a ∧ Hp w0 ps (obj_disk_Disk g6 x74 :: fs) w) (wp_block ?_) ?_
            · refine wloop (law15_DiskAll_b3 x34 x37 x74) (fun (s : Int) a w => Fr 99 [] [(3, .bool x1), (4, .pointer (some ⟨g6, 0, none⟩)), (6, .slice A35 x34.length c36), (7, .slice A38 x37.length c39), (13, .int .i64 s)] a ∧ Hp w0 ps (own kStr 9 A35 c36 x34 :: own (kInt .i64) 29 A38 c39 x37 :: obj_disk_Disk g6 x74 :: fs) w) k_76 ⟨F.only [3, 4, 6, 7, 13] rfl, H.px1.px0.f2.f2⟩ ?_
              rintro x76 a w q_76 j_76 u_76 ⟨F, H⟩
              unfold law15_DiskAll_b3 at j_76
              try dsimp only at j_76 F H
              refine wp_seq ?_
              refine rg ?_
              refine mv F rfl fun a F => ?_
              refine ls (qv F (r_lt (F.ev (x := .tmp 73) rfl) (F.ev (x := .const (.int .i64 6)) rfl)) fun a F => ?_)
              refine rgend ?_
              by_cases c78 : x76 < 6
              · rw [if_pos c78] at j_76
                rw [decide_eq_true c78] at F
                refine wp_cond_true (F.ev rfl) ?_
                refine wp_skip ?_
                refine wp_seq ?_
                refine wp_block ?_
                refine rg ?_
                refine mv F rfl fun a F => ?_
                refine mv F rfl fun a F => ?_
                obtain ⟨⟨x79, x80⟩, e81, j_76⟩ := Option.bind_eq_some_iff.1 j_76
                try dsimp only at j_76
                refine ls (call F Try.func19 (disk_Disk_Read_ok (H.f1.f1.f2) e81) rfl rfl fun v w hR a F => ?_)
                obtain ⟨A82, c83, rfl, H⟩ := hR
                refine mv F rfl fun a F => ?_
                refine ls (qv F (r_ex (F.ev (x := .tmp 77) rfl) rfl) fun a F => ?_)
                refine ls (qv F (r_ex (F.ev (x := .tmp 77) rfl) rfl) fun a F => ?_)
                refine as_ F rfl fun a F => ?_
                refine as_ F rfl fun a F => ?_
                refine rgend ?_
                replace F := F.only [15, 14, 3, 4, 6, 7, 13] (l' := [(15, .int .i64 x80), (14, .slice A82 x79.length c83), (3, .bool x1), (4, .pointer (some ⟨g6, 0, none⟩)), (6, .slice A35 x34.length c36), (7, .slice A38 x37.length c39), (13, .int .i64 x76)]) rfl
                refine wp_seq ?_
                obtain ⟨o_84, k_84, j_76⟩ := Option.bind_eq_some_iff.1 j_76
                refine cut (fun a w => ∃ (x84 : Bool), x84 = o_84 ∧ Fr 99 [] [(3, .bool x1), (4, .pointer (some ⟨g6, 0, none⟩)), (6, .slice A35 x34.length c36), (7, .slice A38 x37.length c39), (13, .int .i64 x76), (97, .bool x84)] a ∧ Hp w0 ps (own kStr 9 A35 c36 x34 :: own (kInt .i64) 29 A38 c39 x37 :: obj_disk_Disk g6 x74 :: fs) w) ?_ ?_
                · skip
                  replace H := H.drew
                  have HS := H.fx1.fx0
                  refine dr (fun w => Hp w0 ps (own kStr 9 A35 c36 x34 :: own (kInt .i64) 29 A38 c39 x37 :: fs) w) _ (by kernel_rfl) ?_ (n := 15)
                  refine dq 0 F rfl (by kernel_rfl) NP HS (fun w S => (r_mv (F.ev (x := .tmp 14) rfl))) fun a F => ?_
                  replace H := (H).freeze
                  have hb86 := H.bytes 0 rfl
                  have HS := H.fx0
                  refine dmoreH HS (fun w S => S.px0) ?_
                  refine dq 1 F rfl (by kernel_rfl) NP HS (fun w S => (S.str 0 rfl (F.ev (x := .tmp 83) rfl) Try.underlying31 Try.underlying5 Try.underlying9)) fun a F => ?_
                  refine dq 2 F rfl (by kernel_rfl) NP HS (fun w S => (r_mv (F.ev (x := .tmp 6) rfl))) fun a F => ?_
                  refine dq 3 F rfl (by kernel_rfl) NP HS (fun w S => (r_mv (F.ev (x := .tmp 13) rfl))) fun a F => ?_
                  obtain ⟨c87, k_84⟩ := guardO k_84
                  obtain ⟨g88, s89, hA, hq91, hl90, H⟩ := H.ixOwn2 [] 1 rfl (F.ev (x := .tmp 85) rfl) (F.ev (x := .tmp 86) rfl) Try.underlying47 sz9 (by decide) c87.1 c87.2
                  have hA92 := hA
                  obtain ⟨rfl, hb93⟩ := H.says_str 0 rfl
                  have HS := H.fx0
                  refine dmoreH HS (fun w S => S.px0) ?_
                  refine dq 4 F rfl (by kernel_rfl) NP HS (fun w S => (hq91 _ _ _ _ _ _)) fun a F => ?_
                  refine dq 5 F rfl (by kernel_rfl) NP HS (fun w S => (by obtain ⟨cs, Z, hrg, hok⟩ := S.ownAt2 ([] : List Int) (j := x76) 0 rfl hA92 c87.1 c87.2; obtain ⟨rfl, _⟩ := hok; exact r_ld (F.ev (x := .tmp 87) rfl) (range_cell (j := 0) hrg rfl) one9)) fun a F => ?_
                  refine dq 6 F rfl (by kernel_rfl) NP HS (fun w S => (r_sne (F.ev (x := .tmp 84) rfl) (F.ev (x := .tmp 88) rfl) hb86 hb93)) fun a F => ?_
                  refine dq 7 F rfl (by kernel_rfl) NP HS (fun w S => (r_mv (F.ev (x := .tmp 89) rfl))) fun a F => ?_
                  by_cases c94 : x79 ≠ (x34.getD (x76 : Int).toNat [])
                  · rw [if_pos c94] at k_84
                    rw [decide_eq_true c94] at F
                    refine doff 8 F rfl (by kernel_rfl) NP HS fun a F => ?_
                    refine doff 9 F rfl (by kernel_rfl) NP HS fun a F => ?_
                    refine doff 10 F rfl (by kernel_rfl) NP HS fun a F => ?_
                    refine doff 11 F rfl (by kernel_rfl) NP HS fun a F => ?_
                    refine doff 12 F rfl (by kernel_rfl) NP HS fun a F => ?_
                    refine doff 13 F rfl (by kernel_rfl) NP HS fun a F => ?_
                    refine dq 14 F rfl (by kernel_rfl) NP HS (fun w S => (r_pickT (F.ev (x := .tmp 90) rfl) (F.ev (x := .const (.bool true)) rfl))) fun a F => ?_
                    refine ddone (by kernel_rfl) ?_
                    replace F := F.only [97, 3, 4, 6, 7, 13] (l' := [(97, .bool true), (3, .bool x1), (4, .pointer (some ⟨g6, 0, none⟩)), (6, .slice A35 x34.length c36), (7, .slice A38 x37.length c39), (13, .int .i64 x76)]) rfl
                    try dsimp only at k_84
                    obtain rfl := Option.some.inj k_84
                    exact ⟨_, rfl, F.only [3, 4, 6, 7, 13, 97] rfl, H.px1.px0.f2.f2⟩
                  · rw [if_neg c94] at k_84
                    rw [decide_eq_false c94] at F
                    refine dq 8 F rfl (by kernel_rfl) NP HS (fun w S => (r_mv (F.ev (x := .tmp 15) rfl))) fun a F => ?_
                    refine dq 9 F rfl (by kernel_rfl) NP HS (fun w S => (r_mv (F.ev (x := .tmp 7) rfl))) fun a F => ?_
                    refine dq 10 F rfl (by kernel_rfl) NP HS (fun w S => (r_mv (F.ev (x := .tmp 13) rfl))) fun a F => ?_
                    obtain ⟨c95, k_84⟩ := guardO k_84
                    obtain ⟨g96, s97, hA, hq99, hl98, H⟩ := H.ixOwn2 0 2 rfl (F.ev (x := .tmp 92) rfl) (F.ev (x := .tmp 93) rfl) Try.underlying48 sz29 (by decide) c95.1 c95.2
                    have hA100 := hA
                    obtain rfl := H.says_int 0 rfl
                    have HS := H.fx0
                    refine dmoreH HS (fun w S => S.px0) ?_
                    refine dq 11 F rfl (by kernel_rfl) NP HS (fun w S => (hq99 _ _ _ _ _ _)) fun a F => ?_
                    refine dq 12 F rfl (by kernel_rfl) NP HS (fun w S => (by obtain ⟨cs, Z, hrg, hok⟩ := S.ownAt2 (0 : Int) (j := x76) 1 rfl hA100 c95.1 c95.2; obtain rfl := hok; exact r_ld (F.ev (x := .tmp 94) rfl) (range_cell (j := 0) hrg rfl) one29)) fun a F => ?_
                    refine dq 13 F rfl (by kernel_rfl) NP HS (fun w S => (r_ne (F.ev (x := .tmp 91) rfl) (F.ev (x := .tmp 95) rfl))) fun a F => ?_
                    refine dq 14 F rfl (by kernel_rfl) NP HS (fun w S => (r_pickF (F.ev (x := .tmp 90) rfl) (F.ev (x := .tmp 96) rfl))) fun a F => ?_
                    refine ddone (by kernel_rfl) ?_
                    replace F := F.only [97, 3, 4, 6, 7, 13] (l' := [(97, .bool (decide (x80 ≠ (x37.getD (x76 : Int).toNat 0)))), (3, .bool x1), (4, .pointer (some ⟨g6, 0, none⟩)), (6, .slice A35 x34.length c36), (7, .slice A38 x37.length c39), (13, .int .i64 x76)]) rfl
                    try dsimp only at k_84
                    obtain rfl := Option.some.inj k_84
                    exact ⟨_, rfl, F.only [3, 4, 6, 7, 13, 97] rfl, H.px2.px1.px0.f2.f2⟩
                · rintro a w ⟨x84, rfl, F, H⟩
                  try dsimp only at j_76 F H
                  by_cases c101 : x84 = true
                  · rw [if_pos c101] at j_76
                    rw [c101] at F
                    refine wp_cond_true (F.ev rfl) ?_
                    refine rg ?_
                    refine as_ F (v := .bool false) rfl fun a F => ?_
                    refine rgend ?_
                    replace F := F.only [2] (l' := [(2, .bool false)]) rfl
                    refine wp_ret ?_
                    try dsimp only at j_76
                    obtain rfl := Option.some.inj j_76
                    obtain rfl := u_76 _ rfl
                    try dsimp only at h
                    obtain rfl := Option.some.inj h
                    exact RET _ _ (ret1 F rfl rfl ⟨_, rfl, rfl, H.fx2.fx1.fx0⟩)
                  · rw [if_neg c101] at j_76
                    rw [Bool.eq_false_iff.2 c101] at F
                    refine wp_cond_false (F.ev rfl) ?_
                    refine wp_skip ?_
                    refine wp_region_lit ?_
                    refine mv F rfl fun a F => ?_
                    refine ls (qv F (r_add (F.ev (x := .tmp 75) rfl) (F.ev (x := .const (.int .i64 1)) rfl)) fun a F => ?_)
                    refine as_ F rfl fun a F => ?_
                    refine wpList_nil ?_
                    replace F := F.only [13, 3, 4, 6, 7] (l' := [(13, .int .i64 (IntKind.i64.wrap (x76 + 1))), (3, .bool x1), (4, .pointer (some ⟨g6, 0, none⟩)), (6, .slice A35 x34.length c36), (7, .slice A38 x37.length c39)]) rfl
                    try dsimp only at j_76
                    obtain rfl := Option.some.inj j_76
                    exact ⟨_, rfl, F.only [3, 4, 6, 7, 13] rfl, H⟩
              · rw [if_neg c78] at j_76
                rw [decide_eq_false c78] at F
                refine wp_cond_false (F.ev rfl) ?_
                refine wp_exit ?_
                try dsimp only at j_76
                obtain rfl := Option.some.inj j_76
                obtain rfl := u_76 _ rfl
                repeat (with_reducible refine exT ?_)
                with_reducible refine exB ?_
                exact ⟨rfl, F.only [3] rfl, H.fx1.fx0⟩
            · rintro a w ⟨rfl, F, H⟩
              try dsimp only at h F H
              refine rg ?_
              refine mv F rfl fun a F => ?_
              refine as_ F rfl fun a F => ?_
              refine rgend ?_
              refine wp_ret ?_
              try dsimp only at h
              obtain rfl := Option.some.inj h
              exact RET _ _ (ret1 F rfl rfl ⟨_, rfl, rfl, H.fx0⟩)
end Go.Proofs.Ytddfdbpjldcjiaa
