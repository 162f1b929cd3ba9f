/- What the functions compute. Printed by wip/gen. -/
import Derived.Test.YtddfdbpjldcjiaaGL
set_option linter.unusedVariables false
set_option linter.unusedSimpArgs false
namespace Go.Proofs.Ytddfdbpjldcjiaa
open Go Go.RowKit
def law15_DiskPlays_b1 (a0 : Int) (x37 : disk_Disk) (x38 : ref15_Disk) : Int → Option (Int ⊕ (Unit ⊕ Bool))
  | x73 => (if x73 ≤ a0 then ((disk_Disk_Read_f x37 x73).bind fun (x76, x77) => ((ref15_Disk_Read_f x38 x73).bind fun (x81, x82) => (if x76 ≠ x81 then some (.inr (.inr false)) else (if x77 ≠ x82 then some (.inr (.inr false)) else some (.inl (IntKind.i64.wrap (x73 + 1))))))) else some (.inr (.inl ())))
def law15_DiskPlays_b0 (a0 : Int) (a1 : List law15_Op) : (Int × disk_Disk × ref15_Disk) → Option (Int × disk_Disk × ref15_Disk ⊕ ((disk_Disk × ref15_Disk) ⊕ Bool))
  | (x29, x30, x31) => (if x29 < (a1.length : Int) then (((if 0 ≤ x29 ∧ x29 < (a1.length : Int) then (if 0 ≤ x29 ∧ x29 < (a1.length : Int) then ((law15_Do_f x30 ((a1.getD (x29 : Int).toNat (⟨0, 0, 0, [], 0, []⟩ : law15_Op)))).bind fun (x58, x59) => ((law15_Plain_f x31 ((a1.getD (x29 : Int).toNat (⟨0, 0, 0, [], 0, []⟩ : law15_Op)))).bind fun (x61, x62) => (if x58 ≠ x61 then some (true, x59, x62) else ((disk_Disk_Pending_f x59).bind fun x65 => ((ref15_Disk_Pending_f x62).bind fun x67 => (if x65 ≠ x67 then some (true, x59, x62) else ((disk_Disk_Sectors_f x59).bind fun x70 => some (decide (x70 ≠ a0), x59, x62)))))))) else none) else none) : Option (Bool × disk_Disk × ref15_Disk)).bind fun (x36, x37, x38) => (if x36 = true then some (.inr (.inr false)) else ((lp (law15_DiskPlays_b1 a0 x37 x38) (-1)).bind fun q => match q with | .inl _ => some (.inl (IntKind.i64.wrap (x29 + 1), x37, x38)) | .inr r => some (.inr (.inr r))))) else some (.inr (.inl (x30, x31))))
def law15_DiskPlays_f (a0 : Int) (a1 : List law15_Op) : Option (Bool) :=
  ((law15_head_f).bind fun x1 => ((((law15_Great_f a1).bind fun x5 => (if x5 = true then some true else (if a0 > 60 then some ((decide (a0 ≤ 4096))) else some false))) : Option (Bool)).bind fun x3 => (if x3 = true then some x1 else ((disk_New_f a0).bind fun x10 => match x10 with | none => ((ref15_New_f a0).bind fun x13 => match x13 with | none => (((if x1 = true then some true else some false) : Option (Bool)).bind fun x16 => some x16) | some x15 => (((if x1 = true then some () else some ()) : Option (Unit)).bind fun _ => some false)) | some x12 => ((ref15_New_f a0).bind fun x23 => match x23 with | none => (((if x1 = true then some () else some ()) : Option (Unit)).bind fun _ => some false) | some x25 => ((lp (law15_DiskPlays_b0 a0 a1) (0, x12, x25)).bind fun q => match q with | .inl (x32, x33) => some x1 | .inr r => some r))))))
set_option maxHeartbeats 4000000 in
set_option maxRecDepth 20000 in
theorem law15_DiskPlays_ok {w0 w : World} {ps : List PF} {fs : List SF} {a0 : Int} {a1 : List law15_Op} {A1_ : Option Addr} {c1_ : Nat} {r0 : Bool} (H : Hp w0 (rd k_law15_Op A1_ c1_ a1 :: ps) fs w) (h : law15_DiskPlays_f a0 a1 = some r0) :
    Calls Try.prog 3 [.int .i64 a0, .slice A1_ a1.length c1_].toArray w fun e w' => ∃ v, e = .returned v ∧ v = .bool r0 ∧ Hp w0 ps fs w' := by
  refine enter [.int .i64 a0, .slice A1_ a1.length c1_] 104 Try.func3 fun Q a NP RET NRM F => ?_
  replace NP : ∀ c a w, ¬ Q (.panic c) a w := fun c a w h => by rcases NP c a w h with h | ⟨w, v, h, _⟩ <;> cases h
  unfold law15_DiskPlays_f at h
  refine rg ?_
  refine as_ F (v := .bool false) rfl fun a F => ?_
  refine rgend ?_
  refine rg ?_
  obtain ⟨x1, e2, h⟩ := Option.bind_eq_some_iff.1 h
  try dsimp only at h
  refine ls (call F Try.func10 (law15_head_ok (H) e2) rfl rfl fun v w hR a F => ?_)
  obtain ⟨rfl, H⟩ := hR
  refine as_ F rfl fun a F => ?_
  refine rgend ?_
  refine wp_seq ?_
  refine wp_seq ?_
  obtain ⟨o_3, k_3, h⟩ := Option.bind_eq_some_iff.1 h
  refine cut (fun a w => ∃ (x3 : Bool), x3 = o_3 ∧ Fr 104 [] [(0, .int .i64 a0), (1, .slice A1_ a1.length c1_), (5, .bool x1), (24, .bool x3)] a ∧ Hp w0 (rd k_law15_Op A1_ c1_ a1 :: ps) fs w) ?_ ?_
  · skip
    refine wp_region_lit ?_
    refine mv F rfl fun a F => ?_
    obtain ⟨x5, e6, k_3⟩ := Option.bind_eq_some_iff.1 k_3
    try dsimp only at k_3
    refine ls (call F Try.func11 (law15_Great_ok (H.p0) e6) rfl rfl fun v w hR a F => ?_)
    obtain ⟨rfl, H⟩ := hR
    refine mv F rfl fun a F => ?_
    by_cases c7 : x5 = true
    · rw [if_pos c7] at k_3
      rw [c7] at F
      refine ls (off F fun a F => ?_)
      refine ls (off F fun a F => ?_)
      refine ls (off F fun a F => ?_)
      refine ls (off F fun a F => ?_)
      refine ls (off F fun a F => ?_)
      refine ls (off F fun a F => ?_)
      refine ls (qv F (r_pickT (F.ev (x := .tmp 17) rfl) (F.ev (x := .const (.bool true)) rfl)) fun a F => ?_)
      refine wpList_nil ?_
      replace F := F.only [24, 5, 0, 1] (l' := [(24, .bool true), (5, .bool x1), (0, .int .i64 a0), (1, .slice A1_ a1.length c1_)]) rfl
      try dsimp only at k_3
      obtain rfl := Option.some.inj k_3
      exact ⟨_, rfl, F.only [0, 1, 5, 24] rfl, H⟩
    · rw [if_neg c7] at k_3
      rw [Bool.eq_false_iff.2 c7] at F
      refine mv F rfl fun a F => ?_
      refine ls (qv F (r_gt (F.ev (x := .tmp 18) rfl) (F.ev (x := .const (.int .i64 60)) rfl)) fun a F => ?_)
      refine mv F rfl fun a F => ?_
      by_cases c8 : a0 > 60
      · rw [if_pos c8] at k_3
        rw [decide_eq_true c8] at F
        refine mv F rfl fun a F => ?_
        refine ls (qv F (r_le (F.ev (x := .tmp 21) rfl) (F.ev (x := .const (.int .i64 4096)) rfl)) fun a F => ?_)
        refine ls (qv F (r_pickT (F.ev (x := .tmp 20) rfl) (F.ev (x := .tmp 22) rfl)) fun a F => ?_)
        refine ls (qv F (r_pickF (F.ev (x := .tmp 17) rfl) (F.ev (x := .tmp 23) rfl)) fun a F => ?_)
        refine wpList_nil ?_
        replace F := F.only [24, 5, 0, 1] (l' := [(24, .bool (decide (a0 ≤ 4096))), (5, .bool x1), (0, .int .i64 a0), (1, .slice A1_ a1.length c1_)]) rfl
        try dsimp only at k_3
        obtain rfl := Option.some.inj k_3
        exact ⟨_, rfl, F.only [0, 1, 5, 24] rfl, H⟩
      · rw [if_neg c8] at k_3
        rw [decide_eq_false c8] at F
        refine ls (off F fun a F => ?_)
        refine ls (off F fun a F => ?_)
        refine ls (qv F (r_pickF (F.ev (x := .tmp 20) rfl) (F.ev (x := .const (.bool false)) rfl)) fun a F => ?_)
        refine ls (qv F (r_pickF (F.ev (x := .tmp 17) rfl) (F.ev (x := .tmp 23) rfl)) fun a F => ?_)
        refine wpList_nil ?_
        replace F := F.only [24, 5, 0, 1] (l' := [(24, .bool false), (5, .bool x1), (0, .int .i64 a0), (1, .slice A1_ a1.length c1_)]) rfl
        try dsimp only at k_3
        obtain rfl := Option.some.inj k_3
        exact ⟨_, rfl, F.only [0, 1, 5, 24] rfl, H⟩
  · rintro a w ⟨x3, rfl, F, H⟩
    try dsimp only at h F H
    by_cases c9 : x3 = true
    · rw [if_pos c9] at h
      rw [c9] at F
      refine wp_cond_true (F.ev rfl) ?_
      refine rg ?_
      refine mv F rfl fun a F => ?_
      refine as_ F rfl fun a F => ?_
      refine rgend ?_
      replace F := F.only [4] (l' := [(4, .bool x1)]) rfl
      refine wp_ret ?_
      try dsimp only at h
      obtain rfl := Option.some.inj h
      exact RET _ _ (ret1 F rfl rfl ⟨_, rfl, rfl, H.px0⟩)
    · rw [if_neg c9] at h
      rw [Bool.eq_false_iff.2 c9] at F
      refine wp_cond_false (F.ev rfl) ?_
      refine wp_skip ?_
      refine rg ?_
      refine mv F rfl fun a F => ?_
      obtain ⟨x10, e11, h⟩ := Option.bind_eq_some_iff.1 h
      try dsimp only at h
      rcases x10 with _ | x12
      · try dsimp only at h
        refine ls (call F Try.func12 (disk_New_ok (H) e11) rfl rfl fun v w hR a F => ?_)
        obtain ⟨rfl, H⟩ := hR
        refine as_ F rfl fun a F => ?_
        refine rgend ?_
        refine rg ?_
        refine mv F rfl fun a F => ?_
        obtain ⟨x13, e14, h⟩ := Option.bind_eq_some_iff.1 h
        try dsimp only at h
        rcases x13 with _ | x15
        · try dsimp only at h
          refine ls (call F Try.func13 (ref15_New_ok (H) e14) rfl rfl fun v w hR a F => ?_)
          obtain ⟨rfl, H⟩ := hR
          refine as_ F rfl fun a F => ?_
          refine rgend ?_
          replace F := F.only [7, 6, 0, 1, 5] (l' := [(7, .pointer none), (6, .pointer none), (0, .int .i64 a0), (1, .slice A1_ a1.length c1_), (5, .bool x1)]) rfl
          refine wp_seq ?_
          refine rg ?_
          refine mv F rfl fun a F => ?_
          refine ls (qv F (r_peq0 (F.ev (x := .tmp 30) rfl) (F.ev (x := .const (.pointer none)) rfl) Try.underlying25) fun a F => ?_)
          refine mv F rfl fun a F => ?_
          refine ls (off F fun a F => ?_)
          refine ls (off F fun a F => ?_)
          refine ls (qv F (r_pickT (F.ev (x := .tmp 32) rfl) (F.ev (x := .const (.bool true)) rfl)) fun a F => ?_)
          refine rgend ?_
          replace F := F.only [35, 7, 6, 0, 1, 5] (l' := [(35, .bool true), (7, .pointer none), (6, .pointer none), (0, .int .i64 a0), (1, .slice A1_ a1.length c1_), (5, .bool x1)]) rfl
          refine wp_cond_true (F.ev rfl) ?_
          refine wp_seq ?_
          obtain ⟨o_16, k_16, h⟩ := Option.bind_eq_some_iff.1 h
          refine cut (fun a w => ∃ (x16 : Bool), x16 = o_16 ∧ Fr 104 [] [(4, .bool x16)] a ∧ Hp w0 ps fs w) ?_ ?_
          · skip
            refine wp_region_lit ?_
            refine mv F rfl fun a F => ?_
            refine mv F rfl fun a F => ?_
            by_cases c18 : x1 = true
            · rw [if_pos c18] at k_16
              rw [c18] at F
              refine mv F rfl fun a F => ?_
              refine ls (qv F (r_peq0 (F.ev (x := .tmp 38) rfl) (F.ev (x := .const (.pointer none)) rfl) Try.underlying25) fun a F => ?_)
              refine mv F rfl fun a F => ?_
              refine ls (qv F (r_peq0 (F.ev (x := .tmp 40) rfl) (F.ev (x := .const (.pointer none)) rfl) Try.underlying27) fun a F => ?_)
              refine ls (qv F (r_beq (F.ev (x := .tmp 39) rfl) (F.ev (x := .tmp 41) rfl) Try.underlying4) fun a F => ?_)
              refine ls (qv F (r_pickT (F.ev (x := .tmp 37) rfl) (F.ev (x := .tmp 42) rfl)) fun a F => ?_)
              refine as_ F rfl fun a F => ?_
              refine wpList_nil ?_
              replace F := F.only [4] (l' := [(4, .bool true)]) rfl
              try dsimp only at k_16
              obtain rfl := Option.some.inj k_16
              exact ⟨_, rfl, F.only [4] rfl, H.px0⟩
            · rw [if_neg c18] at k_16
              rw [Bool.eq_false_iff.2 c18] at F
              refine ls (off F fun a F => ?_)
              refine ls (off F fun a F => ?_)
              refine ls (off F fun a F => ?_)
              refine ls (off F fun a F => ?_)
              refine ls (off F fun a F => ?_)
              refine ls (qv F (r_pickF (F.ev (x := .tmp 37) rfl) (F.ev (x := .const (.bool false)) rfl)) fun a F => ?_)
              refine as_ F rfl fun a F => ?_
              refine wpList_nil ?_
              replace F := F.only [4] (l' := [(4, .bool false)]) rfl
              try dsimp only at k_16
              obtain rfl := Option.some.inj k_16
              exact ⟨_, rfl, F.only [4] rfl, H.px0⟩
          · rintro a w ⟨x16, rfl, F, H⟩
            try dsimp only at h F H
            refine wp_ret ?_
            try dsimp only at h
            obtain rfl := Option.some.inj h
            exact RET _ _ (ret1 F rfl rfl ⟨_, rfl, rfl, H⟩)
        · try dsimp only at h
          refine ls (call F Try.func13 (ref15_New_ok (H) e14) rfl rfl fun v w hR a F => ?_)
          obtain ⟨g19, rfl, H⟩ := hR
          refine as_ F rfl fun a F => ?_
          refine rgend ?_
          replace F := F.only [7, 6, 0, 1, 5] (l' := [(7, .pointer (some ⟨g19, 0, none⟩)), (6, .pointer none), (0, .int .i64 a0), (1, .slice A1_ a1.length c1_), (5, .bool x1)]) rfl
          refine wp_seq ?_
          refine rg ?_
          refine mv F rfl fun a F => ?_
          refine ls (qv F (r_peq0 (F.ev (x := .tmp 30) rfl) (F.ev (x := .const (.pointer none)) rfl) Try.underlying25) fun a F => ?_)
          refine mv F rfl fun a F => ?_
          refine ls (off F fun a F => ?_)
          refine ls (off F fun a F => ?_)
          refine ls (qv F (r_pickT (F.ev (x := .tmp 32) rfl) (F.ev (x := .const (.bool true)) rfl)) fun a F => ?_)
          refine rgend ?_
          replace F := F.only [35, 7, 6, 0, 1, 5] (l' := [(35, .bool true), (7, .pointer (some ⟨g19, 0, none⟩)), (6, .pointer none), (0, .int .i64 a0), (1, .slice A1_ a1.length c1_), (5, .bool x1)]) rfl
          refine wp_cond_true (F.ev rfl) ?_
          refine wp_seq ?_
          obtain ⟨o_19, k_19, h⟩ := Option.bind_eq_some_iff.1 h
          refine cut (fun a w => () = o_19 ∧ Fr 104 [] [(4, .bool false)] a ∧ Hp w0 ps (obj_ref15_Disk g19 x15 :: fs) w) ?_ ?_
          · skip
            refine wp_region_lit ?_
            refine mv F rfl fun a F => ?_
            refine mv F rfl fun a F => ?_
            by_cases c21 : x1 = true
            · rw [if_pos c21] at k_19
              rw [c21] at F
              refine mv F rfl fun a F => ?_
              refine ls (qv F (r_peq0 (F.ev (x := .tmp 38) rfl) (F.ev (x := .const (.pointer none)) rfl) Try.underlying25) fun a F => ?_)
              refine mv F rfl fun a F => ?_
              refine ls (qv F (r_peq (F.ev (x := .tmp 40) rfl) (F.ev (x := .const (.pointer none)) rfl) Try.underlying27) fun a F => ?_)
              refine ls (qv F (r_beq (F.ev (x := .tmp 39) rfl) (F.ev (x := .tmp 41) rfl) Try.underlying4) fun a F => ?_)
              refine ls (qv F (r_pickT (F.ev (x := .tmp 37) rfl) (F.ev (x := .tmp 42) rfl)) fun a F => ?_)
              refine as_ F rfl fun a F => ?_
              refine wpList_nil ?_
              replace F := F.only [4] (l' := [(4, .bool false)]) rfl
              try dsimp only at k_19
              obtain rfl := Option.some.inj k_19
              exact ⟨rfl, F.only [4] rfl, H.px0⟩
            · rw [if_neg c21] at k_19
              rw [Bool.eq_false_iff.2 c21] at F
              refine ls (off F fun a F => ?_)
              refine ls (off F fun a F => ?_)
              refine ls (off F fun a F => ?_)
              refine ls (off F fun a F => ?_)
              refine ls (off F fun a F => ?_)
              refine ls (qv F (r_pickF (F.ev (x := .tmp 37) rfl) (F.ev (x := .const (.bool false)) rfl)) fun a F => ?_)
              refine as_ F rfl fun a F => ?_
              refine wpList_nil ?_
              replace F := F.only [4] (l' := [(4, .bool false)]) rfl
              try dsimp only at k_19
              obtain rfl := Option.some.inj k_19
              exact ⟨rfl, F.only [4] rfl, H.px0⟩
          · rintro a w ⟨rfl, F, H⟩
            try dsimp only at h F H
            refine wp_ret ?_
            try dsimp only at h
            obtain rfl := Option.some.inj h
            exact RET _ _ (ret1 F rfl rfl ⟨_, rfl, rfl, H.fx0⟩)
      · try dsimp only at h
        refine ls (call F Try.func12 (disk_New_ok (H) e11) rfl rfl fun v w hR a F => ?_)
        obtain ⟨g22, rfl, H⟩ := hR
        refine as_ F rfl fun a F => ?_
        refine rgend ?_
        refine rg ?_
        refine mv F rfl fun a F => ?_
        obtain ⟨x23, e24, h⟩ := Option.bind_eq_some_iff.1 h
        try dsimp only at h
        rcases x23 with _ | x25
        · try dsimp only at h
          refine ls (call F Try.func13 (ref15_New_ok (H) e24) rfl rfl fun v w hR a F => ?_)
          obtain ⟨rfl, H⟩ := hR
          refine as_ F rfl fun a F => ?_
          refine rgend ?_
          replace F := F.only [7, 6, 0, 1, 5] (l' := [(7, .pointer none), (6, .pointer (some ⟨g22, 0, none⟩)), (0, .int .i64 a0), (1, .slice A1_ a1.length c1_), (5, .bool x1)]) rfl
          refine wp_seq ?_
          refine rg ?_
          refine mv F rfl fun a F => ?_
          refine ls (qv F (r_peq (F.ev (x := .tmp 30) rfl) (F.ev (x := .const (.pointer none)) rfl) Try.underlying25) fun a F => ?_)
          refine mv F rfl fun a F => ?_
          refine mv F rfl fun a F => ?_
          refine ls (qv F (r_peq0 (F.ev (x := .tmp 33) rfl) (F.ev (x := .const (.pointer none)) rfl) Try.underlying27) fun a F => ?_)
          refine ls (qv F (r_pickF (F.ev (x := .tmp 32) rfl) (F.ev (x := .tmp 34) rfl)) fun a F => ?_)
          refine rgend ?_
          replace F := F.only [35, 7, 6, 0, 1, 5] (l' := [(35, .bool true), (7, .pointer none), (6, .pointer (some ⟨g22, 0, none⟩)), (0, .int .i64 a0), (1, .slice A1_ a1.length c1_), (5, .bool x1)]) rfl
          refine wp_cond_true (F.ev rfl) ?_
          refine wp_seq ?_
          obtain ⟨o_25, k_25, h⟩ := Option.bind_eq_some_iff.1 h
          refine cut (fun a w => () = o_25 ∧ Fr 104 [] [(4, .bool false)] a ∧ Hp w0 ps (obj_disk_Disk g22 x12 :: fs) w) ?_ ?_
          · skip
            refine wp_region_lit ?_
            refine mv F rfl fun a F => ?_
            refine mv F rfl fun a F => ?_
            by_cases c27 : x1 = true
            · rw [if_pos c27] at k_25
              rw [c27] at F
              refine mv F rfl fun a F => ?_
              refine ls (qv F (r_peq (F.ev (x := .tmp 38) rfl) (F.ev (x := .const (.pointer none)) rfl) Try.underlying25) fun a F => ?_)
              refine mv F rfl fun a F => ?_
              refine ls (qv F (r_peq0 (F.ev (x := .tmp 40) rfl) (F.ev (x := .const (.pointer none)) rfl) Try.underlying27) fun a F => ?_)
              refine ls (qv F (r_beq (F.ev (x := .tmp 39) rfl) (F.ev (x := .tmp 41) rfl) Try.underlying4) fun a F => ?_)
              refine ls (qv F (r_pickT (F.ev (x := .tmp 37) rfl) (F.ev (x := .tmp 42) rfl)) fun a F => ?_)
              refine as_ F rfl fun a F => ?_
              refine wpList_nil ?_
              replace F := F.only [4] (l' := [(4, .bool false)]) rfl
              try dsimp only at k_25
              obtain rfl := Option.some.inj k_25
              exact ⟨rfl, F.only [4] rfl, H.px0⟩
            · rw [if_neg c27] at k_25
              rw [Bool.eq_false_iff.2 c27] at F
              refine ls (off F fun a F => ?_)
              refine ls (off F fun a F => ?_)
              refine ls (off F fun a F => ?_)
              refine ls (off F fun a F => ?_)
              refine ls (off F fun a F => ?_)
              refine ls (qv F (r_pickF (F.ev (x := .tmp 37) rfl) (F.ev (x := .const (.bool false)) rfl)) fun a F => ?_)
              refine as_ F rfl fun a F => ?_
              refine wpList_nil ?_
              replace F := F.only [4] (l' := [(4, .bool false)]) rfl
              try dsimp only at k_25
              obtain rfl := Option.some.inj k_25
              exact ⟨rfl, F.only [4] rfl, H.px0⟩
          · rintro a w ⟨rfl, F, H⟩
            try dsimp only at h F H
            refine wp_ret ?_
            try dsimp only at h
            obtain rfl := Option.some.inj h
            exact RET _ _ (ret1 F rfl rfl ⟨_, rfl, rfl, H.fx0⟩)
        · try dsimp only at h
          refine ls (call F Try.func13 (ref15_New_ok (H) e24) rfl rfl fun v w hR a F => ?_)
          obtain ⟨g28, rfl, H⟩ := hR
          refine as_ F rfl fun a F => ?_
          refine rgend ?_
          replace F := F.only [7, 6, 0, 1, 5] (l' := [(7, .pointer (some ⟨g28, 0, none⟩)), (6, .pointer (some ⟨g22, 0, none⟩)), (0, .int .i64 a0), (1, .slice A1_ a1.length c1_), (5, .bool x1)]) rfl
          refine wp_seq ?_
          refine rg ?_
          refine mv F rfl fun a F => ?_
          refine ls (qv F (r_peq (F.ev (x := .tmp 30) rfl) (F.ev (x := .const (.pointer none)) rfl) Try.underlying25) fun a F => ?_)
          refine mv F rfl fun a F => ?_
          refine mv F rfl fun a F => ?_
          refine ls (qv F (r_peq (F.ev (x := .tmp 33) rfl) (F.ev (x := .const (.pointer none)) rfl) Try.underlying27) fun a F => ?_)
          refine ls (qv F (r_pickF (F.ev (x := .tmp 32) rfl) (F.ev (x := .tmp 34) rfl)) fun a F => ?_)
          refine rgend ?_
          replace F := F.only [35, 7, 6, 0, 1, 5] (l' := [(35, .bool false), (7, .pointer (some ⟨g28, 0, none⟩)), (6, .pointer (some ⟨g22, 0, none⟩)), (0, .int .i64 a0), (1, .slice A1_ a1.length c1_), (5, .bool x1)]) rfl
          refine wp_cond_false (F.ev rfl) ?_
          refine wp_skip ?_
          refine wp_seq ?_
          refine rg ?_
          refine as_ F (v := .int .i64 0) rfl fun a F => ?_
          refine rgend ?_
          obtain ⟨o_33, k_33, h⟩ := Option.bind_eq_some_iff.1 h
          refine cut (fun a w => ∃ (x32 : disk_Disk) (x33 : ref15_Disk), Sum.inl (x32, x33) = o_33 ∧ Fr 104 [] [(5, .bool x1)] a ∧ Hp w0 ps (obj_disk_Disk g22 x32 :: obj_ref15_Disk g28 x33 :: fs) w) (wp_block ?_) ?_
          · refine wloop (law15_DiskPlays_b0 a0 a1) (fun (s : Int × disk_Disk × ref15_Disk) a w => Fr 104 [] [(0, .int .i64 a0), (1, .slice A1_ a1.length c1_), (5, .bool x1), (6, .pointer (some ⟨g22, 0, none⟩)), (7, .pointer (some ⟨g28, 0, none⟩)), (8, .int .i64 s.1)] a ∧ Hp w0 (rd k_law15_Op A1_ c1_ a1 :: ps) (obj_disk_Disk g22 s.2.1 :: obj_ref15_Disk g28 s.2.2 :: fs) w) k_33 ⟨F.only [0, 1, 5, 6, 7, 8] rfl, H.f1⟩ ?_
            rintro ⟨x29, x30, x31⟩ a w q_33 j_33 u_33 ⟨F, H⟩
            unfold law15_DiskPlays_b0 at j_33
            try dsimp only at j_33 F H
            refine wp_seq ?_
            refine rg ?_
            refine mv F rfl fun a F => ?_
            refine mv F rfl fun a F => ?_
            refine ls (qv F (r_len (F.ev (x := .tmp 45) rfl) Try.underlying22) fun a F => ?_)
            refine ls (qv F (r_lt (F.ev (x := .tmp 44) rfl) (F.ev (x := .tmp 46) rfl)) fun a F => ?_)
            refine rgend ?_
            by_cases c35 : x29 < (a1.length : Int)
            · rw [if_pos c35] at j_33
              rw [decide_eq_true c35] at F
              refine wp_cond_true (F.ev rfl) ?_
              refine wp_skip ?_
              refine wp_seq ?_
              refine wp_block ?_
              refine wp_seq ?_
              refine wp_seq ?_
              obtain ⟨o_38, k_38, j_33⟩ := Option.bind_eq_some_iff.1 j_33
              refine cut (fun a w => ∃ (x36 : Bool) (x37 : disk_Disk) (x38 : ref15_Disk), (x36, x37, x38) = o_38 ∧ Fr 104 [] [(0, .int .i64 a0), (1, .slice A1_ a1.length c1_), (5, .bool x1), (6, .pointer (some ⟨g22, 0, none⟩)), (7, .pointer (some ⟨g28, 0, none⟩)), (8, .int .i64 x29), (75, .bool x36)] a ∧ Hp w0 (rd k_law15_Op A1_ c1_ a1 :: ps) (obj_disk_Disk g22 x37 :: obj_ref15_Disk g28 x38 :: fs) w) ?_ ?_
              · skip
                replace H := H.drew
                have HS := H.fx1.fx0
                refine dr (fun w => Hp w0 (rd k_law15_Op A1_ c1_ a1 :: ps) fs w) _ (by kernel_rfl) ?_ (n := 26)
                refine dq 0 F rfl (by kernel_rfl) NP HS (fun w S => (r_mv (F.ev (x := .tmp 6) rfl))) fun a F => ?_
                refine dq 1 F rfl (by kernel_rfl) NP HS (fun w S => (r_mv (F.ev (x := .tmp 1) rfl))) fun a F => ?_
                refine dq 2 F rfl (by kernel_rfl) NP HS (fun w S => (r_mv (F.ev (x := .tmp 8) rfl))) fun a F => ?_
                obtain ⟨c40, k_38⟩ := guardO k_38
                obtain ⟨g41, o42, s43, hr, H⟩ := H.ix (⟨0, 0, 0, [], 0, []⟩ : law15_Op) 0 rfl (F.ev (x := .tmp 51) rfl) (F.ev (x := .tmp 52) rfl) Try.underlying22 sz34 (by decide) c40.1 c40.2
                obtain ⟨A45, c46, A47, c48, rfl, hr44, H⟩ := H.open_law15_Op 1 rfl
                have HS := H.fx1.fx0
                refine dmoreH HS (fun w S => S.px3.px2.px1.px0) ?_
                refine dq 3 F rfl (by kernel_rfl) NP HS (fun w S => (hr _ _ _ _ _ _)) fun a F => ?_
                refine dq 4 F rfl (by kernel_rfl) NP HS (fun w S => (r_ldA (F.ev (x := .tmp 53) rfl) (S.range 2 rfl) agg34 rfl)) fun a F => ?_
                refine dq 6 F rfl (by kernel_rfl) NP HS (fun w S => (r_mv (F.ev (x := .tmp 7) rfl))) fun a F => ?_
                refine dq 7 F rfl (by kernel_rfl) NP HS (fun w S => (r_mv (F.ev (x := .tmp 1) rfl))) fun a F => ?_
                refine dq 8 F rfl (by kernel_rfl) NP HS (fun w S => (r_mv (F.ev (x := .tmp 8) rfl))) fun a F => ?_
                obtain ⟨c49, k_38⟩ := guardO k_38
                obtain ⟨g50, o51, s52, hr, H⟩ := H.ix (⟨0, 0, 0, [], 0, []⟩ : law15_Op) 4 rfl (F.ev (x := .tmp 57) rfl) (F.ev (x := .tmp 58) rfl) Try.underlying22 sz34 (by decide) c49.1 c49.2
                obtain ⟨A54, c55, A56, c57, rfl, hr53, H⟩ := H.open_law15_Op 1 rfl
                have HS := H.fx1.fx0
                refine dmoreH HS (fun w S => S.px3.px2.px1.px0) ?_
                refine dq 9 F rfl (by kernel_rfl) NP HS (fun w S => (hr _ _ _ _ _ _)) fun a F => ?_
                refine dq 10 F rfl (by kernel_rfl) NP HS (fun w S => (r_ldA (F.ev (x := .tmp 59) rfl) (S.range 2 rfl) agg34 rfl)) fun a F => ?_
                obtain ⟨⟨x58, x59⟩, e60, k_38⟩ := Option.bind_eq_some_iff.1 k_38
                try dsimp only at k_38
                refine d1 5 rfl (by kernel_rfl) (call F Try.func14 (law15_Do_ok (a1 := (a1.getD (x29 : Int).toNat (⟨0, 0, 0, [], 0, []⟩ : law15_Op))) (H.p5.p5) e60 hr44) rfl rfl fun v w hR a F => ?_)
                obtain ⟨rfl, H⟩ := hR
                have HS := H.fx1.fx0
                refine kg _ HS (fun w S => S) ?_
                obtain ⟨⟨x61, x62⟩, e63, k_38⟩ := Option.bind_eq_some_iff.1 k_38
                try dsimp only at k_38
                refine d1 11 rfl (by kernel_rfl) (call F Try.func15 (law15_Plain_ok (a1 := (a1.getD (x29 : Int).toNat (⟨0, 0, 0, [], 0, []⟩ : law15_Op))) (H.p1.p1.f1) e63 hr53) rfl rfl fun v w hR a F => ?_)
                obtain ⟨rfl, H⟩ := hR
                have HS := H.fx1.fx0
                refine kg _ HS (fun w S => S) ?_
                refine dq 12 F rfl (by kernel_rfl) NP HS (fun w S => (r_ne (F.ev (x := .tmp 55) rfl) (F.ev (x := .tmp 61) rfl))) fun a F => ?_
                refine dq 13 F rfl (by kernel_rfl) NP HS (fun w S => (r_mv (F.ev (x := .tmp 62) rfl))) fun a F => ?_
                by_cases c64 : x58 ≠ x61
                · rw [if_pos c64] at k_38
                  rw [decide_eq_true c64] at F
                  refine doff 14 F rfl (by kernel_rfl) NP HS fun a F => ?_
                  refine doff 15 F rfl (by kernel_rfl) NP HS fun a F => ?_
                  refine doff 16 F rfl (by kernel_rfl) NP HS fun a F => ?_
                  refine doff 17 F rfl (by kernel_rfl) NP HS fun a F => ?_
                  refine doff 18 F rfl (by kernel_rfl) NP HS fun a F => ?_
                  refine dq 19 F rfl (by kernel_rfl) NP HS (fun w S => (r_pickT (F.ev (x := .tmp 63) rfl) (F.ev (x := .const (.bool true)) rfl))) fun a F => ?_
                  refine dq 20 F rfl (by kernel_rfl) NP HS (fun w S => (r_mv (F.ev (x := .tmp 69) rfl))) fun a F => ?_
                  refine doff 21 F rfl (by kernel_rfl) NP HS fun a F => ?_
                  refine doff 22 F rfl (by kernel_rfl) NP HS fun a F => ?_
                  refine doff 23 F rfl (by kernel_rfl) NP HS fun a F => ?_
                  refine doff 24 F rfl (by kernel_rfl) NP HS fun a F => ?_
                  refine dq 25 F rfl (by kernel_rfl) NP HS (fun w S => (r_pickT (F.ev (x := .tmp 70) rfl) (F.ev (x := .const (.bool true)) rfl))) fun a F => ?_
                  refine ddone (by kernel_rfl) ?_
                  replace F := F.only [75, 0, 1, 5, 6, 7, 8] (l' := [(75, .bool true), (0, .int .i64 a0), (1, .slice A1_ a1.length c1_), (5, .bool x1), (6, .pointer (some ⟨g22, 0, none⟩)), (7, .pointer (some ⟨g28, 0, none⟩)), (8, .int .i64 x29)]) rfl
                  try dsimp only at k_38
                  obtain rfl := Option.some.inj k_38
                  exact ⟨_, _, _, rfl, F.only [0, 1, 5, 6, 7, 8, 75] rfl, H.px7.px6.px5.px4.px3.px2.px1.px0.f1⟩
                · rw [if_neg c64] at k_38
                  rw [decide_eq_false c64] at F
                  refine dq 14 F rfl (by kernel_rfl) NP HS (fun w S => (r_mv (F.ev (x := .tmp 6) rfl))) fun a F => ?_
                  refine dq 16 F rfl (by kernel_rfl) NP HS (fun w S => (r_mv (F.ev (x := .tmp 7) rfl))) fun a F => ?_
                  obtain ⟨x65, e66, k_38⟩ := Option.bind_eq_some_iff.1 k_38
                  try dsimp only at k_38
                  refine d1 15 rfl (by kernel_rfl) (call F Try.func16 (disk_Disk_Pending_ok (H.f1) e66) rfl rfl fun v w hR a F => ?_)
                  obtain ⟨rfl, H⟩ := hR
                  have HS := H.fx1.fx0
                  refine kg _ HS (fun w S => S) ?_
                  obtain ⟨x67, e68, k_38⟩ := Option.bind_eq_some_iff.1 k_38
                  try dsimp only at k_38
                  refine d1 17 rfl (by kernel_rfl) (call F Try.func17 (ref15_Disk_Pending_ok (H.f1) e68) rfl rfl fun v w hR a F => ?_)
                  obtain ⟨rfl, H⟩ := hR
                  have HS := H.fx1.fx0
                  refine kg _ HS (fun w S => S) ?_
                  refine dq 18 F rfl (by kernel_rfl) NP HS (fun w S => (r_ne (F.ev (x := .tmp 65) rfl) (F.ev (x := .tmp 67) rfl))) fun a F => ?_
                  refine dq 19 F rfl (by kernel_rfl) NP HS (fun w S => (r_pickF (F.ev (x := .tmp 63) rfl) (F.ev (x := .tmp 68) rfl))) fun a F => ?_
                  refine dq 20 F rfl (by kernel_rfl) NP HS (fun w S => (r_mv (F.ev (x := .tmp 69) rfl))) fun a F => ?_
                  by_cases c69 : x65 ≠ x67
                  · rw [if_pos c69] at k_38
                    rw [decide_eq_true c69] at F
                    refine doff 21 F rfl (by kernel_rfl) NP HS fun a F => ?_
                    refine doff 22 F rfl (by kernel_rfl) NP HS fun a F => ?_
                    refine doff 23 F rfl (by kernel_rfl) NP HS fun a F => ?_
                    refine doff 24 F rfl (by kernel_rfl) NP HS fun a F => ?_
                    refine dq 25 F rfl (by kernel_rfl) NP HS (fun w S => (r_pickT (F.ev (x := .tmp 70) rfl) (F.ev (x := .const (.bool true)) rfl))) fun a F => ?_
                    refine ddone (by kernel_rfl) ?_
                    replace F := F.only [75, 0, 1, 5, 6, 7, 8] (l' := [(75, .bool true), (0, .int .i64 a0), (1, .slice A1_ a1.length c1_), (5, .bool x1), (6, .pointer (some ⟨g22, 0, none⟩)), (7, .pointer (some ⟨g28, 0, none⟩)), (8, .int .i64 x29)]) rfl
                    try dsimp only at k_38
                    obtain rfl := Option.some.inj k_38
                    exact ⟨_, _, _, rfl, F.only [0, 1, 5, 6, 7, 8, 75] rfl, H.px7.px6.px5.px4.px3.px2.px1.px0.f1⟩
                  · rw [if_neg c69] at k_38
                    rw [decide_eq_false c69] at F
                    refine dq 21 F rfl (by kernel_rfl) NP HS (fun w S => (r_mv (F.ev (x := .tmp 6) rfl))) fun a F => ?_
                    refine dq 23 F rfl (by kernel_rfl) NP HS (fun w S => (r_mv (F.ev (x := .tmp 0) rfl))) fun a F => ?_
                    obtain ⟨x70, e71, k_38⟩ := Option.bind_eq_some_iff.1 k_38
                    try dsimp only at k_38
                    refine d1 22 rfl (by kernel_rfl) (call F Try.func18 (disk_Disk_Sectors_ok (H.f1) e71) rfl rfl fun v w hR a F => ?_)
                    obtain ⟨rfl, H⟩ := hR
                    have HS := H.fx1.fx0
                    refine kg _ HS (fun w S => S) ?_
                    refine dq 24 F rfl (by kernel_rfl) NP HS (fun w S => (r_ne (F.ev (x := .tmp 72) rfl) (F.ev (x := .tmp 73) rfl))) fun a F => ?_
                    refine dq 25 F rfl (by kernel_rfl) NP HS (fun w S => (r_pickF (F.ev (x := .tmp 70) rfl) (F.ev (x := .tmp 74) rfl))) fun a F => ?_
                    refine ddone (by kernel_rfl) ?_
                    replace F := F.only [75, 0, 1, 5, 6, 7, 8] (l' := [(75, .bool (decide (x70 ≠ a0))), (0, .int .i64 a0), (1, .slice A1_ a1.length c1_), (5, .bool x1), (6, .pointer (some ⟨g22, 0, none⟩)), (7, .pointer (some ⟨g28, 0, none⟩)), (8, .int .i64 x29)]) rfl
                    try dsimp only at k_38
                    obtain rfl := Option.some.inj k_38
                    exact ⟨_, _, _, rfl, F.only [0, 1, 5, 6, 7, 8, 75] rfl, H.px7.px6.px5.px4.px3.px2.px1.px0⟩
              · rintro a w ⟨x36, x37, x38, rfl, F, H⟩
                try dsimp only at j_33 F H
                by_cases c72 : x36 = true
                · rw [if_pos c72] at j_33
                  rw [c72] at F
                  refine wp_cond_true (F.ev rfl) ?_
                  refine rg ?_
                  refine as_ F (v := .bool false) rfl fun a F => ?_
                  refine rgend ?_
                  replace F := F.only [4] (l' := [(4, .bool false)]) rfl
                  refine wp_ret ?_
                  try dsimp only at j_33
                  obtain rfl := Option.some.inj j_33
                  obtain rfl := u_33 _ rfl
                  try dsimp only at h
                  obtain rfl := Option.some.inj h
                  exact RET _ _ (ret1 F rfl rfl ⟨_, rfl, rfl, H.px0.fx1.fx0⟩)
                · rw [if_neg c72] at j_33
                  rw [Bool.eq_false_iff.2 c72] at F
                  refine wp_cond_false (F.ev rfl) ?_
                  refine wp_skip ?_
                  refine rg ?_
                  refine as_ F (v := .int .i64 (-1)) rfl fun a F => ?_
                  refine rgend ?_
                  obtain ⟨o_73, k_73, j_33⟩ := Option.bind_eq_some_iff.1 j_33
                  refine cut (fun a w => Sum.inl () = o_73 ∧ Fr 104 [] [(0, .int .i64 a0), (1, .slice A1_ a1.length c1_), (5, .bool x1), (6, .pointer (some ⟨g22, 0, none⟩)), (7, .pointer (some ⟨g28, 0, none⟩)), (8, .int .i64 x29)] a ∧ Hp w0 (rd k_law15_Op A1_ c1_ a1 :: ps) (obj_disk_Disk g22 x37 :: obj_ref15_Disk g28 x38 :: fs) w) (wp_block ?_) ?_
                  · refine wloop (law15_DiskPlays_b1 a0 x37 x38) (fun (s : Int) a w => Fr 104 [] [(0, .int .i64 a0), (1, .slice A1_ a1.length c1_), (5, .bool x1), (6, .pointer (some ⟨g22, 0, none⟩)), (7, .pointer (some ⟨g28, 0, none⟩)), (8, .int .i64 x29), (9, .int .i64 s)] a ∧ Hp w0 (rd k_law15_Op A1_ c1_ a1 :: ps) (obj_disk_Disk g22 x37 :: obj_ref15_Disk g28 x38 :: fs) w) k_73 ⟨F.only [0, 1, 5, 6, 7, 8, 9] rfl, H⟩ ?_
                    rintro x73 a w q_73 j_73 u_73 ⟨F, H⟩
                    unfold law15_DiskPlays_b1 at j_73
                    try dsimp only at j_73 F H
                    refine wp_seq ?_
                    refine rg ?_
                    refine mv F rfl fun a F => ?_
                    refine mv F rfl fun a F => ?_
                    refine ls (qv F (r_le (F.ev (x := .tmp 76) rfl) (F.ev (x := .tmp 77) rfl)) fun a F => ?_)
                    refine rgend ?_
                    by_cases c75 : x73 ≤ a0
                    · rw [if_pos c75] at j_73
                      rw [decide_eq_true c75] at F
                      refine wp_cond_true (F.ev rfl) ?_
                      refine wp_skip ?_
                      refine wp_seq ?_
                      refine wp_block ?_
                      refine rg ?_
                      refine mv F rfl fun a F => ?_
                      refine mv F rfl fun a F => ?_
                      obtain ⟨⟨x76, x77⟩, e78, j_73⟩ := Option.bind_eq_some_iff.1 j_73
                      try dsimp only at j_73
                      refine ls (call F Try.func19 (disk_Disk_Read_ok (H) e78) rfl rfl fun v w hR a F => ?_)
                      obtain ⟨A79, c80, rfl, H⟩ := hR
                      refine mv F rfl fun a F => ?_
                      refine ls (qv F (r_ex (F.ev (x := .tmp 81) rfl) rfl) fun a F => ?_)
                      refine ls (qv F (r_ex (F.ev (x := .tmp 81) rfl) rfl) fun a F => ?_)
                      refine as_ F rfl fun a F => ?_
                      refine as_ F rfl fun a F => ?_
                      refine rgend ?_
                      replace F := F.only [11, 10, 0, 1, 5, 6, 7, 8, 9] (l' := [(11, .int .i64 x77), (10, .slice A79 x76.length c80), (0, .int .i64 a0), (1, .slice A1_ a1.length c1_), (5, .bool x1), (6, .pointer (some ⟨g22, 0, none⟩)), (7, .pointer (some ⟨g28, 0, none⟩)), (8, .int .i64 x29), (9, .int .i64 x73)]) rfl
                      refine rg ?_
                      refine mv F rfl fun a F => ?_
                      refine mv F rfl fun a F => ?_
                      obtain ⟨⟨x81, x82⟩, e83, j_73⟩ := Option.bind_eq_some_iff.1 j_73
                      try dsimp only at j_73
                      refine ls (call F Try.func20 (ref15_Disk_Read_ok (H.f1.f1.f2) e83) rfl rfl fun v w hR a F => ?_)
                      obtain ⟨A84, c85, rfl, H⟩ := hR
                      refine mv F rfl fun a F => ?_
                      refine ls (qv F (r_ex (F.ev (x := .tmp 87) rfl) rfl) fun a F => ?_)
                      refine ls (qv F (r_ex (F.ev (x := .tmp 87) rfl) rfl) fun a F => ?_)
                      refine as_ F rfl fun a F => ?_
                      refine as_ F rfl fun a F => ?_
                      refine rgend ?_
                      replace F := F.only [13, 12, 11, 10, 0, 1, 5, 6, 7, 8, 9] (l' := [(13, .int .i64 x82), (12, .slice A84 x81.length c85), (11, .int .i64 x77), (10, .slice A79 x76.length c80), (0, .int .i64 a0), (1, .slice A1_ a1.length c1_), (5, .bool x1), (6, .pointer (some ⟨g22, 0, none⟩)), (7, .pointer (some ⟨g28, 0, none⟩)), (8, .int .i64 x29), (9, .int .i64 x73)]) rfl
                      refine rg ?_
                      refine mv F rfl fun a F => ?_
                      replace H := (H.f3.f2.f2.f3).freeze
                      have hb86 := H.bytes 0 rfl
                      refine ls (qv F (H.str 0 rfl (F.ev (x := .tmp 93) rfl) Try.underlying31 Try.underlying5 Try.underlying9) fun a F => ?_)
                      refine mv F rfl fun a F => ?_
                      replace H := (H).freeze
                      have hb87 := H.bytes 0 rfl
                      refine ls (qv F (H.str 0 rfl (F.ev (x := .tmp 95) rfl) Try.underlying31 Try.underlying5 Try.underlying9) fun a F => ?_)
                      refine ls (qv F (r_sne (F.ev (x := .tmp 94) rfl) (F.ev (x := .tmp 96) rfl) hb86 hb87) fun a F => ?_)
                      refine mv F rfl fun a F => ?_
                      by_cases c88 : x76 ≠ x81
                      · rw [if_pos c88] at j_73
                        rw [decide_eq_true c88] at F
                        refine ls (off F fun a F => ?_)
                        refine ls (off F fun a F => ?_)
                        refine ls (off F fun a F => ?_)
                        refine ls (qv F (r_pickT (F.ev (x := .tmp 98) rfl) (F.ev (x := .const (.bool true)) rfl)) fun a F => ?_)
                        refine rgend ?_
                        replace F := F.only [102, 0, 1, 5, 6, 7, 8, 9] (l' := [(102, .bool true), (0, .int .i64 a0), (1, .slice A1_ a1.length c1_), (5, .bool x1), (6, .pointer (some ⟨g22, 0, none⟩)), (7, .pointer (some ⟨g28, 0, none⟩)), (8, .int .i64 x29), (9, .int .i64 x73)]) rfl
                        refine wp_cond_true (F.ev rfl) ?_
                        refine rg ?_
                        refine as_ F (v := .bool false) rfl fun a F => ?_
                        refine rgend ?_
                        replace F := F.only [4] (l' := [(4, .bool false)]) rfl
                        refine wp_ret ?_
                        try dsimp only at j_73
                        obtain rfl := Option.some.inj j_73
                        obtain rfl := u_73 _ rfl
                        try dsimp only at j_33
                        obtain rfl := Option.some.inj j_33
                        obtain rfl := u_33 _ rfl
                        try dsimp only at h
                        obtain rfl := Option.some.inj h
                        exact RET _ _ (ret1 F rfl rfl ⟨_, rfl, rfl, H.px2.px1.px0.fx1.fx0⟩)
                      · rw [if_neg c88] at j_73
                        rw [decide_eq_false c88] at F
                        refine mv F rfl fun a F => ?_
                        refine mv F rfl fun a F => ?_
                        refine ls (qv F (r_ne (F.ev (x := .tmp 99) rfl) (F.ev (x := .tmp 100) rfl)) fun a F => ?_)
                        refine ls (qv F (r_pickF (F.ev (x := .tmp 98) rfl) (F.ev (x := .tmp 101) rfl)) fun a F => ?_)
                        refine rgend ?_
                        replace F := F.only [102, 0, 1, 5, 6, 7, 8, 9] (l' := [(102, .bool (decide (x77 ≠ x82))), (0, .int .i64 a0), (1, .slice A1_ a1.length c1_), (5, .bool x1), (6, .pointer (some ⟨g22, 0, none⟩)), (7, .pointer (some ⟨g28, 0, none⟩)), (8, .int .i64 x29), (9, .int .i64 x73)]) rfl
                        by_cases c89 : x77 ≠ x82
                        · rw [if_pos c89] at j_73
                          rw [decide_eq_true c89] at F
                          refine wp_cond_true (F.ev rfl) ?_
                          refine rg ?_
                          refine as_ F (v := .bool false) rfl fun a F => ?_
                          refine rgend ?_
                          replace F := F.only [4] (l' := [(4, .bool false)]) rfl
                          refine wp_ret ?_
                          try dsimp only at j_73
                          obtain rfl := Option.some.inj j_73
                          obtain rfl := u_73 _ rfl
                          try dsimp only at j_33
                          obtain rfl := Option.some.inj j_33
                          obtain rfl := u_33 _ rfl
                          try dsimp only at h
                          obtain rfl := Option.some.inj h
                          exact RET _ _ (ret1 F rfl rfl ⟨_, rfl, rfl, H.px2.px1.px0.fx1.fx0⟩)
                        · rw [if_neg c89] at j_73
                          rw [decide_eq_false c89] at F
                          refine wp_cond_false (F.ev rfl) ?_
                          refine wp_skip ?_
                          refine wp_region_lit ?_
                          refine mv F rfl fun a F => ?_
                          refine ls (qv F (r_add (F.ev (x := .tmp 79) rfl) (F.ev (x := .const (.int .i64 1)) rfl)) fun a F => ?_)
                          refine as_ F rfl fun a F => ?_
                          refine wpList_nil ?_
                          replace F := F.only [9, 0, 1, 5, 6, 7, 8] (l' := [(9, .int .i64 (IntKind.i64.wrap (x73 + 1))), (0, .int .i64 a0), (1, .slice A1_ a1.length c1_), (5, .bool x1), (6, .pointer (some ⟨g22, 0, none⟩)), (7, .pointer (some ⟨g28, 0, none⟩)), (8, .int .i64 x29)]) rfl
                          try dsimp only at j_73
                          obtain rfl := Option.some.inj j_73
                          exact ⟨_, rfl, F.only [0, 1, 5, 6, 7, 8, 9] rfl, H.px1.px0.f1⟩
                    · rw [if_neg c75] at j_73
                      rw [decide_eq_false c75] at F
                      refine wp_cond_false (F.ev rfl) ?_
                      refine wp_exit ?_
                      try dsimp only at j_73
                      obtain rfl := Option.some.inj j_73
                      obtain rfl := u_73 _ rfl
                      repeat (with_reducible refine exT ?_)
                      with_reducible refine exB ?_
                      exact ⟨rfl, F.only [0, 1, 5, 6, 7, 8] rfl, H⟩
                  · rintro a w ⟨rfl, F, H⟩
                    try dsimp only at j_33 F H
                    refine wp_region_lit ?_
                    refine mv F rfl fun a F => ?_
                    refine ls (qv F (r_add (F.ev (x := .tmp 48) rfl) (F.ev (x := .const (.int .i64 1)) rfl)) fun a F => ?_)
                    refine as_ F rfl fun a F => ?_
                    refine wpList_nil ?_
                    try dsimp only at j_33
                    obtain rfl := Option.some.inj j_33
                    exact ⟨_, rfl, F.only [0, 1, 5, 6, 7, 8] rfl, H⟩
            · rw [if_neg c35] at j_33
              rw [decide_eq_false c35] at F
              refine wp_cond_false (F.ev rfl) ?_
              refine wp_exit ?_
              try dsimp only at j_33
              obtain rfl := Option.some.inj j_33
              obtain rfl := u_33 _ rfl
              repeat (with_reducible refine exT ?_)
              with_reducible refine exB ?_
              exact ⟨_, _, rfl, F.only [5] rfl, H.px0⟩
          · rintro a w ⟨x32, x33, rfl, F, H⟩
            try dsimp only at h F H
            refine rg ?_
            refine mv F rfl fun a F => ?_
            refine as_ F rfl fun a F => ?_
            refine rgend ?_
            refine wp_ret ?_
            try dsimp only at h
            obtain rfl := Option.some.inj h
            exact RET _ _ (ret1 F rfl rfl ⟨_, rfl, rfl, H.fx1.fx0⟩)
end Go.Proofs.Ytddfdbpjldcjiaa
