/- What the functions compute. Printed by wip/gen. -/
import Derived.Test.YtdkdaggpfgajlaaGL
set_option linter.unusedVariables false
set_option linter.unusedSimpArgs false
namespace Go.Proofs.Ytdkdaggpfgajlaa
open Go Go.RowKit
def law17_RegionLays_f (a0 : Int) (a1 : Int) (a2 : Int) (a3 : Int) (a4 : List Int) (a5 : List (List Int)) (a6 : api_Region) (a7 : List Int) : Option (Bool) :=
  ((law17_head_f).bind fun x2 => ((law17_within_f a1 a2).bind fun x4 => (if x4 = true then (if (a4.length : Int) > 3000 then some x2 else ((law17_Rows_f a5).bind fun x8 => (if x8 = true then some x2 else (if (a6.State.length : Int) > 3000 then some x2 else ((law17_Rows_f a6.Kept).bind fun x12 => (if x12 = true then some x2 else ((law17_Rows_f a6.More).bind fun x15 => (if x15 = true then some x2 else (if (a7.length : Int) > 900 then some x2 else ((disk_New_f 50).bind fun x19 => match x19 with | none => ((ref15_New_f 50).bind fun x22 => match x22 with | none => some false | some x24 => some false) | some x21 => ((ref15_New_f 50).bind fun x27 => match x27 with | none => ((disk_Disk_Fuse_f x21 a0).bind fun x30 => none) | some x29 => ((disk_Disk_Fuse_f x21 a0).bind fun x33 => ((ref15_Disk_Fuse_f x29 a0).bind fun x35 => ((region_Lay_f x33 a1 a2 a3 a4 a5).bind fun (x37, x38) => ((ref17_Lay_f x35 a1 a2 a3 a4 a5).bind fun (x40, x41) => (if x37 ≠ x40 then some false else ((law17_alike_f x38 x41 50).bind fun x44 => (if x44 = true then (((if x2 = true then ((region_Put_f x38 a1 a2 a6 a7).bind fun (x52, x53) => ((ref17_Put_f x41 a1 a2 a6 a7).bind fun (x55, x56) => (if x52 = x55 then ((law17_alike_f x53 x56 50).bind fun x59 => some (x59, x53, x56)) else some (false, x53, x56)))) else some (false, x38, x41)) : Option (Bool × disk_Disk × ref15_Disk)).bind fun (x47, x48, x49) => some x47) else some false)))))))))))))))))) else some x2)))
set_option maxHeartbeats 4000000 in
set_option maxRecDepth 20000 in
theorem law17_RegionLays_ok {w0 w : World} {ps : List PF} {fs : List SF} {a0 : Int} {a1 : Int} {a2 : Int} {a3 : Int} {a4 : List Int} {A4_ : Option Addr} {c4_ : Nat} {a5 : List (List Int)} {A5_ : Option Addr} {c5_ : Nat} {a6 : api_Region} {A6_1 : Option Addr} {c6_1 : Nat} {A6_2 : Option Addr} {c6_2 : Nat} {A6_3 : Option Addr} {c6_3 : Nat} {a7 : List Int} {A7_ : Option Addr} {c7_ : Nat} {r0 : Bool} (H : Hp w0 (rd kByte A4_ c4_ a4 :: rd (kSlice kByte) A5_ c5_ a5 :: rd kByte A6_1 c6_1 a6.State :: rd (kSlice kByte) A6_2 c6_2 a6.Kept :: rd (kSlice kByte) A6_3 c6_3 a6.More :: rd kByte A7_ c7_ a7 :: ps) fs w) (h : law17_RegionLays_f a0 a1 a2 a3 a4 a5 a6 a7 = some r0) :
    Calls Try.prog 7 [.int .i64 a0, .int .i64 a1, .int .i64 a2, .int .i64 a3, .slice A4_ a4.length c4_, .slice A5_ a5.length c5_, .agg #[.int .i64 a6.Gen, .slice A6_1 a6.State.length c6_1, .slice A6_2 a6.Kept.length c6_2, .slice A6_3 a6.More.length c6_3], .slice A7_ a7.length c7_].toArray w fun e w' => ∃ v, e = .returned v ∧ v = .bool r0 ∧ Hp w0 ps fs w' := by
  refine enter [.int .i64 a0, .int .i64 a1, .int .i64 a2, .int .i64 a3, .slice A4_ a4.length c4_, .slice A5_ a5.length c5_, .agg #[.int .i64 a6.Gen, .slice A6_1 a6.State.length c6_1, .slice A6_2 a6.Kept.length c6_2, .slice A6_3 a6.More.length c6_3], .slice A7_ a7.length c7_] 112 Try.func7 fun Q a NP RET NRM F => ?_
  replace NP : ∀ c a w, ¬ Q (.panic c) a w := fun c a w h => by rcases NP c a w h with h | ⟨w, v, h, _⟩ <;> cases h
  unfold law17_RegionLays_f at h
  refine rg ?_
  refine ls (lbox F H rfl (cs := [.int .i64 a6.Gen, .slice A6_1 a6.State.length c6_1, .slice A6_2 a6.Kept.length c6_2, .slice A6_3 a6.More.length c6_3]) rfl fun g1 w a H F => ?_)
  refine as_ F (v := .bool false) rfl fun a F => ?_
  refine rgend ?_
  refine rg ?_
  obtain ⟨x2, e3, h⟩ := Option.bind_eq_some_iff.1 h
  try dsimp only at h
  refine ls (call F Try.func9 (law17_head_ok (H) e3) rfl rfl fun v w hR a F => ?_)
  obtain ⟨rfl, H⟩ := hR
  refine as_ F rfl fun a F => ?_
  refine rgend ?_
  refine wp_seq ?_
  refine rg ?_
  refine mv F rfl fun a F => ?_
  refine mv F rfl fun a F => ?_
  obtain ⟨x4, e5, h⟩ := Option.bind_eq_some_iff.1 h
  try dsimp only at h
  refine ls (call F Try.func10 (law17_within_ok (H) e5) rfl rfl fun v w hR a F => ?_)
  obtain ⟨rfl, H⟩ := hR
  refine ls (qv F (r_not (F.ev (x := .tmp 25) rfl)) fun a F => ?_)
  refine mv F rfl fun a F => ?_
  by_cases c6 : x4 = true
  · rw [if_pos c6] at h
    rw [c6] at F
    refine mv F rfl fun a F => ?_
    refine ls (qv F (r_len (F.ev (x := .tmp 28) rfl) Try.underlying23) fun a F => ?_)
    refine ls (qv F (r_gt (F.ev (x := .tmp 29) rfl) (F.ev (x := .const (.int .i64 3000)) rfl)) fun a F => ?_)
    refine ls (qv F (r_pickF (F.ev (x := .tmp 27) rfl) (F.ev (x := .tmp 30) rfl)) fun a F => ?_)
    refine mv F rfl fun a F => ?_
    by_cases c7 : (a4.length : Int) > 3000
    · rw [if_pos c7] at h
      rw [decide_eq_true c7] at F
      refine ls (off F fun a F => ?_)
      refine ls (off F fun a F => ?_)
      refine ls (qv F (r_pickT (F.ev (x := .tmp 32) rfl) (F.ev (x := .const (.bool true)) rfl)) fun a F => ?_)
      refine mv F rfl fun a F => ?_
      refine ls (off F fun a F => ?_)
      refine ls (off F fun a F => ?_)
      refine ls (off F fun a F => ?_)
      refine ls (off F fun a F => ?_)
      refine ls (qv F (r_pickT (F.ev (x := .tmp 36) rfl) (F.ev (x := .const (.bool true)) rfl)) fun a F => ?_)
      refine mv F rfl fun a F => ?_
      refine ls (off F fun a F => ?_)
      refine ls (off F fun a F => ?_)
      refine ls (off F fun a F => ?_)
      refine ls (qv F (r_pickT (F.ev (x := .tmp 42) rfl) (F.ev (x := .const (.bool true)) rfl)) fun a F => ?_)
      refine mv F rfl fun a F => ?_
      refine ls (off F fun a F => ?_)
      refine ls (off F fun a F => ?_)
      refine ls (off F fun a F => ?_)
      refine ls (qv F (r_pickT (F.ev (x := .tmp 47) rfl) (F.ev (x := .const (.bool true)) rfl)) fun a F => ?_)
      refine mv F rfl fun a F => ?_
      refine ls (off F fun a F => ?_)
      refine ls (off F fun a F => ?_)
      refine ls (off F fun a F => ?_)
      refine ls (qv F (r_pickT (F.ev (x := .tmp 52) rfl) (F.ev (x := .const (.bool true)) rfl)) fun a F => ?_)
      refine rgend ?_
      replace F := F.only [56, 17, 14, 0, 1, 2, 3, 4, 5, 7] (l' := [(56, .bool true), (17, .bool x2), (14, .pointer (some ⟨g1, 0, none⟩)), (0, .int .i64 a0), (1, .int .i64 a1), (2, .int .i64 a2), (3, .int .i64 a3), (4, .slice A4_ a4.length c4_), (5, .slice A5_ a5.length c5_), (7, .slice A7_ a7.length c7_)]) rfl
      refine wp_cond_true (F.ev rfl) ?_
      refine rg ?_
      refine mv F rfl fun a F => ?_
      refine as_ F rfl fun a F => ?_
      refine rgend ?_
      replace F := F.only [16] (l' := [(16, .bool x2)]) rfl
      refine wp_ret ?_
      try dsimp only at h
      obtain rfl := Option.some.inj h
      exact RET _ _ (ret1 F rfl rfl ⟨_, rfl, rfl, H.px5.px4.px3.px2.px1.px0.fx0⟩)
    · rw [if_neg c7] at h
      rw [decide_eq_false c7] at F
      refine mv F rfl fun a F => ?_
      obtain ⟨x8, e9, h⟩ := Option.bind_eq_some_iff.1 h
      try dsimp only at h
      refine ls (call F Try.func17 (law17_Rows_ok (H.p1) e9) rfl rfl fun v w hR a F => ?_)
      obtain ⟨rfl, H⟩ := hR
      refine ls (qv F (r_pickF (F.ev (x := .tmp 32) rfl) (F.ev (x := .tmp 34) rfl)) fun a F => ?_)
      refine mv F rfl fun a F => ?_
      by_cases c10 : x8 = true
      · rw [if_pos c10] at h
        rw [c10] at F
        refine ls (off F fun a F => ?_)
        refine ls (off F fun a F => ?_)
        refine ls (off F fun a F => ?_)
        refine ls (off F fun a F => ?_)
        refine ls (qv F (r_pickT (F.ev (x := .tmp 36) rfl) (F.ev (x := .const (.bool true)) rfl)) fun a F => ?_)
        refine mv F rfl fun a F => ?_
        refine ls (off F fun a F => ?_)
        refine ls (off F fun a F => ?_)
        refine ls (off F fun a F => ?_)
        refine ls (qv F (r_pickT (F.ev (x := .tmp 42) rfl) (F.ev (x := .const (.bool true)) rfl)) fun a F => ?_)
        refine mv F rfl fun a F => ?_
        refine ls (off F fun a F => ?_)
        refine ls (off F fun a F => ?_)
        refine ls (off F fun a F => ?_)
        refine ls (qv F (r_pickT (F.ev (x := .tmp 47) rfl) (F.ev (x := .const (.bool true)) rfl)) fun a F => ?_)
        refine mv F rfl fun a F => ?_
        refine ls (off F fun a F => ?_)
        refine ls (off F fun a F => ?_)
        refine ls (off F fun a F => ?_)
        refine ls (qv F (r_pickT (F.ev (x := .tmp 52) rfl) (F.ev (x := .const (.bool true)) rfl)) fun a F => ?_)
        refine rgend ?_
        replace F := F.only [56, 17, 14, 0, 1, 2, 3, 4, 5, 7] (l' := [(56, .bool true), (17, .bool x2), (14, .pointer (some ⟨g1, 0, none⟩)), (0, .int .i64 a0), (1, .int .i64 a1), (2, .int .i64 a2), (3, .int .i64 a3), (4, .slice A4_ a4.length c4_), (5, .slice A5_ a5.length c5_), (7, .slice A7_ a7.length c7_)]) rfl
        refine wp_cond_true (F.ev rfl) ?_
        refine rg ?_
        refine mv F rfl fun a F => ?_
        refine as_ F rfl fun a F => ?_
        refine rgend ?_
        replace F := F.only [16] (l' := [(16, .bool x2)]) rfl
        refine wp_ret ?_
        try dsimp only at h
        obtain rfl := Option.some.inj h
        exact RET _ _ (ret1 F rfl rfl ⟨_, rfl, rfl, H.px5.px4.px3.px2.px1.px0.fx0⟩)
      · rw [if_neg c10] at h
        rw [Bool.eq_false_iff.2 c10] at F
        refine ls (qv F (r_fa (off := 1) (F.ev (x := .tmp 14) rfl) fa34_1) fun a F => ?_)
        refine ls (qv F (r_ld (F.ev (x := .tmp 37) rfl) (cel_cell (o := 1) (H.cell 0 rfl) rfl) one23) fun a F => ?_)
        refine ls (qv F (r_len (F.ev (x := .tmp 38) rfl) Try.underlying23) fun a F => ?_)
        refine ls (qv F (r_gt (F.ev (x := .tmp 39) rfl) (F.ev (x := .const (.int .i64 3000)) rfl)) fun a F => ?_)
        refine ls (qv F (r_pickF (F.ev (x := .tmp 36) rfl) (F.ev (x := .tmp 40) rfl)) fun a F => ?_)
        refine mv F rfl fun a F => ?_
        by_cases c11 : (a6.State.length : Int) > 3000
        · rw [if_pos c11] at h
          rw [decide_eq_true c11] at F
          refine ls (off F fun a F => ?_)
          refine ls (off F fun a F => ?_)
          refine ls (off F fun a F => ?_)
          refine ls (qv F (r_pickT (F.ev (x := .tmp 42) rfl) (F.ev (x := .const (.bool true)) rfl)) fun a F => ?_)
          refine mv F rfl fun a F => ?_
          refine ls (off F fun a F => ?_)
          refine ls (off F fun a F => ?_)
          refine ls (off F fun a F => ?_)
          refine ls (qv F (r_pickT (F.ev (x := .tmp 47) rfl) (F.ev (x := .const (.bool true)) rfl)) fun a F => ?_)
          refine mv F rfl fun a F => ?_
          refine ls (off F fun a F => ?_)
          refine ls (off F fun a F => ?_)
          refine ls (off F fun a F => ?_)
          refine ls (qv F (r_pickT (F.ev (x := .tmp 52) rfl) (F.ev (x := .const (.bool true)) rfl)) fun a F => ?_)
          refine rgend ?_
          replace F := F.only [56, 17, 14, 0, 1, 2, 3, 4, 5, 7] (l' := [(56, .bool true), (17, .bool x2), (14, .pointer (some ⟨g1, 0, none⟩)), (0, .int .i64 a0), (1, .int .i64 a1), (2, .int .i64 a2), (3, .int .i64 a3), (4, .slice A4_ a4.length c4_), (5, .slice A5_ a5.length c5_), (7, .slice A7_ a7.length c7_)]) rfl
          refine wp_cond_true (F.ev rfl) ?_
          refine rg ?_
          refine mv F rfl fun a F => ?_
          refine as_ F rfl fun a F => ?_
          refine rgend ?_
          replace F := F.only [16] (l' := [(16, .bool x2)]) rfl
          refine wp_ret ?_
          try dsimp only at h
          obtain rfl := Option.some.inj h
          exact RET _ _ (ret1 F rfl rfl ⟨_, rfl, rfl, H.px5.px4.px3.px2.px1.px0.fx0⟩)
        · rw [if_neg c11] at h
          rw [decide_eq_false c11] at F
          refine ls (qv F (r_fa (off := 2) (F.ev (x := .tmp 14) rfl) fa34_2) fun a F => ?_)
          refine ls (qv F (r_ld (F.ev (x := .tmp 43) rfl) (cel_cell (o := 2) (H.cell 0 rfl) rfl) one32) fun a F => ?_)
          obtain ⟨x12, e13, h⟩ := Option.bind_eq_some_iff.1 h
          try dsimp only at h
          refine ls (call F Try.func17 (law17_Rows_ok (H.p3) e13) rfl rfl fun v w hR a F => ?_)
          obtain ⟨rfl, H⟩ := hR
          refine ls (qv F (r_pickF (F.ev (x := .tmp 42) rfl) (F.ev (x := .tmp 45) rfl)) fun a F => ?_)
          refine mv F rfl fun a F => ?_
          by_cases c14 : x12 = true
          · rw [if_pos c14] at h
            rw [c14] at F
            refine ls (off F fun a F => ?_)
            refine ls (off F fun a F => ?_)
            refine ls (off F fun a F => ?_)
            refine ls (qv F (r_pickT (F.ev (x := .tmp 47) rfl) (F.ev (x := .const (.bool true)) rfl)) fun a F => ?_)
            refine mv F rfl fun a F => ?_
            refine ls (off F fun a F => ?_)
            refine ls (off F fun a F => ?_)
            refine ls (off F fun a F => ?_)
            refine ls (qv F (r_pickT (F.ev (x := .tmp 52) rfl) (F.ev (x := .const (.bool true)) rfl)) fun a F => ?_)
            refine rgend ?_
            replace F := F.only [56, 17, 14, 0, 1, 2, 3, 4, 5, 7] (l' := [(56, .bool true), (17, .bool x2), (14, .pointer (some ⟨g1, 0, none⟩)), (0, .int .i64 a0), (1, .int .i64 a1), (2, .int .i64 a2), (3, .int .i64 a3), (4, .slice A4_ a4.length c4_), (5, .slice A5_ a5.length c5_), (7, .slice A7_ a7.length c7_)]) rfl
            refine wp_cond_true (F.ev rfl) ?_
            refine rg ?_
            refine mv F rfl fun a F => ?_
            refine as_ F rfl fun a F => ?_
            refine rgend ?_
            replace F := F.only [16] (l' := [(16, .bool x2)]) rfl
            refine wp_ret ?_
            try dsimp only at h
            obtain rfl := Option.some.inj h
            exact RET _ _ (ret1 F rfl rfl ⟨_, rfl, rfl, H.px5.px4.px3.px2.px1.px0.fx0⟩)
          · rw [if_neg c14] at h
            rw [Bool.eq_false_iff.2 c14] at F
            refine ls (qv F (r_fa (off := 3) (F.ev (x := .tmp 14) rfl) fa34_3) fun a F => ?_)
            refine ls (qv F (r_ld (F.ev (x := .tmp 48) rfl) (cel_cell (o := 3) (H.cell 0 rfl) rfl) one32) fun a F => ?_)
            obtain ⟨x15, e16, h⟩ := Option.bind_eq_some_iff.1 h
            try dsimp only at h
            refine ls (call F Try.func17 (law17_Rows_ok (H.p4) e16) rfl rfl fun v w hR a F => ?_)
            obtain ⟨rfl, H⟩ := hR
            refine ls (qv F (r_pickF (F.ev (x := .tmp 47) rfl) (F.ev (x := .tmp 50) rfl)) fun a F => ?_)
            refine mv F rfl fun a F => ?_
            by_cases c17 : x15 = true
            · rw [if_pos c17] at h
              rw [c17] at F
              refine ls (off F fun a F => ?_)
              refine ls (off F fun a F => ?_)
              refine ls (off F fun a F => ?_)
              refine ls (qv F (r_pickT (F.ev (x := .tmp 52) rfl) (F.ev (x := .const (.bool true)) rfl)) fun a F => ?_)
              refine rgend ?_
              replace F := F.only [56, 17, 14, 0, 1, 2, 3, 4, 5, 7] (l' := [(56, .bool true), (17, .bool x2), (14, .pointer (some ⟨g1, 0, none⟩)), (0, .int .i64 a0), (1, .int .i64 a1), (2, .int .i64 a2), (3, .int .i64 a3), (4, .slice A4_ a4.length c4_), (5, .slice A5_ a5.length c5_), (7, .slice A7_ a7.length c7_)]) rfl
              refine wp_cond_true (F.ev rfl) ?_
              refine rg ?_
              refine mv F rfl fun a F => ?_
              refine as_ F rfl fun a F => ?_
              refine rgend ?_
              replace F := F.only [16] (l' := [(16, .bool x2)]) rfl
              refine wp_ret ?_
              try dsimp only at h
              obtain rfl := Option.some.inj h
              exact RET _ _ (ret1 F rfl rfl ⟨_, rfl, rfl, H.px5.px4.px3.px2.px1.px0.fx0⟩)
            · rw [if_neg c17] at h
              rw [Bool.eq_false_iff.2 c17] at F
              refine mv F rfl fun a F => ?_
              refine ls (qv F (r_len (F.ev (x := .tmp 53) rfl) Try.underlying23) fun a F => ?_)
              refine ls (qv F (r_gt (F.ev (x := .tmp 54) rfl) (F.ev (x := .const (.int .i64 900)) rfl)) fun a F => ?_)
              refine ls (qv F (r_pickF (F.ev (x := .tmp 52) rfl) (F.ev (x := .tmp 55) rfl)) fun a F => ?_)
              refine rgend ?_
              replace F := F.only [56, 17, 14, 0, 1, 2, 3, 4, 5, 7] (l' := [(56, .bool (decide ((a7.length : Int) > 900))), (17, .bool x2), (14, .pointer (some ⟨g1, 0, none⟩)), (0, .int .i64 a0), (1, .int .i64 a1), (2, .int .i64 a2), (3, .int .i64 a3), (4, .slice A4_ a4.length c4_), (5, .slice A5_ a5.length c5_), (7, .slice A7_ a7.length c7_)]) rfl
              by_cases c18 : (a7.length : Int) > 900
              · rw [if_pos c18] at h
                rw [decide_eq_true c18] at F
                refine wp_cond_true (F.ev rfl) ?_
                refine rg ?_
                refine mv F rfl fun a F => ?_
                refine as_ F rfl fun a F => ?_
                refine rgend ?_
                replace F := F.only [16] (l' := [(16, .bool x2)]) rfl
                refine wp_ret ?_
                try dsimp only at h
                obtain rfl := Option.some.inj h
                exact RET _ _ (ret1 F rfl rfl ⟨_, rfl, rfl, H.px5.px4.px3.px2.px1.px0.fx0⟩)
              · rw [if_neg c18] at h
                rw [decide_eq_false c18] at F
                refine wp_cond_false (F.ev rfl) ?_
                refine wp_skip ?_
                refine rg ?_
                obtain ⟨x19, e20, h⟩ := Option.bind_eq_some_iff.1 h
                try dsimp only at h
                rcases x19 with _ | x21
                · try dsimp only at h
                  refine ls (call F Try.func18 (disk_New_ok (H) e20) rfl rfl fun v w hR a F => ?_)
                  obtain ⟨rfl, H⟩ := hR
                  refine as_ F rfl fun a F => ?_
                  refine rgend ?_
                  refine rg ?_
                  obtain ⟨x22, e23, h⟩ := Option.bind_eq_some_iff.1 h
                  try dsimp only at h
                  rcases x22 with _ | x24
                  · try dsimp only at h
                    refine ls (call F Try.func26 (ref15_New_ok (H) e23) rfl rfl fun v w hR a F => ?_)
                    obtain ⟨rfl, H⟩ := hR
                    refine as_ F rfl fun a F => ?_
                    refine rgend ?_
                    refine wp_seq ?_
                    refine rg ?_
                    refine mv F rfl fun a F => ?_
                    refine ls (qv F (r_peq0 (F.ev (x := .tmp 60) rfl) (F.ev (x := .const (.pointer none)) rfl) Try.underlying28) fun a F => ?_)
                    refine rgend ?_
                    replace F := F.only [61, 19, 18, 17, 14, 0, 1, 2, 3, 4, 5, 7] (l' := [(61, .bool true), (19, .pointer none), (18, .pointer none), (17, .bool x2), (14, .pointer (some ⟨g1, 0, none⟩)), (0, .int .i64 a0), (1, .int .i64 a1), (2, .int .i64 a2), (3, .int .i64 a3), (4, .slice A4_ a4.length c4_), (5, .slice A5_ a5.length c5_), (7, .slice A7_ a7.length c7_)]) rfl
                    refine wp_cond_true (F.ev rfl) ?_
                    refine rg ?_
                    refine as_ F (v := .bool false) rfl fun a F => ?_
                    refine rgend ?_
                    replace F := F.only [16] (l' := [(16, .bool false)]) rfl
                    refine wp_ret ?_
                    try dsimp only at h
                    obtain rfl := Option.some.inj h
                    exact RET _ _ (ret1 F rfl rfl ⟨_, rfl, rfl, H.px5.px4.px3.px2.px1.px0.fx0⟩)
                  · try dsimp only at h
                    refine ls (call F Try.func26 (ref15_New_ok (H) e23) rfl rfl fun v w hR a F => ?_)
                    obtain ⟨g25, rfl, H⟩ := hR
                    refine as_ F rfl fun a F => ?_
                    refine rgend ?_
                    refine wp_seq ?_
                    refine rg ?_
                    refine mv F rfl fun a F => ?_
                    refine ls (qv F (r_peq0 (F.ev (x := .tmp 60) rfl) (F.ev (x := .const (.pointer none)) rfl) Try.underlying28) fun a F => ?_)
                    refine rgend ?_
                    replace F := F.only [61, 19, 18, 17, 14, 0, 1, 2, 3, 4, 5, 7] (l' := [(61, .bool true), (19, .pointer (some ⟨g25, 0, none⟩)), (18, .pointer none), (17, .bool x2), (14, .pointer (some ⟨g1, 0, none⟩)), (0, .int .i64 a0), (1, .int .i64 a1), (2, .int .i64 a2), (3, .int .i64 a3), (4, .slice A4_ a4.length c4_), (5, .slice A5_ a5.length c5_), (7, .slice A7_ a7.length c7_)]) rfl
                    refine wp_cond_true (F.ev rfl) ?_
                    refine rg ?_
                    refine as_ F (v := .bool false) rfl fun a F => ?_
                    refine rgend ?_
                    replace F := F.only [16] (l' := [(16, .bool false)]) rfl
                    refine wp_ret ?_
                    try dsimp only at h
                    obtain rfl := Option.some.inj h
                    exact RET _ _ (ret1 F rfl rfl ⟨_, rfl, rfl, H.px5.px4.px3.px2.px1.px0.fx1.fx0⟩)
                · try dsimp only at h
                  refine ls (call F Try.func18 (disk_New_ok (H) e20) rfl rfl fun v w hR a F => ?_)
                  obtain ⟨g26, rfl, H⟩ := hR
                  refine as_ F rfl fun a F => ?_
                  refine rgend ?_
                  refine rg ?_
                  obtain ⟨x27, e28, h⟩ := Option.bind_eq_some_iff.1 h
                  try dsimp only at h
                  rcases x27 with _ | x29
                  · try dsimp only at h
                    refine ls (call F Try.func26 (ref15_New_ok (H) e28) rfl rfl fun v w hR a F => ?_)
                    obtain ⟨rfl, H⟩ := hR
                    refine as_ F rfl fun a F => ?_
                    refine rgend ?_
                    refine wp_seq ?_
                    refine rg ?_
                    refine mv F rfl fun a F => ?_
                    refine ls (qv F (r_peq (F.ev (x := .tmp 60) rfl) (F.ev (x := .const (.pointer none)) rfl) Try.underlying28) fun a F => ?_)
                    refine rgend ?_
                    replace F := F.only [61, 19, 18, 17, 14, 0, 1, 2, 3, 4, 5, 7] (l' := [(61, .bool false), (19, .pointer none), (18, .pointer (some ⟨g26, 0, none⟩)), (17, .bool x2), (14, .pointer (some ⟨g1, 0, none⟩)), (0, .int .i64 a0), (1, .int .i64 a1), (2, .int .i64 a2), (3, .int .i64 a3), (4, .slice A4_ a4.length c4_), (5, .slice A5_ a5.length c5_), (7, .slice A7_ a7.length c7_)]) rfl
                    refine wp_cond_false (F.ev rfl) ?_
                    refine wp_skip ?_
                    refine rg ?_
                    refine mv F rfl fun a F => ?_
                    refine mv F rfl fun a F => ?_
                    obtain ⟨x30, e31, h⟩ := Option.bind_eq_some_iff.1 h
                    try dsimp only at h
                    refine ls (call F Try.func27 (disk_Disk_Fuse_ok (H) e31) rfl rfl fun v w hR a F => ?_)
                    obtain ⟨rfl, H⟩ := hR
                    refine rgend ?_
                    replace F := F.only [19, 18, 17, 14, 0, 1, 2, 3, 4, 5, 7] (l' := [(19, .pointer none), (18, .pointer (some ⟨g26, 0, none⟩)), (17, .bool x2), (14, .pointer (some ⟨g1, 0, none⟩)), (0, .int .i64 a0), (1, .int .i64 a1), (2, .int .i64 a2), (3, .int .i64 a3), (4, .slice A4_ a4.length c4_), (5, .slice A5_ a5.length c5_), (7, .slice A7_ a7.length c7_)]) rfl
                    refine rg ?_
                    refine mv F rfl fun a F => ?_
                    refine mv F rfl fun a F => ?_
                    cases h
                  · try dsimp only at h
                    refine ls (call F Try.func26 (ref15_New_ok (H) e28) rfl rfl fun v w hR a F => ?_)
                    obtain ⟨g32, rfl, H⟩ := hR
                    refine as_ F rfl fun a F => ?_
                    refine rgend ?_
                    refine wp_seq ?_
                    refine rg ?_
                    refine mv F rfl fun a F => ?_
                    refine ls (qv F (r_peq (F.ev (x := .tmp 60) rfl) (F.ev (x := .const (.pointer none)) rfl) Try.underlying28) fun a F => ?_)
                    refine rgend ?_
                    replace F := F.only [61, 19, 18, 17, 14, 0, 1, 2, 3, 4, 5, 7] (l' := [(61, .bool false), (19, .pointer (some ⟨g32, 0, none⟩)), (18, .pointer (some ⟨g26, 0, none⟩)), (17, .bool x2), (14, .pointer (some ⟨g1, 0, none⟩)), (0, .int .i64 a0), (1, .int .i64 a1), (2, .int .i64 a2), (3, .int .i64 a3), (4, .slice A4_ a4.length c4_), (5, .slice A5_ a5.length c5_), (7, .slice A7_ a7.length c7_)]) rfl
                    refine wp_cond_false (F.ev rfl) ?_
                    refine wp_skip ?_
                    refine rg ?_
                    refine mv F rfl fun a F => ?_
                    refine mv F rfl fun a F => ?_
                    obtain ⟨x33, e34, h⟩ := Option.bind_eq_some_iff.1 h
                    try dsimp only at h
                    refine ls (call F Try.func27 (disk_Disk_Fuse_ok (H.f2.f1.f2) e34) rfl rfl fun v w hR a F => ?_)
                    obtain ⟨rfl, H⟩ := hR
                    refine rgend ?_
                    replace F := F.only [19, 18, 17, 14, 0, 1, 2, 3, 4, 5, 7] (l' := [(19, .pointer (some ⟨g32, 0, none⟩)), (18, .pointer (some ⟨g26, 0, none⟩)), (17, .bool x2), (14, .pointer (some ⟨g1, 0, none⟩)), (0, .int .i64 a0), (1, .int .i64 a1), (2, .int .i64 a2), (3, .int .i64 a3), (4, .slice A4_ a4.length c4_), (5, .slice A5_ a5.length c5_), (7, .slice A7_ a7.length c7_)]) rfl
                    refine rg ?_
                    refine mv F rfl fun a F => ?_
                    refine mv F rfl fun a F => ?_
                    obtain ⟨x35, e36, h⟩ := Option.bind_eq_some_iff.1 h
                    try dsimp only at h
                    refine ls (call F Try.func28 (ref15_Disk_Fuse_ok (H.f2.f1.f2) e36) rfl rfl fun v w hR a F => ?_)
                    obtain ⟨rfl, H⟩ := hR
                    refine rgend ?_
                    replace F := F.only [19, 18, 17, 14, 1, 2, 3, 4, 5, 7] (l' := [(19, .pointer (some ⟨g32, 0, none⟩)), (18, .pointer (some ⟨g26, 0, none⟩)), (17, .bool x2), (14, .pointer (some ⟨g1, 0, none⟩)), (1, .int .i64 a1), (2, .int .i64 a2), (3, .int .i64 a3), (4, .slice A4_ a4.length c4_), (5, .slice A5_ a5.length c5_), (7, .slice A7_ a7.length c7_)]) rfl
                    refine rg ?_
                    refine mv F rfl fun a F => ?_
                    refine mv F rfl fun a F => ?_
                    refine mv F rfl fun a F => ?_
                    refine mv F rfl fun a F => ?_
                    refine mv F rfl fun a F => ?_
                    refine mv F rfl fun a F => ?_
                    obtain ⟨⟨x37, x38⟩, e39, h⟩ := Option.bind_eq_some_iff.1 h
                    try dsimp only at h
                    refine ls (call F Try.func19 (region_Lay_ok (H.p1.p1.f2.f1.f2) e39) rfl rfl fun v w hR a F => ?_)
                    obtain ⟨rfl, H⟩ := hR
                    refine as_ F rfl fun a F => ?_
                    refine rgend ?_
                    replace F := F.only [20, 19, 18, 17, 14, 1, 2, 3, 4, 5, 7] (l' := [(20, .int .i64 x37), (19, .pointer (some ⟨g32, 0, none⟩)), (18, .pointer (some ⟨g26, 0, none⟩)), (17, .bool x2), (14, .pointer (some ⟨g1, 0, none⟩)), (1, .int .i64 a1), (2, .int .i64 a2), (3, .int .i64 a3), (4, .slice A4_ a4.length c4_), (5, .slice A5_ a5.length c5_), (7, .slice A7_ a7.length c7_)]) rfl
                    refine rg ?_
                    refine mv F rfl fun a F => ?_
                    refine mv F rfl fun a F => ?_
                    refine mv F rfl fun a F => ?_
                    refine mv F rfl fun a F => ?_
                    refine mv F rfl fun a F => ?_
                    refine mv F rfl fun a F => ?_
                    obtain ⟨⟨x40, x41⟩, e42, h⟩ := Option.bind_eq_some_iff.1 h
                    try dsimp only at h
                    refine ls (call F Try.func29 (ref17_Lay_ok (H.p1.p1.f2.f1.f2) e42) rfl rfl fun v w hR a F => ?_)
                    obtain ⟨rfl, H⟩ := hR
                    refine as_ F rfl fun a F => ?_
                    refine rgend ?_
                    replace F := F.only [21, 20, 19, 18, 17, 14, 1, 2, 7] (l' := [(21, .int .i64 x40), (20, .int .i64 x37), (19, .pointer (some ⟨g32, 0, none⟩)), (18, .pointer (some ⟨g26, 0, none⟩)), (17, .bool x2), (14, .pointer (some ⟨g1, 0, none⟩)), (1, .int .i64 a1), (2, .int .i64 a2), (7, .slice A7_ a7.length c7_)]) rfl
                    refine wp_seq ?_
                    refine rg ?_
                    refine mv F rfl fun a F => ?_
                    refine mv F rfl fun a F => ?_
                    refine ls (qv F (r_ne (F.ev (x := .tmp 82) rfl) (F.ev (x := .tmp 83) rfl)) fun a F => ?_)
                    refine mv F rfl fun a F => ?_
                    by_cases c43 : x37 ≠ x40
                    · rw [if_pos c43] at h
                      rw [decide_eq_true c43] at F
                      refine ls (off F fun a F => ?_)
                      refine ls (off F fun a F => ?_)
                      refine ls (off F fun a F => ?_)
                      refine ls (off F fun a F => ?_)
                      refine ls (qv F (r_pickT (F.ev (x := .tmp 85) rfl) (F.ev (x := .const (.bool true)) rfl)) fun a F => ?_)
                      refine rgend ?_
                      replace F := F.only [90, 19, 18, 17, 14, 1, 2, 7] (l' := [(90, .bool true), (19, .pointer (some ⟨g32, 0, none⟩)), (18, .pointer (some ⟨g26, 0, none⟩)), (17, .bool x2), (14, .pointer (some ⟨g1, 0, none⟩)), (1, .int .i64 a1), (2, .int .i64 a2), (7, .slice A7_ a7.length c7_)]) rfl
                      refine wp_cond_true (F.ev rfl) ?_
                      refine rg ?_
                      refine as_ F (v := .bool false) rfl fun a F => ?_
                      refine rgend ?_
                      replace F := F.only [16] (l' := [(16, .bool false)]) rfl
                      refine wp_ret ?_
                      try dsimp only at h
                      obtain rfl := Option.some.inj h
                      exact RET _ _ (ret1 F rfl rfl ⟨_, rfl, rfl, H.px5.px4.px3.px2.px1.px0.fx2.fx1.fx0⟩)
                    · rw [if_neg c43] at h
                      rw [decide_eq_false c43] at F
                      refine mv F rfl fun a F => ?_
                      refine mv F rfl fun a F => ?_
                      obtain ⟨x44, e45, h⟩ := Option.bind_eq_some_iff.1 h
                      try dsimp only at h
                      refine ls (call F Try.func30 (law17_alike_ok (H.f2.f1.f2) e45) rfl rfl fun v w hR a F => ?_)
                      obtain ⟨rfl, H⟩ := hR
                      refine ls (qv F (r_not (F.ev (x := .tmp 88) rfl)) fun a F => ?_)
                      refine ls (qv F (r_pickF (F.ev (x := .tmp 85) rfl) (F.ev (x := .tmp 89) rfl)) fun a F => ?_)
                      refine rgend ?_
                      replace F := F.only [90, 19, 18, 17, 14, 1, 2, 7] (l' := [(90, .bool (!x44)), (19, .pointer (some ⟨g32, 0, none⟩)), (18, .pointer (some ⟨g26, 0, none⟩)), (17, .bool x2), (14, .pointer (some ⟨g1, 0, none⟩)), (1, .int .i64 a1), (2, .int .i64 a2), (7, .slice A7_ a7.length c7_)]) rfl
                      by_cases c46 : x44 = true
                      · rw [if_pos c46] at h
                        rw [c46] at F
                        refine wp_cond_false (F.ev rfl) ?_
                        refine wp_skip ?_
                        refine wp_seq ?_
                        obtain ⟨o_49, k_49, h⟩ := Option.bind_eq_some_iff.1 h
                        refine cut (fun a w => ∃ (x47 : Bool) (x48 : disk_Disk) (x49 : ref15_Disk), (x47, x48, x49) = o_49 ∧ Fr 112 [] [(16, .bool x47)] a ∧ Hp w0 ps (obj_disk_Disk g26 x48 :: obj_ref15_Disk g32 x49 :: fs) w) ?_ ?_
                        · skip
                          replace H := H.drew
                          have HS := H.fx1.fx0
                          refine dr (fun w => Hp w0 (rd kByte A4_ c4_ a4 :: rd (kSlice kByte) A5_ c5_ a5 :: rd kByte A6_1 c6_1 a6.State :: rd (kSlice kByte) A6_2 c6_2 a6.Kept :: rd (kSlice kByte) A6_3 c6_3 a6.More :: rd kByte A7_ c7_ a7 :: ps) (cel g1 [.int .i64 a6.Gen, .slice A6_1 a6.State.length c6_1, .slice A6_2 a6.Kept.length c6_2, .slice A6_3 a6.More.length c6_3] 34 :: fs) w) _ (by kernel_rfl) ?_ (n := 22)
                          refine dq 0 F rfl (by kernel_rfl) NP HS (fun w S => (r_mv (F.ev (x := .tmp 17) rfl))) fun a F => ?_
                          refine dq 1 F rfl (by kernel_rfl) NP HS (fun w S => (r_mv (F.ev (x := .tmp 91) rfl))) fun a F => ?_
                          by_cases c51 : x2 = true
                          · rw [if_pos c51] at k_49
                            rw [c51] at F
                            refine dq 2 F rfl (by kernel_rfl) NP HS (fun w S => (r_mv (F.ev (x := .tmp 18) rfl))) fun a F => ?_
                            refine dq 3 F rfl (by kernel_rfl) NP HS (fun w S => (r_mv (F.ev (x := .tmp 1) rfl))) fun a F => ?_
                            refine dq 4 F rfl (by kernel_rfl) NP HS (fun w S => (r_mv (F.ev (x := .tmp 2) rfl))) fun a F => ?_
                            refine dq 5 F rfl (by kernel_rfl) NP HS (fun w S => (r_ldA (F.ev (x := .tmp 14) rfl) (cel_range (o := 0) (n := 4) (vs := [.int .i64 a6.Gen, .slice A6_1 a6.State.length c6_1, .slice A6_2 a6.Kept.length c6_2, .slice A6_3 a6.More.length c6_3]) (S.cell 0 rfl) rfl) agg34 rfl)) fun a F => ?_
                            refine dq 6 F rfl (by kernel_rfl) NP HS (fun w S => (r_mv (F.ev (x := .tmp 7) rfl))) fun a F => ?_
                            refine dq 8 F rfl (by kernel_rfl) NP HS (fun w S => (r_mv (F.ev (x := .tmp 19) rfl))) fun a F => ?_
                            refine dq 9 F rfl (by kernel_rfl) NP HS (fun w S => (r_mv (F.ev (x := .tmp 1) rfl))) fun a F => ?_
                            refine dq 10 F rfl (by kernel_rfl) NP HS (fun w S => (r_mv (F.ev (x := .tmp 2) rfl))) fun a F => ?_
                            refine dq 11 F rfl (by kernel_rfl) NP HS (fun w S => (r_ldA (F.ev (x := .tmp 14) rfl) (cel_range (o := 0) (n := 4) (vs := [.int .i64 a6.Gen, .slice A6_1 a6.State.length c6_1, .slice A6_2 a6.Kept.length c6_2, .slice A6_3 a6.More.length c6_3]) (S.cell 0 rfl) rfl) agg34 rfl)) fun a F => ?_
                            refine dq 12 F rfl (by kernel_rfl) NP HS (fun w S => (r_mv (F.ev (x := .tmp 7) rfl))) fun a F => ?_
                            obtain ⟨⟨x52, x53⟩, e54, k_49⟩ := Option.bind_eq_some_iff.1 k_49
                            try dsimp only at k_49
                            refine d1 7 rfl (by kernel_rfl) (call F Try.func20 (region_Put_ok (a3 := a6) (H.p5) e54) rfl rfl fun v w hR a F => ?_)
                            obtain ⟨rfl, H⟩ := hR
                            have HS := H.fx1.fx0
                            refine kg _ HS (fun w S => S) ?_
                            obtain ⟨⟨x55, x56⟩, e57, k_49⟩ := Option.bind_eq_some_iff.1 k_49
                            try dsimp only at k_49
                            refine d1 13 rfl (by kernel_rfl) (call F Try.func31 (ref17_Put_ok (a3 := a6) (H.p5.p5.p5.p5.f2.f1.f2) e57) rfl rfl fun v w hR a F => ?_)
                            obtain ⟨rfl, H⟩ := hR
                            have HS := H.fx1.fx0
                            refine kg _ HS (fun w S => S) ?_
                            refine dq 14 F rfl (by kernel_rfl) NP HS (fun w S => (r_eq (F.ev (x := .tmp 98) rfl) (F.ev (x := .tmp 104) rfl))) fun a F => ?_
                            refine dq 15 F rfl (by kernel_rfl) NP HS (fun w S => (r_pickT (F.ev (x := .tmp 92) rfl) (F.ev (x := .tmp 105) rfl))) fun a F => ?_
                            refine dq 16 F rfl (by kernel_rfl) NP HS (fun w S => (r_mv (F.ev (x := .tmp 106) rfl))) fun a F => ?_
                            by_cases c58 : x52 = x55
                            · rw [if_pos c58] at k_49
                              rw [decide_eq_true c58] at F
                              refine dq 17 F rfl (by kernel_rfl) NP HS (fun w S => (r_mv (F.ev (x := .tmp 18) rfl))) fun a F => ?_
                              refine dq 18 F rfl (by kernel_rfl) NP HS (fun w S => (r_mv (F.ev (x := .tmp 19) rfl))) fun a F => ?_
                              obtain ⟨x59, e60, k_49⟩ := Option.bind_eq_some_iff.1 k_49
                              try dsimp only at k_49
                              refine d1 19 rfl (by kernel_rfl) (call F Try.func30 (law17_alike_ok (H.f2.f1.f2) e60) rfl rfl fun v w hR a F => ?_)
                              obtain ⟨rfl, H⟩ := hR
                              have HS := H.fx1.fx0
                              refine kg _ HS (fun w S => S) ?_
                              refine dq 20 F rfl (by kernel_rfl) NP HS (fun w S => (r_pickT (F.ev (x := .tmp 107) rfl) (F.ev (x := .tmp 110) rfl))) fun a F => ?_
                              refine dq 21 F rfl (by kernel_rfl) NP HS (fun w S => (r_as (F.ev (x := .tmp 111) rfl))) fun a F => ?_
                              refine ddone (by kernel_rfl) ?_
                              replace F := F.only [16] (l' := [(16, .bool x59)]) rfl
                              try dsimp only at k_49
                              obtain rfl := Option.some.inj k_49
                              exact ⟨_, _, _, rfl, F.only [16] rfl, H.px5.px4.px3.px2.px1.px0.fx2⟩
                            · rw [if_neg c58] at k_49
                              rw [decide_eq_false c58] at F
                              refine doff 17 F rfl (by kernel_rfl) NP HS fun a F => ?_
                              refine doff 18 F rfl (by kernel_rfl) NP HS fun a F => ?_
                              refine doff 19 F rfl (by kernel_rfl) NP HS fun a F => ?_
                              refine dq 20 F rfl (by kernel_rfl) NP HS (fun w S => (r_pickF (F.ev (x := .tmp 107) rfl) (F.ev (x := .const (.bool false)) rfl))) fun a F => ?_
                              refine dq 21 F rfl (by kernel_rfl) NP HS (fun w S => (r_as (F.ev (x := .tmp 111) rfl))) fun a F => ?_
                              refine ddone (by kernel_rfl) ?_
                              replace F := F.only [16] (l' := [(16, .bool false)]) rfl
                              try dsimp only at k_49
                              obtain rfl := Option.some.inj k_49
                              exact ⟨_, _, _, rfl, F.only [16] rfl, H.px5.px4.px3.px2.px1.px0.f1.fx2⟩
                          · rw [if_neg c51] at k_49
                            rw [Bool.eq_false_iff.2 c51] at F
                            refine doff 2 F rfl (by kernel_rfl) NP HS fun a F => ?_
                            refine doff 3 F rfl (by kernel_rfl) NP HS fun a F => ?_
                            refine doff 4 F rfl (by kernel_rfl) NP HS fun a F => ?_
                            refine doff 5 F rfl (by kernel_rfl) NP HS fun a F => ?_
                            refine doff 6 F rfl (by kernel_rfl) NP HS fun a F => ?_
                            refine doff 7 F rfl (by kernel_rfl) NP HS fun a F => ?_
                            refine doff 8 F rfl (by kernel_rfl) NP HS fun a F => ?_
                            refine doff 9 F rfl (by kernel_rfl) NP HS fun a F => ?_
                            refine doff 10 F rfl (by kernel_rfl) NP HS fun a F => ?_
                            refine doff 11 F rfl (by kernel_rfl) NP HS fun a F => ?_
                            refine doff 12 F rfl (by kernel_rfl) NP HS fun a F => ?_
                            refine doff 13 F rfl (by kernel_rfl) NP HS fun a F => ?_
                            refine doff 14 F rfl (by kernel_rfl) NP HS fun a F => ?_
                            refine dq 15 F rfl (by kernel_rfl) NP HS (fun w S => (r_pickF (F.ev (x := .tmp 92) rfl) (F.ev (x := .const (.bool false)) rfl))) fun a F => ?_
                            refine dq 16 F rfl (by kernel_rfl) NP HS (fun w S => (r_mv (F.ev (x := .tmp 106) rfl))) fun a F => ?_
                            refine doff 17 F rfl (by kernel_rfl) NP HS fun a F => ?_
                            refine doff 18 F rfl (by kernel_rfl) NP HS fun a F => ?_
                            refine doff 19 F rfl (by kernel_rfl) NP HS fun a F => ?_
                            refine dq 20 F rfl (by kernel_rfl) NP HS (fun w S => (r_pickF (F.ev (x := .tmp 107) rfl) (F.ev (x := .const (.bool false)) rfl))) fun a F => ?_
                            refine dq 21 F rfl (by kernel_rfl) NP HS (fun w S => (r_as (F.ev (x := .tmp 111) rfl))) fun a F => ?_
                            refine ddone (by kernel_rfl) ?_
                            replace F := F.only [16] (l' := [(16, .bool false)]) rfl
                            try dsimp only at k_49
                            obtain rfl := Option.some.inj k_49
                            exact ⟨_, _, _, rfl, F.only [16] rfl, H.px5.px4.px3.px2.px1.px0.fx2⟩
                        · rintro a w ⟨x47, x48, x49, rfl, F, H⟩
                          try dsimp only at h F H
                          refine wp_ret ?_
                          try dsimp only at h
                          obtain rfl := Option.some.inj h
                          exact RET _ _ (ret1 F rfl rfl ⟨_, rfl, rfl, H.fx1.fx0⟩)
                      · rw [if_neg c46] at h
                        rw [Bool.eq_false_iff.2 c46] at F
                        refine wp_cond_true (F.ev rfl) ?_
                        refine rg ?_
                        refine as_ F (v := .bool false) rfl fun a F => ?_
                        refine rgend ?_
                        replace F := F.only [16] (l' := [(16, .bool false)]) rfl
                        refine wp_ret ?_
                        try dsimp only at h
                        obtain rfl := Option.some.inj h
                        exact RET _ _ (ret1 F rfl rfl ⟨_, rfl, rfl, H.px5.px4.px3.px2.px1.px0.fx2.fx1.fx0⟩)
  · rw [if_neg c6] at h
    rw [Bool.eq_false_iff.2 c6] at F
    refine ls (off F fun a F => ?_)
    refine ls (off F fun a F => ?_)
    refine ls (off F fun a F => ?_)
    refine ls (qv F (r_pickT (F.ev (x := .tmp 27) rfl) (F.ev (x := .const (.bool true)) rfl)) fun a F => ?_)
    refine mv F rfl fun a F => ?_
    refine ls (off F fun a F => ?_)
    refine ls (off F fun a F => ?_)
    refine ls (qv F (r_pickT (F.ev (x := .tmp 32) rfl) (F.ev (x := .const (.bool true)) rfl)) fun a F => ?_)
    refine mv F rfl fun a F => ?_
    refine ls (off F fun a F => ?_)
    refine ls (off F fun a F => ?_)
    refine ls (off F fun a F => ?_)
    refine ls (off F fun a F => ?_)
    refine ls (qv F (r_pickT (F.ev (x := .tmp 36) rfl) (F.ev (x := .const (.bool true)) rfl)) fun a F => ?_)
    refine mv F rfl fun a F => ?_
    refine ls (off F fun a F => ?_)
    refine ls (off F fun a F => ?_)
    refine ls (off F fun a F => ?_)
    refine ls (qv F (r_pickT (F.ev (x := .tmp 42) rfl) (F.ev (x := .const (.bool true)) rfl)) fun a F => ?_)
    refine mv F rfl fun a F => ?_
    refine ls (off F fun a F => ?_)
    refine ls (off F fun a F => ?_)
    refine ls (off F fun a F => ?_)
    refine ls (qv F (r_pickT (F.ev (x := .tmp 47) rfl) (F.ev (x := .const (.bool true)) rfl)) fun a F => ?_)
    refine mv F rfl fun a F => ?_
    refine ls (off F fun a F => ?_)
    refine ls (off F fun a F => ?_)
    refine ls (off F fun a F => ?_)
    refine ls (qv F (r_pickT (F.ev (x := .tmp 52) rfl) (F.ev (x := .const (.bool true)) rfl)) fun a F => ?_)
    refine rgend ?_
    replace F := F.only [56, 17, 14, 0, 1, 2, 3, 4, 5, 7] (l' := [(56, .bool true), (17, .bool x2), (14, .pointer (some ⟨g1, 0, none⟩)), (0, .int .i64 a0), (1, .int .i64 a1), (2, .int .i64 a2), (3, .int .i64 a3), (4, .slice A4_ a4.length c4_), (5, .slice A5_ a5.length c5_), (7, .slice A7_ a7.length c7_)]) rfl
    refine wp_cond_true (F.ev rfl) ?_
    refine rg ?_
    refine mv F rfl fun a F => ?_
    refine as_ F rfl fun a F => ?_
    refine rgend ?_
    replace F := F.only [16] (l' := [(16, .bool x2)]) rfl
    refine wp_ret ?_
    try dsimp only at h
    obtain rfl := Option.some.inj h
    exact RET _ _ (ret1 F rfl rfl ⟨_, rfl, rfl, H.px5.px4.px3.px2.px1.px0.fx0⟩)
end Go.Proofs.Ytdkdaggpfgajlaa
