/- What the functions compute. Printed by wip/gen. -/
import Derived.Test.YtflkagoglhckoaaGL
set_option linter.unusedVariables false
set_option linter.unusedSimpArgs false
namespace Go.Proofs.Ytflkagoglhckoaa
open Go Go.RowKit
def law22_LanFull_b0 (a1 : Int) (x4 : Int) : (Int × lan_Lan) → Option (Int × lan_Lan ⊕ (lan_Lan ⊕ Bool))
  | (x7, x8) => (if x7 < 2048 then ((lan_Lan_Put_f x8 x4 ([a1])).bind fun (x13, x14) => (if x13 = true then some (.inl (IntKind.i64.wrap (x7 + 1), x14)) else some (.inr (.inr false)))) else some (.inr (.inl x8)))
def law22_LanFull_f (a0 : Bool) (a1 : Int) : Option (Bool) :=
  ((law22_head_f).bind fun x1 => ((if a0 = true then some 1 else some 0).bind fun x4 => ((lp (law22_LanFull_b0 a1 x4) (0, (⟨(⟨[]⟩, ⟨[]⟩)⟩ : lan_Lan))).bind fun q => match q with | .inl x9 => ((lan_Lan_Put_f x9 x4 ([a1])).bind fun (x18, x19) => ((lan_Lan_Put_f x19 (IntKind.i64.wrap (1 - x4)) ([a1])).bind fun (x22, x23) => ((lan_Lan_Take_f x23 x4 5).bind fun (x25, x26, x27) => ((lan_Lan_Put_f x27 x4 ([a1])).bind fun (x32, x33) => ((if x1 = true then (if x18 = true then some false else (if x22 = true then (if x26 = true then (if x32 = true then ((lan_Lan_Many_f x33 x4).bind fun x42 => (if x42 = 2048 then ((lan_Lan_Many_f x33 (IntKind.i64.wrap (1 - x4))).bind fun x45 => some ((decide (x45 = 1)))) else some false)) else some false) else some false) else some false)) else some false).bind fun x35 => some x35))))) | .inr r => some r)))
set_option maxHeartbeats 4000000 in
set_option maxRecDepth 20000 in
theorem law22_LanFull_ok {w0 w : World} {ps : List PF} {fs : List SF} {a0 : Bool} {a1 : Int} {r0 : Bool} (H : Hp w0 ps fs w) (h : law22_LanFull_f a0 a1 = some r0) (ha1 : 0 ≤ a1 ∧ a1 < 256) :
    Calls Try.prog 6 [.bool a0, .int .u8 a1].toArray w fun e w' => ∃ v, e = .returned v ∧ v = .bool r0 ∧ Hp w0 ps fs w' := by
  refine enter [.bool a0, .int .u8 a1] 77 Try.func6 fun Q a NP RET NRM F => ?_
  replace NP : ∀ c a w, ¬ Q (.panic c) a w := fun c a w h => by rcases NP c a w h with h | ⟨w, v, h, _⟩ <;> cases h
  unfold law22_LanFull_f at h
  refine rg ?_
  refine as_ F (v := .bool false) rfl fun a F => ?_
  refine rgend ?_
  refine rg ?_
  obtain ⟨x1, e2, h⟩ := Option.bind_eq_some_iff.1 h
  try dsimp only at h
  refine ls (call F Try.func8 (law22_head_ok (H) e2) rfl rfl fun v w hR a F => ?_)
  obtain ⟨rfl, H⟩ := hR
  refine as_ F rfl fun a F => ?_
  refine rgend ?_
  refine rg ?_
  refine ls (lbd F (vs := []) (cs := [.slice none 0 0, .slice none 0 0]) rfl (fun w => by kernel_rfl) fun a F => ?_)
  refine ls (lbox F H rfl (cs := [.slice none 0 0, .slice none 0 0]) rfl fun g3 w a H F => ?_)
  refine as_ F rfl fun a F => ?_
  refine rgend ?_
  refine rg ?_
  refine as_ F (v := .int .i64 0) rfl fun a F => ?_
  refine rgend ?_
  refine wp_seq ?_
  refine rg ?_
  refine mv F rfl fun a F => ?_
  refine rgend ?_
  replace F := F.only [17, 7, 6, 5, 4, 1] (l' := [(17, .bool a0), (7, .int .i64 0), (6, .pointer (some ⟨g3, 0, none⟩)), (5, .bool x1), (4, .bool false), (1, .int .u8 a1)]) rfl
  obtain ⟨o_4, k_4, h⟩ := Option.bind_eq_some_iff.1 h
  refine cut (fun a w => ∃ (x4 : Int), x4 = o_4 ∧ Fr 77 [] [(1, .int .u8 a1), (4, .bool false), (5, .bool x1), (6, .pointer (some ⟨g3, 0, none⟩)), (7, .int .i64 x4)] a ∧ Hp w0 ps (obj_lan_Lan g3 ((⟨(⟨[]⟩, ⟨[]⟩)⟩ : lan_Lan)) :: fs) w) ?_ ?_
  · skip
    by_cases c6 : a0 = true
    · rw [if_pos c6] at k_4
      rw [c6] at F
      refine wp_cond_true (F.ev rfl) ?_
      refine wp_region_lit ?_
      refine as_ F (v := .int .i64 1) rfl fun a F => ?_
      refine wpList_nil ?_
      replace H := H.nilOwn (kSlice kByte) 35
      replace H := H.nilOwn (kSlice kByte) 35
      replace H := Hp.closeO_lan_Lan (x := (⟨(⟨[]⟩, ⟨[]⟩)⟩ : lan_Lan)) (H.f1.f1.f2)
      try dsimp only at k_4
      cases k_4
      exact ⟨_, rfl, F.only [1, 4, 5, 6, 7] rfl, H⟩
    · rw [if_neg c6] at k_4
      rw [Bool.eq_false_iff.2 c6] at F
      refine wp_cond_false (F.ev rfl) ?_
      refine wp_skip ?_
      replace H := H.nilOwn (kSlice kByte) 35
      replace H := H.nilOwn (kSlice kByte) 35
      replace H := Hp.closeO_lan_Lan (x := (⟨(⟨[]⟩, ⟨[]⟩)⟩ : lan_Lan)) (H.f1.f1.f2)
      try dsimp only at k_4
      cases k_4
      exact ⟨_, rfl, F.only [1, 4, 5, 6, 7] rfl, H⟩
  · rintro a w ⟨x4, rfl, F, H⟩
    try dsimp only at h F H
    refine wp_seq ?_
    refine rg ?_
    refine as_ F (v := .int .i64 0) rfl fun a F => ?_
    refine rgend ?_
    obtain ⟨o_9, k_9, h⟩ := Option.bind_eq_some_iff.1 h
    refine cut (fun a w => ∃ (x9 : lan_Lan), Sum.inl x9 = o_9 ∧ Fr 77 [] [(1, .int .u8 a1), (4, .bool false), (5, .bool x1), (6, .pointer (some ⟨g3, 0, none⟩)), (7, .int .i64 x4)] a ∧ Hp w0 ps (obj_lan_Lan g3 x9 :: fs) w) (wp_block ?_) ?_
    · refine wloop (law22_LanFull_b0 a1 x4) (fun (s : Int × lan_Lan) a w => Fr 77 [] [(1, .int .u8 a1), (4, .bool false), (5, .bool x1), (6, .pointer (some ⟨g3, 0, none⟩)), (7, .int .i64 x4), (8, .int .i64 s.1)] a ∧ Hp w0 ps (obj_lan_Lan g3 s.2 :: fs) w) k_9 ⟨F.only [1, 4, 5, 6, 7, 8] rfl, H⟩ ?_
      rintro ⟨x7, x8⟩ a w q_9 j_9 u_9 ⟨F, H⟩
      unfold law22_LanFull_b0 at j_9
      try dsimp only at j_9 F H
      refine wp_seq ?_
      refine rg ?_
      refine mv F rfl fun a F => ?_
      refine ls (qv F (r_lt (F.ev (x := .tmp 18) rfl) (F.ev (x := .const (.int .i64 2048)) rfl)) fun a F => ?_)
      refine rgend ?_
      by_cases c11 : x7 < 2048
      · rw [if_pos c11] at j_9
        rw [decide_eq_true c11] at F
        refine wp_cond_true (F.ev rfl) ?_
        refine wp_skip ?_
        refine wp_seq ?_
        refine wp_block ?_
        refine rg ?_
        refine mv F rfl fun a F => ?_
        refine mv F rfl fun a F => ?_
        refine mv F rfl fun a F => ?_
        refine ls (lbs F H (e := 5) (vs := [(0, .int .u8 a1)]) (cs := [.int .u8 a1]) rfl (fun w => by kernel_rfl) fun g12 w a H F => ?_)
        replace H := Hp.litRd (kd := kByte) (xs := [a1]) (H) ((SayL.cons (kd := kByte) (c1 := [.int .u8 a1]) (y := a1) (fun Z hp => ⟨rfl, ha1⟩) SayL.nil)) (Nat.le_of_ble_eq_true rfl)
        obtain ⟨⟨x13, x14⟩, e15, j_9⟩ := Option.bind_eq_some_iff.1 j_9
        try dsimp only at j_9
        refine ls (call F Try.func14 (lan_Lan_Put_ok (H.p0) e15) rfl rfl fun v w hR a F => ?_)
        obtain ⟨rfl, H⟩ := hR
        refine ls (qv F (r_not (F.ev (x := .tmp 26) rfl)) fun a F => ?_)
        refine rgend ?_
        by_cases c16 : x13 = true
        · rw [if_pos c16] at j_9
          rw [c16] at F
          refine wp_cond_false (F.ev rfl) ?_
          refine wp_skip ?_
          refine wp_region_lit ?_
          refine mv F rfl fun a F => ?_
          refine ls (qv F (r_add (F.ev (x := .tmp 20) rfl) (F.ev (x := .const (.int .i64 1)) rfl)) fun a F => ?_)
          refine as_ F rfl fun a F => ?_
          refine wpList_nil ?_
          try dsimp only at j_9
          cases j_9
          exact ⟨_, rfl, F.only [1, 4, 5, 6, 7, 8] rfl, H.px0⟩
        · rw [if_neg c16] at j_9
          rw [Bool.eq_false_iff.2 c16] at F
          refine wp_cond_true (F.ev rfl) ?_
          refine rg ?_
          refine as_ F (v := .bool false) rfl fun a F => ?_
          refine rgend ?_
          refine wp_ret ?_
          try dsimp only at j_9
          cases j_9
          cases u_9 _ rfl
          try dsimp only at h
          cases h
          exact RET _ _ (ret1 F rfl rfl ⟨_, rfl, rfl, H.px0.fx0⟩)
      · rw [if_neg c11] at j_9
        rw [decide_eq_false c11] at F
        refine wp_cond_false (F.ev rfl) ?_
        refine wp_exit ?_
        try dsimp only at j_9
        cases j_9
        cases u_9 _ rfl
        repeat (with_reducible refine exT ?_)
        with_reducible refine exB ?_
        exact ⟨_, rfl, F.only [1, 4, 5, 6, 7] rfl, H⟩
    · rintro a w ⟨x9, rfl, F, H⟩
      try dsimp only at h F H
      refine rg ?_
      refine mv F rfl fun a F => ?_
      refine mv F rfl fun a F => ?_
      refine mv F rfl fun a F => ?_
      refine ls (lbs F H (e := 5) (vs := [(0, .int .u8 a1)]) (cs := [.int .u8 a1]) rfl (fun w => by kernel_rfl) fun g17 w a H F => ?_)
      replace H := Hp.litRd (kd := kByte) (xs := [a1]) (H) ((SayL.cons (kd := kByte) (c1 := [.int .u8 a1]) (y := a1) (fun Z hp => ⟨rfl, ha1⟩) SayL.nil)) (Nat.le_of_ble_eq_true rfl)
      obtain ⟨⟨x18, x19⟩, e20, h⟩ := Option.bind_eq_some_iff.1 h
      try dsimp only at h
      refine ls (call F Try.func14 (lan_Lan_Put_ok (H.p0) e20) rfl rfl fun v w hR a F => ?_)
      obtain ⟨rfl, H⟩ := hR
      refine as_ F rfl fun a F => ?_
      refine rgend ?_
      replace F := F.only [9, 1, 4, 5, 6, 7] (l' := [(9, .bool x18), (1, .int .u8 a1), (4, .bool false), (5, .bool x1), (6, .pointer (some ⟨g3, 0, none⟩)), (7, .int .i64 x4)]) rfl
      refine rg ?_
      refine mv F rfl fun a F => ?_
      refine mv F rfl fun a F => ?_
      refine ls (qv F (r_sub (F.ev (x := .const (.int .i64 1)) rfl) (F.ev (x := .tmp 34) rfl)) fun a F => ?_)
      refine mv F rfl fun a F => ?_
      refine ls (lbs F H (e := 5) (vs := [(0, .int .u8 a1)]) (cs := [.int .u8 a1]) rfl (fun w => by kernel_rfl) fun g21 w a H F => ?_)
      replace H := Hp.litRd (kd := kByte) (xs := [a1]) (H) ((SayL.cons (kd := kByte) (c1 := [.int .u8 a1]) (y := a1) (fun Z hp => ⟨rfl, ha1⟩) SayL.nil)) (Nat.le_of_ble_eq_true rfl)
      obtain ⟨⟨x22, x23⟩, e24, h⟩ := Option.bind_eq_some_iff.1 h
      try dsimp only at h
      refine ls (call F Try.func14 (lan_Lan_Put_ok (H.p0) e24) rfl rfl fun v w hR a F => ?_)
      obtain ⟨rfl, H⟩ := hR
      refine as_ F rfl fun a F => ?_
      refine rgend ?_
      replace F := F.only [10, 9, 1, 4, 5, 6, 7] (l' := [(10, .bool x22), (9, .bool x18), (1, .int .u8 a1), (4, .bool false), (5, .bool x1), (6, .pointer (some ⟨g3, 0, none⟩)), (7, .int .i64 x4)]) rfl
      refine rg ?_
      refine mv F rfl fun a F => ?_
      refine mv F rfl fun a F => ?_
      obtain ⟨⟨x25, x26, x27⟩, e28, h⟩ := Option.bind_eq_some_iff.1 h
      try dsimp only at h
      refine ls (call F Try.func10 (lan_Lan_Take_ok (H) e28) rfl rfl fun v w hR a F => ?_)
      obtain ⟨A29, c30, rfl, H⟩ := hR
      refine mv F rfl fun a F => ?_
      refine ls (qv F (r_ex (F.ev (x := .tmp 39) rfl) rfl) fun a F => ?_)
      refine ls (qv F (r_ex (F.ev (x := .tmp 39) rfl) rfl) fun a F => ?_)
      refine as_ F rfl fun a F => ?_
      refine as_ F rfl fun a F => ?_
      refine rgend ?_
      replace F := F.only [12, 10, 9, 1, 4, 5, 6, 7] (l' := [(12, .bool x26), (10, .bool x22), (9, .bool x18), (1, .int .u8 a1), (4, .bool false), (5, .bool x1), (6, .pointer (some ⟨g3, 0, none⟩)), (7, .int .i64 x4)]) rfl
      refine rg ?_
      refine mv F rfl fun a F => ?_
      refine mv F rfl fun a F => ?_
      refine mv F rfl fun a F => ?_
      refine ls (lbs F H (e := 5) (vs := [(0, .int .u8 a1)]) (cs := [.int .u8 a1]) rfl (fun w => by kernel_rfl) fun g31 w a H F => ?_)
      replace H := Hp.litRd (kd := kByte) (xs := [a1]) (H) ((SayL.cons (kd := kByte) (c1 := [.int .u8 a1]) (y := a1) (fun Z hp => ⟨rfl, ha1⟩) SayL.nil)) (Nat.le_of_ble_eq_true rfl)
      obtain ⟨⟨x32, x33⟩, e34, h⟩ := Option.bind_eq_some_iff.1 h
      try dsimp only at h
      refine ls (call F Try.func14 (lan_Lan_Put_ok (H.p0.f1) e34) rfl rfl fun v w hR a F => ?_)
      obtain ⟨rfl, H⟩ := hR
      refine as_ F rfl fun a F => ?_
      refine rgend ?_
      replace F := F.only [13, 12, 10, 9, 4, 5, 6, 7] (l' := [(13, .bool x32), (12, .bool x26), (10, .bool x22), (9, .bool x18), (4, .bool false), (5, .bool x1), (6, .pointer (some ⟨g3, 0, none⟩)), (7, .int .i64 x4)]) rfl
      refine wp_seq ?_
      obtain ⟨o_35, k_35, h⟩ := Option.bind_eq_some_iff.1 h
      refine cut (fun a w => ∃ (x35 : Bool), x35 = o_35 ∧ Fr 77 [] [(4, .bool x35)] a ∧ Hp w0 ps (obj_lan_Lan g3 x33 :: fs) w) ?_ ?_
      · skip
        refine wp_region_lit ?_
        refine mv F rfl fun a F => ?_
        refine mv F rfl fun a F => ?_
        by_cases c37 : x1 = true
        · rw [if_pos c37] at k_35
          rw [c37] at F
          refine mv F rfl fun a F => ?_
          refine ls (qv F (r_not (F.ev (x := .tmp 52) rfl)) fun a F => ?_)
          refine ls (qv F (r_pickT (F.ev (x := .tmp 51) rfl) (F.ev (x := .tmp 53) rfl)) fun a F => ?_)
          refine mv F rfl fun a F => ?_
          by_cases c38 : x18 = true
          · rw [if_pos c38] at k_35
            rw [c38] at F
            refine ls (off F fun a F => ?_)
            refine ls (qv F (r_pickF (F.ev (x := .tmp 55) rfl) (F.ev (x := .const (.bool false)) rfl)) fun a F => ?_)
            refine mv F rfl fun a F => ?_
            refine ls (off F fun a F => ?_)
            refine ls (qv F (r_pickF (F.ev (x := .tmp 58) rfl) (F.ev (x := .const (.bool false)) rfl)) fun a F => ?_)
            refine mv F rfl fun a F => ?_
            refine ls (off F fun a F => ?_)
            refine ls (qv F (r_pickF (F.ev (x := .tmp 61) rfl) (F.ev (x := .const (.bool false)) rfl)) fun a F => ?_)
            refine mv F rfl fun a F => ?_
            refine ls (off F fun a F => ?_)
            refine ls (off F fun a F => ?_)
            refine ls (off F fun a F => ?_)
            refine ls (off F fun a F => ?_)
            refine ls (qv F (r_pickF (F.ev (x := .tmp 64) rfl) (F.ev (x := .const (.bool false)) rfl)) fun a F => ?_)
            refine mv F rfl fun a F => ?_
            refine ls (off F fun a F => ?_)
            refine ls (off F fun a F => ?_)
            refine ls (off F fun a F => ?_)
            refine ls (off F fun a F => ?_)
            refine ls (off F fun a F => ?_)
            refine ls (qv F (r_pickF (F.ev (x := .tmp 70) rfl) (F.ev (x := .const (.bool false)) rfl)) fun a F => ?_)
            refine as_ F rfl fun a F => ?_
            refine wpList_nil ?_
            replace F := F.only [4] (l' := [(4, .bool false)]) rfl
            try dsimp only at k_35
            cases k_35
            exact ⟨_, rfl, F.only [4] rfl, H.px2.px1.px0.fx1⟩
          · rw [if_neg c38] at k_35
            rw [Bool.eq_false_iff.2 c38] at F
            refine mv F rfl fun a F => ?_
            refine ls (qv F (r_pickT (F.ev (x := .tmp 55) rfl) (F.ev (x := .tmp 56) rfl)) fun a F => ?_)
            refine mv F rfl fun a F => ?_
            by_cases c39 : x22 = true
            · rw [if_pos c39] at k_35
              rw [c39] at F
              refine mv F rfl fun a F => ?_
              refine ls (qv F (r_pickT (F.ev (x := .tmp 58) rfl) (F.ev (x := .tmp 59) rfl)) fun a F => ?_)
              refine mv F rfl fun a F => ?_
              by_cases c40 : x26 = true
              · rw [if_pos c40] at k_35
                rw [c40] at F
                refine mv F rfl fun a F => ?_
                refine ls (qv F (r_pickT (F.ev (x := .tmp 61) rfl) (F.ev (x := .tmp 62) rfl)) fun a F => ?_)
                refine mv F rfl fun a F => ?_
                by_cases c41 : x32 = true
                · rw [if_pos c41] at k_35
                  rw [c41] at F
                  refine mv F rfl fun a F => ?_
                  refine mv F rfl fun a F => ?_
                  obtain ⟨x42, e43, k_35⟩ := Option.bind_eq_some_iff.1 k_35
                  try dsimp only at k_35
                  refine ls (call F Try.func16 (lan_Lan_Many_ok (H) e43) rfl rfl fun v w hR a F => ?_)
                  obtain ⟨rfl, H⟩ := hR
                  refine ls (qv F (r_eq (F.ev (x := .tmp 67) rfl) (F.ev (x := .const (.int .i64 2048)) rfl)) fun a F => ?_)
                  refine ls (qv F (r_pickT (F.ev (x := .tmp 64) rfl) (F.ev (x := .tmp 68) rfl)) fun a F => ?_)
                  refine mv F rfl fun a F => ?_
                  by_cases c44 : x42 = 2048
                  · rw [if_pos c44] at k_35
                    rw [decide_eq_true c44] at F
                    refine mv F rfl fun a F => ?_
                    refine mv F rfl fun a F => ?_
                    refine ls (qv F (r_sub (F.ev (x := .const (.int .i64 1)) rfl) (F.ev (x := .tmp 72) rfl)) fun a F => ?_)
                    obtain ⟨x45, e46, k_35⟩ := Option.bind_eq_some_iff.1 k_35
                    try dsimp only at k_35
                    refine ls (call F Try.func16 (lan_Lan_Many_ok (H) e46) rfl rfl fun v w hR a F => ?_)
                    obtain ⟨rfl, H⟩ := hR
                    refine ls (qv F (r_eq (F.ev (x := .tmp 74) rfl) (F.ev (x := .const (.int .i64 1)) rfl)) fun a F => ?_)
                    refine ls (qv F (r_pickT (F.ev (x := .tmp 70) rfl) (F.ev (x := .tmp 75) rfl)) fun a F => ?_)
                    refine as_ F rfl fun a F => ?_
                    refine wpList_nil ?_
                    replace F := F.only [4] (l' := [(4, .bool (decide (x45 = 1)))]) rfl
                    try dsimp only at k_35
                    cases k_35
                    exact ⟨_, rfl, F.only [4] rfl, H.px2.px1.px0.fx1⟩
                  · rw [if_neg c44] at k_35
                    rw [decide_eq_false c44] at F
                    refine ls (off F fun a F => ?_)
                    refine ls (off F fun a F => ?_)
                    refine ls (off F fun a F => ?_)
                    refine ls (off F fun a F => ?_)
                    refine ls (off F fun a F => ?_)
                    refine ls (qv F (r_pickF (F.ev (x := .tmp 70) rfl) (F.ev (x := .const (.bool false)) rfl)) fun a F => ?_)
                    refine as_ F rfl fun a F => ?_
                    refine wpList_nil ?_
                    replace F := F.only [4] (l' := [(4, .bool false)]) rfl
                    try dsimp only at k_35
                    cases k_35
                    exact ⟨_, rfl, F.only [4] rfl, H.px2.px1.px0.fx1⟩
                · rw [if_neg c41] at k_35
                  rw [Bool.eq_false_iff.2 c41] at F
                  refine ls (off F fun a F => ?_)
                  refine ls (off F fun a F => ?_)
                  refine ls (off F fun a F => ?_)
                  refine ls (off F fun a F => ?_)
                  refine ls (qv F (r_pickF (F.ev (x := .tmp 64) rfl) (F.ev (x := .const (.bool false)) rfl)) fun a F => ?_)
                  refine mv F rfl fun a F => ?_
                  refine ls (off F fun a F => ?_)
                  refine ls (off F fun a F => ?_)
                  refine ls (off F fun a F => ?_)
                  refine ls (off F fun a F => ?_)
                  refine ls (off F fun a F => ?_)
                  refine ls (qv F (r_pickF (F.ev (x := .tmp 70) rfl) (F.ev (x := .const (.bool false)) rfl)) fun a F => ?_)
                  refine as_ F rfl fun a F => ?_
                  refine wpList_nil ?_
                  replace F := F.only [4] (l' := [(4, .bool false)]) rfl
                  try dsimp only at k_35
                  cases k_35
                  exact ⟨_, rfl, F.only [4] rfl, H.px2.px1.px0.fx1⟩
              · rw [if_neg c40] at k_35
                rw [Bool.eq_false_iff.2 c40] at F
                refine ls (off F fun a F => ?_)
                refine ls (qv F (r_pickF (F.ev (x := .tmp 61) rfl) (F.ev (x := .const (.bool false)) rfl)) fun a F => ?_)
                refine mv F rfl fun a F => ?_
                refine ls (off F fun a F => ?_)
                refine ls (off F fun a F => ?_)
                refine ls (off F fun a F => ?_)
                refine ls (off F fun a F => ?_)
                refine ls (qv F (r_pickF (F.ev (x := .tmp 64) rfl) (F.ev (x := .const (.bool false)) rfl)) fun a F => ?_)
                refine mv F rfl fun a F => ?_
                refine ls (off F fun a F => ?_)
                refine ls (off F fun a F => ?_)
                refine ls (off F fun a F => ?_)
                refine ls (off F fun a F => ?_)
                refine ls (off F fun a F => ?_)
                refine ls (qv F (r_pickF (F.ev (x := .tmp 70) rfl) (F.ev (x := .const (.bool false)) rfl)) fun a F => ?_)
                refine as_ F rfl fun a F => ?_
                refine wpList_nil ?_
                replace F := F.only [4] (l' := [(4, .bool false)]) rfl
                try dsimp only at k_35
                cases k_35
                exact ⟨_, rfl, F.only [4] rfl, H.px2.px1.px0.fx1⟩
            · rw [if_neg c39] at k_35
              rw [Bool.eq_false_iff.2 c39] at F
              refine ls (off F fun a F => ?_)
              refine ls (qv F (r_pickF (F.ev (x := .tmp 58) rfl) (F.ev (x := .const (.bool false)) rfl)) fun a F => ?_)
              refine mv F rfl fun a F => ?_
              refine ls (off F fun a F => ?_)
              refine ls (qv F (r_pickF (F.ev (x := .tmp 61) rfl) (F.ev (x := .const (.bool false)) rfl)) fun a F => ?_)
              refine mv F rfl fun a F => ?_
              refine ls (off F fun a F => ?_)
              refine ls (off F fun a F => ?_)
              refine ls (off F fun a F => ?_)
              refine ls (off F fun a F => ?_)
              refine ls (qv F (r_pickF (F.ev (x := .tmp 64) rfl) (F.ev (x := .const (.bool false)) rfl)) fun a F => ?_)
              refine mv F rfl fun a F => ?_
              refine ls (off F fun a F => ?_)
              refine ls (off F fun a F => ?_)
              refine ls (off F fun a F => ?_)
              refine ls (off F fun a F => ?_)
              refine ls (off F fun a F => ?_)
              refine ls (qv F (r_pickF (F.ev (x := .tmp 70) rfl) (F.ev (x := .const (.bool false)) rfl)) fun a F => ?_)
              refine as_ F rfl fun a F => ?_
              refine wpList_nil ?_
              replace F := F.only [4] (l' := [(4, .bool false)]) rfl
              try dsimp only at k_35
              cases k_35
              exact ⟨_, rfl, F.only [4] rfl, H.px2.px1.px0.fx1⟩
        · rw [if_neg c37] at k_35
          rw [Bool.eq_false_iff.2 c37] at F
          refine ls (off F fun a F => ?_)
          refine ls (off F fun a F => ?_)
          refine ls (qv F (r_pickF (F.ev (x := .tmp 51) rfl) (F.ev (x := .const (.bool false)) rfl)) fun a F => ?_)
          refine mv F rfl fun a F => ?_
          refine ls (off F fun a F => ?_)
          refine ls (qv F (r_pickF (F.ev (x := .tmp 55) rfl) (F.ev (x := .const (.bool false)) rfl)) fun a F => ?_)
          refine mv F rfl fun a F => ?_
          refine ls (off F fun a F => ?_)
          refine ls (qv F (r_pickF (F.ev (x := .tmp 58) rfl) (F.ev (x := .const (.bool false)) rfl)) fun a F => ?_)
          refine mv F rfl fun a F => ?_
          refine ls (off F fun a F => ?_)
          refine ls (qv F (r_pickF (F.ev (x := .tmp 61) rfl) (F.ev (x := .const (.bool false)) rfl)) fun a F => ?_)
          refine mv F rfl fun a F => ?_
          refine ls (off F fun a F => ?_)
          refine ls (off F fun a F => ?_)
          refine ls (off F fun a F => ?_)
          refine ls (off F fun a F => ?_)
          refine ls (qv F (r_pickF (F.ev (x := .tmp 64) rfl) (F.ev (x := .const (.bool false)) rfl)) fun a F => ?_)
          refine mv F rfl fun a F => ?_
          refine ls (off F fun a F => ?_)
          refine ls (off F fun a F => ?_)
          refine ls (off F fun a F => ?_)
          refine ls (off F fun a F => ?_)
          refine ls (off F fun a F => ?_)
          refine ls (qv F (r_pickF (F.ev (x := .tmp 70) rfl) (F.ev (x := .const (.bool false)) rfl)) fun a F => ?_)
          refine as_ F rfl fun a F => ?_
          refine wpList_nil ?_
          replace F := F.only [4] (l' := [(4, .bool false)]) rfl
          try dsimp only at k_35
          cases k_35
          exact ⟨_, rfl, F.only [4] rfl, H.px2.px1.px0.fx1⟩
      · rintro a w ⟨x35, rfl, F, H⟩
        try dsimp only at h F H
        refine wp_ret ?_
        try dsimp only at h
        cases h
        exact RET _ _ (ret1 F rfl rfl ⟨_, rfl, rfl, H.fx0⟩)
end Go.Proofs.Ytflkagoglhckoaa
