/- What the functions compute. Printed by wip/gen. -/
import Derived.Test.YtflkagoglhckoaaGL
set_option linter.unusedVariables false
set_option linter.unusedSimpArgs false
namespace Go.Proofs.Ytflkagoglhckoaa
open Go Go.RowKit
def law22_LanOwn_b0 (a1 : Int) : ((List Int) × Int) → Option ((List Int) × Int ⊕ Unit)
  | (x19, x22) => (if x22 < (x19.length : Int) then (if 0 ≤ x22 ∧ x22 < (x19.length : Int) then some (.inl ((x19.set (x22 : Int).toNat (IntKind.u8.wrap (a1 + 1))), IntKind.i64.wrap (x22 + 1))) else none) else some (.inr ()))
def law22_LanOwn_f (a0 : Int) (a1 : Int) : Option (Bool) :=
  ((law22_head_f).bind fun x1 => ((lan_Lan_Put_bor_f ((⟨(⟨[]⟩, ⟨[]⟩)⟩ : lan_Lan)) 1 ([a0, a1])).bind fun (x5, x6) => (if 0 ≤ (0 : Int) ∧ (0 : Int) < (([a0, a1]).length : Int) then ((lan_Lan_Copy_f x6 1 0).bind fun (x13, x14, x15) => ((lp (law22_LanOwn_b0 a1) (x13, 0)).bind fun _ => ((lan_Lan_Take_f x15 1 0).bind fun (x30, x31, x32) => ((if x1 = true then (if x31 = true then some ((decide (x30 = [a0, a1]))) else some false) else some false).bind fun x36 => some x36)))) else none)))
set_option maxHeartbeats 4000000 in
set_option maxRecDepth 20000 in
theorem law22_LanOwn_ok {w0 w : World} {ps : List PF} {fs : List SF} {a0 : Int} {a1 : Int} {r0 : Bool} (H : Hp w0 ps fs w) (h : law22_LanOwn_f a0 a1 = some r0) (ha0 : 0 ≤ a0 ∧ a0 < 256) (ha1 : 0 ≤ a1 ∧ a1 < 256) :
    Calls Try.prog 7 [.int .u8 a0, .int .u8 a1].toArray w fun e w' => ∃ v, e = .returned v ∧ v = .bool r0 ∧ Hp w0 ps fs w' := by
  refine enter [.int .u8 a0, .int .u8 a1] 60 Try.func7 fun Q a NP RET NRM F => ?_
  replace NP : ∀ c a w, ¬ Q (.panic c) a w := fun c a w h => by rcases NP c a w h with h | ⟨w, v, h, _⟩ <;> cases h
  unfold law22_LanOwn_f at h
  refine rg ?_
  refine as_ F (v := .bool false) rfl fun a F => ?_
  refine rgend ?_
  refine rg ?_
  obtain ⟨x1, e2, h⟩ := Option.bind_eq_some_iff.1 h
  try dsimp only at h
  refine ls (call F Try.func8 (law22_head_ok (H) e2) rfl rfl fun v w hR a F => ?_)
  obtain ⟨rfl, H⟩ := hR
  refine as_ F rfl fun a F => ?_
  refine rgend ?_
  refine rg ?_
  refine ls (lbd F (vs := []) (cs := [.slice none 0 0, .slice none 0 0]) rfl (fun w => by kernel_rfl) fun a F => ?_)
  refine ls (lbox F H rfl (cs := [.slice none 0 0, .slice none 0 0]) rfl fun g3 w a H F => ?_)
  refine as_ F rfl fun a F => ?_
  refine rgend ?_
  refine rg ?_
  refine mv F rfl fun a F => ?_
  refine mv F rfl fun a F => ?_
  refine ls (lbs F H (e := 5) (vs := [(0, .int .u8 a0), (1, .int .u8 a1)]) (cs := [.int .u8 a0, .int .u8 a1]) rfl (fun w => by kernel_rfl) fun g4 w a H F => ?_)
  refine as_ F rfl fun a F => ?_
  refine rgend ?_
  replace F := F.only [7, 6, 5, 4, 0, 1] (l' := [(7, .slice (some ⟨g4, 0, none⟩) 2 2), (6, .pointer (some ⟨g3, 0, none⟩)), (5, .bool x1), (4, .bool false), (0, .int .u8 a0), (1, .int .u8 a1)]) rfl
  refine rg ?_
  refine mv F rfl fun a F => ?_
  refine mv F rfl fun a F => ?_
  replace H := H.nilOwn (kSlice kByte) 35
  replace H := H.nilOwn (kSlice kByte) 35
  replace H := Hp.closeO_lan_Lan (x := (⟨(⟨[]⟩, ⟨[]⟩)⟩ : lan_Lan)) (H.f2.f2.f2.f3)
  replace H := Hp.litOwn (kd := kByte) (xs := [a0, a1]) (H.f1) ((SayL.cons (kd := kByte) (c1 := [.int .u8 a0]) (y := a0) (fun Z hp => ⟨rfl, ha0⟩) (SayL.cons (kd := kByte) (c1 := [.int .u8 a1]) (y := a1) (fun Z hp => ⟨rfl, ha1⟩) SayL.nil))) (Nat.le_of_ble_eq_true rfl)
  obtain ⟨⟨x5, x6⟩, e7, h⟩ := Option.bind_eq_some_iff.1 h
  try dsimp only at h
  refine ls (call F Try.func14 (lan_Lan_Put_bor_ok (H.f1) e7) rfl rfl fun v w hR a F => ?_)
  obtain ⟨rfl, H⟩ := hR
  refine rgend ?_
  refine rg ?_
  refine mv F rfl fun a F => ?_
  refine mv F rfl fun a F => ?_
  refine ls (qv F (r_add (F.ev (x := .tmp 23) rfl) (F.ev (x := .const (.int .u8 1)) rfl)) fun a F => ?_)
  obtain ⟨c8, h⟩ := guardO h
  obtain ⟨g9, s10, hA, hr, hl11, H⟩ := H.ixOwn2 0 1 rfl (F.ev (x := .tmp 22) rfl) (F.ev (x := .const (.int .i64 0)) rfl) Try.underlying35 sz5 (by decide) c8.1 c8.2
  cases hA
  obtain ⟨rfl, hr12⟩ := H.says_byte 0 rfl
  refine ls (qv F (hr _ _ _ _ _ _) fun a F => ?_)
  obtain ⟨_, hr, H⟩ := Hp.setOwn (kd := kByte) (xs := [a0, a1]) (j := (0 : Int).toNat) (x1 := IntKind.u8.wrap (a0 + 1)) (H.f1) (F.ev (x := .tmp 25) rfl) (F.ev (x := .tmp 24) rfl) rfl sz5 (by have := c8; omega) (fun Z hp => ⟨rfl, (wrap_u8 _)⟩)
  refine ls (qn F (.inl rfl) (hr _ _ _ _) fun a F => ?_)
  refine rgend ?_
  replace F := F.only [6, 5, 4, 0, 1] (l' := [(6, .pointer (some ⟨g3, 0, none⟩)), (5, .bool x1), (4, .bool false), (0, .int .u8 a0), (1, .int .u8 a1)]) rfl
  refine rg ?_
  refine mv F rfl fun a F => ?_
  obtain ⟨⟨x13, x14, x15⟩, e16, h⟩ := Option.bind_eq_some_iff.1 h
  try dsimp only at h
  refine ls (call F Try.func12 (lan_Lan_Copy_ok (H.f1) e16) rfl rfl fun v w hR a F => ?_)
  obtain ⟨A17, c18, rfl, H⟩ := hR
  refine mv F rfl fun a F => ?_
  refine ls (qv F (r_ex (F.ev (x := .tmp 26) rfl) rfl) fun a F => ?_)
  refine ls (qv F (r_ex (F.ev (x := .tmp 26) rfl) rfl) fun a F => ?_)
  refine as_ F rfl fun a F => ?_
  refine as_ F rfl fun a F => ?_
  refine rgend ?_
  replace F := F.only [8, 6, 5, 4, 0, 1] (l' := [(8, .slice A17 x13.length c18), (6, .pointer (some ⟨g3, 0, none⟩)), (5, .bool x1), (4, .bool false), (0, .int .u8 a0), (1, .int .u8 a1)]) rfl
  refine wp_seq ?_
  refine rg ?_
  refine as_ F (v := .int .i64 0) rfl fun a F => ?_
  refine rgend ?_
  obtain ⟨o_22, k_22, h⟩ := Option.bind_eq_some_iff.1 h
  refine cut (fun a w => () = o_22 ∧ Fr 60 [] [(0, .int .u8 a0), (1, .int .u8 a1), (4, .bool false), (5, .bool x1), (6, .pointer (some ⟨g3, 0, none⟩))] a ∧ Hp w0 ps (obj_lan_Lan g3 x15 :: fs) w) (wp_block ?_) ?_
  · refine wloop (law22_LanOwn_b0 a1) (fun (s : (List Int) × Int) a w => ∃ (A20 : Option Addr) (c21 : Nat), Fr 60 [] [(0, .int .u8 a0), (1, .int .u8 a1), (4, .bool false), (5, .bool x1), (6, .pointer (some ⟨g3, 0, none⟩)), (8, .slice A20 s.1.length c21), (10, .int .i64 s.2)] a ∧ Hp w0 ps (own kByte 5 A20 c21 s.1 :: obj_lan_Lan g3 x15 :: fs) w) k_22 ⟨A17, c18, F.only [0, 1, 4, 5, 6, 8, 10] rfl, H.px0.fx2⟩ ?_
    rintro ⟨x19, x22⟩ a w q_22 j_22 u_22 ⟨A20, c21, F, H⟩
    unfold law22_LanOwn_b0 at j_22
    try dsimp only at j_22 F H
    refine wp_seq ?_
    refine rg ?_
    refine mv F rfl fun a F => ?_
    refine mv F rfl fun a F => ?_
    refine ls (qv F (r_len (F.ev (x := .tmp 32) rfl) Try.underlying35) fun a F => ?_)
    refine ls (qv F (r_lt (F.ev (x := .tmp 31) rfl) (F.ev (x := .tmp 33) rfl)) fun a F => ?_)
    refine rgend ?_
    by_cases c24 : x22 < (x19.length : Int)
    · rw [if_pos c24] at j_22
      rw [decide_eq_true c24] at F
      refine wp_cond_true (F.ev rfl) ?_
      refine wp_skip ?_
      refine wp_seq ?_
      refine wp_block ?_
      refine wp_region_lit ?_
      refine mv F rfl fun a F => ?_
      refine mv F rfl fun a F => ?_
      refine mv F rfl fun a F => ?_
      refine ls (qv F (r_add (F.ev (x := .tmp 39) rfl) (F.ev (x := .const (.int .u8 1)) rfl)) fun a F => ?_)
      obtain ⟨c25, j_22⟩ := guardO j_22
      obtain ⟨g26, s27, hA, hr, hl28, H⟩ := H.ixOwn2 0 0 rfl (F.ev (x := .tmp 37) rfl) (F.ev (x := .tmp 38) rfl) Try.underlying35 sz5 (by decide) c25.1 c25.2
      cases hA
      obtain ⟨rfl, hr29⟩ := H.says_byte 0 rfl
      refine ls (qv F (hr _ _ _ _ _ _) fun a F => ?_)
      obtain ⟨_, hr, H⟩ := Hp.setOwn (kd := kByte) (xs := x19) (j := (x22 : Int).toNat) (x1 := IntKind.u8.wrap (a1 + 1)) (H) (F.ev (x := .tmp 41) rfl) (F.ev (x := .tmp 40) rfl) rfl sz5 (by have := c25; omega) (fun Z hp => ⟨rfl, (wrap_u8 _)⟩)
      refine ls (qn F (.inl rfl) (hr _ _ _ _) fun a F => ?_)
      replace F := F.only [41, 40, 39, 38, 37, 34, 33, 32, 31, 0, 1, 4, 5, 6, 8, 10] (l' := [(41, .pointer (some ⟨g26, (x22 : Int).toNat * kByte.sz, none⟩)), (40, .int .u8 (IntKind.u8.wrap (a1 + 1))), (39, .int .u8 a1), (38, .int .i64 x22), (37, .slice (some ⟨g26, 0, none⟩) ((x19.set (x22 : Int).toNat (IntKind.u8.wrap (a1 + 1)))).length c21), (34, .bool true), (33, .int .i64 (x19.length : Int)), (32, .slice (some ⟨g26, 0, none⟩) ((x19.set (x22 : Int).toNat (IntKind.u8.wrap (a1 + 1)))).length c21), (31, .int .i64 x22), (0, .int .u8 a0), (1, .int .u8 a1), (4, .bool false), (5, .bool x1), (6, .pointer (some ⟨g3, 0, none⟩)), (8, .slice (some ⟨g26, 0, none⟩) ((x19.set (x22 : Int).toNat (IntKind.u8.wrap (a1 + 1)))).length c21), (10, .int .i64 x22)]) (by (try simp only [List.length_set]); rfl)
      refine wpList_nil ?_
      refine wp_region_lit ?_
      refine mv F rfl fun a F => ?_
      refine ls (qv F (r_add (F.ev (x := .tmp 35) rfl) (F.ev (x := .const (.int .i64 1)) rfl)) fun a F => ?_)
      refine as_ F rfl fun a F => ?_
      refine wpList_nil ?_
      try dsimp only at j_22
      cases j_22
      exact ⟨_, rfl, (some ⟨g26, 0, none⟩), c21, F.only [0, 1, 4, 5, 6, 8, 10] rfl, H.px0⟩
    · rw [if_neg c24] at j_22
      rw [decide_eq_false c24] at F
      refine wp_cond_false (F.ev rfl) ?_
      refine wp_exit ?_
      try dsimp only at j_22
      cases j_22
      cases u_22 _ rfl
      repeat (with_reducible refine exT ?_)
      with_reducible refine exB ?_
      exact ⟨rfl, F.only [0, 1, 4, 5, 6] rfl, H.fx0⟩
  · rintro a w ⟨rfl, F, H⟩
    try dsimp only at h F H
    refine rg ?_
    refine mv F rfl fun a F => ?_
    obtain ⟨⟨x30, x31, x32⟩, e33, h⟩ := Option.bind_eq_some_iff.1 h
    try dsimp only at h
    refine ls (call F Try.func10 (lan_Lan_Take_ok (H) e33) rfl rfl fun v w hR a F => ?_)
    obtain ⟨A34, c35, rfl, H⟩ := hR
    refine mv F rfl fun a F => ?_
    refine ls (qv F (r_ex (F.ev (x := .tmp 42) rfl) rfl) fun a F => ?_)
    refine ls (qv F (r_ex (F.ev (x := .tmp 42) rfl) rfl) fun a F => ?_)
    refine as_ F rfl fun a F => ?_
    refine as_ F rfl fun a F => ?_
    refine rgend ?_
    replace F := F.only [12, 11, 0, 1, 4, 5] (l' := [(12, .bool x31), (11, .slice A34 x30.length c35), (0, .int .u8 a0), (1, .int .u8 a1), (4, .bool false), (5, .bool x1)]) rfl
    refine wp_seq ?_
    obtain ⟨o_36, k_36, h⟩ := Option.bind_eq_some_iff.1 h
    refine cut (fun a w => ∃ (x36 : Bool), x36 = o_36 ∧ Fr 60 [] [(4, .bool x36)] a ∧ Hp w0 ps (obj_lan_Lan g3 x32 :: fs) w) ?_ ?_
    · skip
      refine wp_region_lit ?_
      refine mv F rfl fun a F => ?_
      refine mv F rfl fun a F => ?_
      by_cases c38 : x1 = true
      · rw [if_pos c38] at k_36
        rw [c38] at F
        refine mv F rfl fun a F => ?_
        refine ls (qv F (r_pickT (F.ev (x := .tmp 48) rfl) (F.ev (x := .tmp 49) rfl)) fun a F => ?_)
        refine mv F rfl fun a F => ?_
        by_cases c39 : x31 = true
        · rw [if_pos c39] at k_36
          rw [c39] at F
          refine mv F rfl fun a F => ?_
          replace H := (H).freeze
          have hb40 := H.bytes 0 rfl
          refine ls (qv F (H.str 0 rfl (F.ev (x := .tmp 52) rfl) Try.underlying35 Try.underlying5 Try.underlying9) fun a F => ?_)
          refine mv F rfl fun a F => ?_
          refine mv F rfl fun a F => ?_
          refine ls (lbs F H (e := 5) (vs := [(0, .int .u8 a0), (1, .int .u8 a1)]) (cs := [.int .u8 a0, .int .u8 a1]) rfl (fun w => by kernel_rfl) fun g41 w a H F => ?_)
          replace H := Hp.litRd (kd := kByte) (xs := [a0, a1]) (H) ((SayL.cons (kd := kByte) (c1 := [.int .u8 a0]) (y := a0) (fun Z hp => ⟨rfl, ha0⟩) (SayL.cons (kd := kByte) (c1 := [.int .u8 a1]) (y := a1) (fun Z hp => ⟨rfl, ha1⟩) SayL.nil))) (Nat.le_of_ble_eq_true rfl)
          have hb42 := H.bytes 0 rfl
          refine ls (qv F (H.str 0 rfl (F.ev (x := .tmp 56) rfl) Try.underlying35 Try.underlying5 Try.underlying9) fun a F => ?_)
          refine ls (qv F (r_seq (F.ev (x := .tmp 53) rfl) (F.ev (x := .tmp 57) rfl) hb40 hb42) fun a F => ?_)
          refine ls (qv F (r_pickT (F.ev (x := .tmp 51) rfl) (F.ev (x := .tmp 58) rfl)) fun a F => ?_)
          refine as_ F rfl fun a F => ?_
          refine wpList_nil ?_
          replace F := F.only [4] (l' := [(4, .bool (decide (x30 = [a0, a1])))]) rfl
          try dsimp only at k_36
          cases k_36
          exact ⟨_, rfl, F.only [4] rfl, H.px1.px0⟩
        · rw [if_neg c39] at k_36
          rw [Bool.eq_false_iff.2 c39] at F
          refine ls (off F fun a F => ?_)
          refine ls (off F fun a F => ?_)
          refine ls (off F fun a F => ?_)
          refine ls (off F fun a F => ?_)
          refine ls (off F fun a F => ?_)
          refine ls (off F fun a F => ?_)
          refine ls (off F fun a F => ?_)
          refine ls (qv F (r_pickF (F.ev (x := .tmp 51) rfl) (F.ev (x := .const (.bool false)) rfl)) fun a F => ?_)
          refine as_ F rfl fun a F => ?_
          refine wpList_nil ?_
          replace F := F.only [4] (l' := [(4, .bool false)]) rfl
          try dsimp only at k_36
          cases k_36
          exact ⟨_, rfl, F.only [4] rfl, H.fx0⟩
      · rw [if_neg c38] at k_36
        rw [Bool.eq_false_iff.2 c38] at F
        refine ls (off F fun a F => ?_)
        refine ls (qv F (r_pickF (F.ev (x := .tmp 48) rfl) (F.ev (x := .const (.bool false)) rfl)) fun a F => ?_)
        refine mv F rfl fun a F => ?_
        refine ls (off F fun a F => ?_)
        refine ls (off F fun a F => ?_)
        refine ls (off F fun a F => ?_)
        refine ls (off F fun a F => ?_)
        refine ls (off F fun a F => ?_)
        refine ls (off F fun a F => ?_)
        refine ls (off F fun a F => ?_)
        refine ls (qv F (r_pickF (F.ev (x := .tmp 51) rfl) (F.ev (x := .const (.bool false)) rfl)) fun a F => ?_)
        refine as_ F rfl fun a F => ?_
        refine wpList_nil ?_
        replace F := F.only [4] (l' := [(4, .bool false)]) rfl
        try dsimp only at k_36
        cases k_36
        exact ⟨_, rfl, F.only [4] rfl, H.fx0⟩
    · rintro a w ⟨x36, rfl, F, H⟩
      try dsimp only at h F H
      refine wp_ret ?_
      try dsimp only at h
      cases h
      exact RET _ _ (ret1 F rfl rfl ⟨_, rfl, rfl, H.fx0⟩)
end Go.Proofs.Ytflkagoglhckoaa
