/- What the functions compute. Printed by wip/gen. -/
import Derived.Test.YtdkdaggpfgajlaaGF
import Derived.Test.YtdkdaggpfgajlaaDiskRead
set_option linter.unusedVariables false
set_option linter.unusedSimpArgs false
namespace Go.Proofs.Ytdkdaggpfgajlaa
open Go Go.RowKit
def sector_Get_b4 (a0 : List Int) : (Int × Int × Int) → Option (Int × Int × Int ⊕ Int × Int)
  | (x68, x69, x70) => (if x69 < 1 then (if 0 ≤ x70 ∧ x70 < (a0.length : Int) then some (.inl (orI .i64 (IntKind.i64.wrap (x68 * 2 ^ (8))) (IntKind.i64.wrap (a0.getD (x70 : Int).toNat 0)), IntKind.i64.wrap (x69 + 1), IntKind.i64.wrap (x70 + 1))) else none) else some (.inr (x68, x70)))
def sector_Get_b3 (a0 : List Int) : (Int × Int × Int) → Option (Int × Int × Int ⊕ Int × Int)
  | (x52, x53, x54) => (if x53 < 2 then (if 0 ≤ x54 ∧ x54 < (a0.length : Int) then some (.inl (orI .i64 (IntKind.i64.wrap (x52 * 2 ^ (8))) (IntKind.i64.wrap (a0.getD (x54 : Int).toNat 0)), IntKind.i64.wrap (x53 + 1), IntKind.i64.wrap (x54 + 1))) else none) else some (.inr (x52, x54)))
def sector_Get_b2 (a0 : List Int) : (Int × Int × Int) → Option (Int × Int × Int ⊕ Int × Int)
  | (x37, x38, x39) => (if x38 < 1 then (if 0 ≤ x39 ∧ x39 < (a0.length : Int) then some (.inl (orI .i64 (IntKind.i64.wrap (x37 * 2 ^ (8))) (IntKind.i64.wrap (a0.getD (x39 : Int).toNat 0)), IntKind.i64.wrap (x38 + 1), IntKind.i64.wrap (x39 + 1))) else none) else some (.inr (x37, x39)))
def sector_Get_b1 (a0 : List Int) : (Int × Int × Int) → Option (Int × Int × Int ⊕ Int × Int)
  | (x22, x23, x24) => (if x23 < 2 then (if 0 ≤ x24 ∧ x24 < (a0.length : Int) then some (.inl (orI .i64 (IntKind.i64.wrap (x22 * 2 ^ (8))) (IntKind.i64.wrap (a0.getD (x24 : Int).toNat 0)), IntKind.i64.wrap (x23 + 1), IntKind.i64.wrap (x24 + 1))) else none) else some (.inr (x22, x24)))
def sector_Get_b0 (a0 : List Int) : (Int × Int) → Option (Int × Int ⊕ Int × Int)
  | (x8, x9) => (if x9 < 8 then (if 0 ≤ x9 ∧ x9 < (a0.length : Int) then some (.inl (orI .i64 (IntKind.i64.wrap (x8 * 2 ^ (8))) (IntKind.i64.wrap (a0.getD (x9 : Int).toNat 0)), IntKind.i64.wrap (x9 + 1))) else none) else some (.inr (x8, x9)))
def sector_Get_f (a0 : List Int) : Option (api_Sector × Bool) :=
  (if (a0.length : Int) ≠ 64 then some (((⟨0, 0, 0, 0, []⟩ : api_Sector), false)) else ((((lp (sector_Get_b0 a0) (0, 0)).bind fun (x10, x11) => some (x10, x11)) : Option (Int × Int)).bind fun (x5, x6) => ((((lp (sector_Get_b1 a0) (0, 0, x6)).bind fun (x25, x26) => some (x25, x26)) : Option (Int × Int)).bind fun (x19, x20) => ((((lp (sector_Get_b2 a0) (0, 0, x20)).bind fun (x40, x41) => some (x40, x41)) : Option (Int × Int)).bind fun (x34, x35) => ((((lp (sector_Get_b3 a0) (0, 0, x35)).bind fun (x55, x56) => some (x55, x56)) : Option (Int × Int)).bind fun (x49, x50) => ((((lp (sector_Get_b4 a0) (0, 0, x50)).bind fun (x71, x72) => some (x71, x72)) : Option (Int × Int)).bind fun (x65, x66) => (if 0 ≤ (14 : Int) ∧ (14 : Int) ≤ IntKind.i64.wrap (14 + (min x65 50)) ∧ IntKind.i64.wrap (14 + (min x65 50)) ≤ (a0.length : Int) then (if (0 + (((a0.take (IntKind.i64.wrap (14 + (min x65 50))).toNat).drop ((14 : Int)).toNat)).length) * 1 ≤ 140737488355328 then ((((sector_Right_f ((⟨x5, x19, x34, x49, ((a0.take (IntKind.i64.wrap (14 + (min x65 50))).toNat).drop ((14 : Int)).toNat)⟩ : api_Sector))).bind fun x88 => (if x88 = true then (if 64 ≤ a0.length then ((sector_bytes_f ((⟨x5, x19, x34, x49, ((a0.take (IntKind.i64.wrap (14 + (min x65 50))).toNat).drop ((14 : Int)).toNat)⟩ : api_Sector))).bind fun x94 => some ((decide (x94.l ≠ ((Arr.of 64 (a0.take 64))).l)))) else none) else some true)) : Option (Bool)).bind fun x86 => (if x86 = true then some (((⟨0, 0, 0, 0, []⟩ : api_Sector), false)) else some (((⟨x5, x19, x34, x49, ((a0.take (IntKind.i64.wrap (14 + (min x65 50))).toNat).drop ((14 : Int)).toNat)⟩ : api_Sector), true)))) else none) else none)))))))
set_option maxHeartbeats 4000000 in
set_option maxRecDepth 20000 in
theorem sector_Get_ok {w0 w : World} {ps : List PF} {fs : List SF} {a0 : List Int} {A0_ : Option Addr} {c0_ : Nat} {r0 : api_Sector} {r1 : Bool} (H : Hp w0 (rd kByte A0_ c0_ a0 :: ps) fs w) (h : sector_Get_f a0 = some (r0, r1)) :
    Calls Try.prog 64 [.slice A0_ a0.length c0_].toArray w fun e w' => ∃ v, e = .returned v ∧ ∃ (A0_4 : Option Addr) (c0_4 : Nat), v = .tuple #[.agg #[.int .i64 r0.Gen, .int .i64 r0.Place, .int .i64 r0.Parts, .int .i64 r0.Kept, .slice A0_4 r0.Body.length c0_4], .bool r1] ∧ Hp w0 (rd kByte A0_4 c0_4 r0.Body :: ps) fs w' := by
  refine enter [.slice A0_ a0.length c0_] 44 Try.func64 fun Q a NP RET NRM F => ?_
  replace NP : ∀ c a w, ¬ Q (.panic c) a w := fun c a w h => by rcases NP c a w h with h | ⟨w, v, h, _⟩ <;> cases h
  unfold sector_Get_f at h
  refine rg ?_
  refine ls (lbox F H rfl (cs := [.slice A0_ a0.length c0_]) rfl fun g1 w a H F => ?_)
  refine ls (lal F H ti26 (cs := [.int .i64 0, .int .i64 0, .int .i64 0, .int .i64 0, .slice none 0 0]) rfl fun g2 w a H F => ?_)
  refine as_ F (v := .bool false) rfl fun a F => ?_
  refine rgend ?_
  refine wp_seq ?_
  refine rg ?_
  refine ls (qv F (r_ld (F.ev (x := .tmp 1) rfl) (cel_cell (o := 0) (H.cell 1 rfl) rfl) one23) fun a F => ?_)
  refine ls (qv F (r_len (F.ev (x := .tmp 7) rfl) Try.underlying23) fun a F => ?_)
  refine ls (qv F (r_ne (F.ev (x := .tmp 8) rfl) (F.ev (x := .const (.int .i64 64)) rfl)) fun a F => ?_)
  refine rgend ?_
  replace F := F.only [9, 2, 1] (l' := [(9, .bool (decide ((a0.length : Int) ≠ 64))), (2, .pointer (some ⟨g2, 0, none⟩)), (1, .pointer (some ⟨g1, 0, none⟩))]) rfl
  by_cases c3 : (a0.length : Int) ≠ 64
  · rw [if_pos c3] at h
    rw [decide_eq_true c3] at F
    refine wp_cond_true (F.ev rfl) ?_
    refine rg ?_
    refine ls (lbd F (vs := []) (cs := [.int .i64 0, .int .i64 0, .int .i64 0, .int .i64 0, .slice none 0 0]) rfl (fun w => by kernel_rfl) fun a F => ?_)
    obtain ⟨_, hr, H⟩ := Hp.store (t := 26) (o := 0) (n := 5) (vs := [.int .i64 0, .int .i64 0, .int .i64 0, .int .i64 0, .slice none 0 0]) (cs' := [.int .i64 0, .int .i64 0, .int .i64 0, .int .i64 0, .slice none 0 0]) (H) (F.ev (x := .tmp 2) rfl) (F.ev (x := .tmp 10) rfl) rfl sz26 rfl (Nat.le_of_ble_eq_true rfl) rfl rfl
    refine ls (qn F (.inl rfl) (hr _ _ _ _) fun a F => ?_)
    refine as_ F (v := .bool false) rfl fun a F => ?_
    refine rgend ?_
    refine wp_ret ?_
    replace H := H.nilRd kByte
    try dsimp only at h
    obtain ⟨rfl, rfl⟩ := Prod.mk.inj (Option.some.inj h)
    exact RET _ _ (retC2 F rfl rfl rfl (ldvA (cel_range (o := 0) (n := 5) (vs := [.int .i64 0, .int .i64 0, .int .i64 0, .int .i64 0, .slice none 0 0]) (H.cell 0 rfl) rfl) agg26 rfl) ⟨_, rfl, none, 0, rfl, H.px1.fx1.fx0⟩)
  · rw [if_neg c3] at h
    rw [decide_eq_false c3] at F
    refine wp_cond_false (F.ev rfl) ?_
    refine wp_skip ?_
    refine rg ?_
    refine ls (lal F H ti3 (cs := [.int .i64 0]) rfl fun g4 w a H F => ?_)
    obtain ⟨_, hr, H⟩ := Hp.store (t := 3) (o := 0) (n := 1) (vs := [.int .i64 0]) (cs' := [.int .i64 0]) (H) (F.ev (x := .tmp 4) rfl) (F.ev (x := .const (.int .i64 0)) rfl) rfl sz3 rfl (Nat.le_of_ble_eq_true rfl) rfl rfl
    refine ls (qn F (.inl rfl) (hr _ _ _ _) fun a F => ?_)
    refine rgend ?_
    refine rg ?_
    refine ls (qv F (r_mf (f' := #[]) (c' := #[.pointer (some ⟨g1, 0, none⟩), .pointer (some ⟨g4, 0, none⟩)]) (by simp) (by rw [List.map_toArray]; exact congrArg _ (F.evs rfl))) fun a F => ?_)
    refine as_ F rfl fun a F => ?_
    refine rgend ?_
    refine rg ?_
    refine mv F rfl fun a F => ?_
    obtain ⟨o_6, k_6, h⟩ := Option.bind_eq_some_iff.1 h
    refine ls (call F Try.func71 (R := fun v w => ∃ (x5 : Int) (x6 : Int), (x5, x6) = o_6 ∧ v = .int .i64 x5 ∧ Hp w0 (rd kByte A0_ c0_ a0 :: ps) (cel g4 [.int .i64 x6] 3 :: cel g2 [.int .i64 0, .int .i64 0, .int .i64 0, .int .i64 0, .slice none 0 0] 26 :: cel g1 [.slice A0_ a0.length c0_] 23 :: fs) w) (args := [.int .i64 8, .pointer (some ⟨g1, 0, none⟩), .pointer (some ⟨g4, 0, none⟩)]) (cap := [.pointer (some ⟨g1, 0, none⟩), .pointer (some ⟨g4, 0, none⟩)]) ?_ rfl rfl ?_)
    · refine enter [.int .i64 8, .pointer (some ⟨g1, 0, none⟩), .pointer (some ⟨g4, 0, none⟩)] 21 Try.func71 fun Q a NP RET NRM F => ?_
      replace NP : ∀ c a w, ¬ Q (.panic c) a w := fun c a w h => by rcases NP c a w h with h | ⟨w, v, h, _⟩ <;> cases h
      refine rg ?_
      refine as_ F (v := .int .i64 0) rfl fun a F => ?_
      refine rgend ?_
      refine rg ?_
      refine as_ F (v := .int .i64 0) rfl fun a F => ?_
      refine rgend ?_
      refine wp_seq ?_
      refine rg ?_
      refine mv F rfl fun a F => ?_
      refine mv F (v := .int .i64 0) rfl fun a F => ?_
      refine rgend ?_
      obtain ⟨o_11, k_11, k_6⟩ := Option.bind_eq_some_iff.1 k_6
      refine cut (fun a w => ∃ (x10 : Int) (x11 : Int), (x10, x11) = o_11 ∧ Fr 21 [] [(5, .int .i64 x10)] a ∧ Hp w0 (rd kByte A0_ c0_ a0 :: ps) (cel g4 [.int .i64 x11] 3 :: cel g2 [.int .i64 0, .int .i64 0, .int .i64 0, .int .i64 0, .slice none 0 0] 26 :: cel g1 [.slice A0_ a0.length c0_] 23 :: fs) w) (wp_block ?_) ?_
      · refine wloop (sector_Get_b0 a0) (fun (s : Int × Int) a w => Fr 21 [] [(1, .pointer (some ⟨g1, 0, none⟩)), (2, .pointer (some ⟨g4, 0, none⟩)), (5, .int .i64 s.1), (6, .int .i64 8), (7, .int .i64 s.2)] a ∧ Hp w0 (rd kByte A0_ c0_ a0 :: ps) (cel g4 [.int .i64 s.2] 3 :: cel g2 [.int .i64 0, .int .i64 0, .int .i64 0, .int .i64 0, .slice none 0 0] 26 :: cel g1 [.slice A0_ a0.length c0_] 23 :: fs) w) k_11 ⟨F.only [1, 2, 5, 6, 7] rfl, H⟩ ?_
        rintro ⟨x8, x9⟩ a w q_11 j_11 u_11 ⟨F, H⟩
        unfold sector_Get_b0 at j_11
        try dsimp only at j_11 F H
        refine rg ?_
        refine ls (qv F (r_lt (F.ev (x := .tmp 7) rfl) (F.ev (x := .tmp 6) rfl)) fun a F => ?_)
        refine rgend ?_
        refine wp_seq ?_
        by_cases c13 : x9 < 8
        · rw [if_pos c13] at j_11
          rw [decide_eq_true c13] at F
          refine wp_cond_true (F.ev rfl) ?_
          refine wp_skip ?_
          refine wp_seq ?_
          refine wp_block ?_
          refine rg ?_
          refine mv F rfl fun a F => ?_
          refine ls (qv F (r_shl (F.ev (x := .tmp 9) rfl) (F.ev (x := .const (.int .u64 8)) rfl) (by decide)) fun a F => ?_)
          refine ls (qv F (r_ld (F.ev (x := .tmp 1) rfl) (cel_cell (o := 0) (H.cell 2 rfl) rfl) one23) fun a F => ?_)
          refine ls (qv F (r_ld (F.ev (x := .tmp 2) rfl) (cel_cell (o := 0) (H.cell 0 rfl) rfl) one3) fun a F => ?_)
          obtain ⟨c14, j_11⟩ := guardO j_11
          obtain ⟨g15, o16, s17, hr, H⟩ := H.ix 0 0 rfl (F.ev (x := .tmp 11) rfl) (F.ev (x := .tmp 12) rfl) Try.underlying23 sz5 (by decide) c14.1 c14.2
          obtain ⟨rfl, hr18⟩ := H.says_byte 1 rfl
          refine ls (qv F (hr _ _ _ _ _ _) fun a F => ?_)
          refine ls (qv F (r_ld (F.ev (x := .tmp 13) rfl) (range_cell (j := 0) (H.range 0 rfl) rfl) one5) fun a F => ?_)
          refine ls (qv F (r_ci (F.ev (x := .tmp 14) rfl) Try.underlying2 Try.underlying5) fun a F => ?_)
          refine ls (qv F (r_or (F.ev (x := .tmp 10) rfl) (F.ev (x := .tmp 15) rfl)) fun a F => ?_)
          refine as_ F rfl fun a F => ?_
          refine rgend ?_
          replace F := F.only [5, 1, 2, 6, 7] (l' := [(5, .int .i64 (orI .i64 (IntKind.i64.wrap (x8 * 2 ^ (8))) (IntKind.i64.wrap (a0.getD (x9 : Int).toNat 0)))), (1, .pointer (some ⟨g1, 0, none⟩)), (2, .pointer (some ⟨g4, 0, none⟩)), (6, .int .i64 8), (7, .int .i64 x9)]) rfl
          refine wp_region_lit ?_
          refine ls (qv F (r_ld (F.ev (x := .tmp 2) rfl) (cel_cell (o := 0) (H.cell 0 rfl) rfl) one3) fun a F => ?_)
          refine ls (qv F (r_add (F.ev (x := .tmp 17) rfl) (F.ev (x := .const (.int .i64 1)) rfl)) fun a F => ?_)
          obtain ⟨_, hr, H⟩ := Hp.store (t := 3) (o := 0) (n := 1) (vs := [.int .i64 (IntKind.i64.wrap (x9 + 1))]) (cs' := [.int .i64 (IntKind.i64.wrap (x9 + 1))]) (H) (F.ev (x := .tmp 2) rfl) (F.ev (x := .tmp 18) rfl) rfl sz3 rfl (Nat.le_of_ble_eq_true rfl) rfl rfl
          refine ls (qn F (.inl rfl) (hr _ _ _ _) fun a F => ?_)
          refine wpList_nil ?_
          refine wp_region_lit ?_
          refine ls (qv F (r_add (F.ev (x := .tmp 7) rfl) (F.ev (x := .const (.int .i64 1)) rfl)) fun a F => ?_)
          refine mv F rfl fun a F => ?_
          refine wpList_nil ?_
          replace F := F.only [7, 5, 1, 2, 6] (l' := [(7, .int .i64 (IntKind.i64.wrap (x9 + 1))), (5, .int .i64 (orI .i64 (IntKind.i64.wrap (x8 * 2 ^ (8))) (IntKind.i64.wrap (a0.getD (x9 : Int).toNat 0)))), (1, .pointer (some ⟨g1, 0, none⟩)), (2, .pointer (some ⟨g4, 0, none⟩)), (6, .int .i64 8)]) rfl
          try dsimp only at j_11
          obtain rfl := Option.some.inj j_11
          exact ⟨_, rfl, F.only [1, 2, 5, 6, 7] rfl, H.px1.px0⟩
        · rw [if_neg c13] at j_11
          rw [decide_eq_false c13] at F
          refine wp_cond_false (F.ev rfl) ?_
          refine wp_exit ?_
          try dsimp only at j_11
          obtain rfl := Option.some.inj j_11
          obtain rfl := u_11 _ rfl
          repeat (with_reducible refine exT ?_)
          with_reducible refine exB ?_
          exact ⟨_, _, rfl, F.only [5] rfl, H⟩
      · rintro a w ⟨x10, x11, rfl, F, H⟩
        try dsimp only at k_6 F H
        refine rg ?_
        refine mv F rfl fun a F => ?_
        refine as_ F rfl fun a F => ?_
        refine rgend ?_
        refine wp_ret ?_
        try dsimp only at k_6
        obtain rfl := Option.some.inj k_6
        exact RET _ _ (ret1 F rfl rfl ⟨_, rfl, _, _, rfl, rfl, H⟩)
    · rintro v w ⟨x5, x6, rfl, rfl, H⟩ a F
      try dsimp only at h F H
      refine mv F rfl fun a F => ?_
      obtain ⟨o_20, k_20, h⟩ := Option.bind_eq_some_iff.1 h
      refine ls (call F Try.func71 (R := fun v w => ∃ (x19 : Int) (x20 : Int), (x19, x20) = o_20 ∧ v = .int .i64 x19 ∧ Hp w0 (rd kByte A0_ c0_ a0 :: ps) (cel g4 [.int .i64 x20] 3 :: cel g2 [.int .i64 0, .int .i64 0, .int .i64 0, .int .i64 0, .slice none 0 0] 26 :: cel g1 [.slice A0_ a0.length c0_] 23 :: fs) w) (args := [.int .i64 2, .pointer (some ⟨g1, 0, none⟩), .pointer (some ⟨g4, 0, none⟩)]) (cap := [.pointer (some ⟨g1, 0, none⟩), .pointer (some ⟨g4, 0, none⟩)]) ?_ rfl rfl ?_)
      · refine enter [.int .i64 2, .pointer (some ⟨g1, 0, none⟩), .pointer (some ⟨g4, 0, none⟩)] 21 Try.func71 fun Q a NP RET NRM F => ?_
        replace NP : ∀ c a w, ¬ Q (.panic c) a w := fun c a w h => by rcases NP c a w h with h | ⟨w, v, h, _⟩ <;> cases h
        refine rg ?_
        refine as_ F (v := .int .i64 0) rfl fun a F => ?_
        refine rgend ?_
        refine rg ?_
        refine as_ F (v := .int .i64 0) rfl fun a F => ?_
        refine rgend ?_
        refine wp_seq ?_
        refine rg ?_
        refine mv F rfl fun a F => ?_
        refine mv F (v := .int .i64 0) rfl fun a F => ?_
        refine rgend ?_
        obtain ⟨o_26, k_26, k_20⟩ := Option.bind_eq_some_iff.1 k_20
        refine cut (fun a w => ∃ (x25 : Int) (x26 : Int), (x25, x26) = o_26 ∧ Fr 21 [] [(5, .int .i64 x25)] a ∧ Hp w0 (rd kByte A0_ c0_ a0 :: ps) (cel g4 [.int .i64 x26] 3 :: cel g2 [.int .i64 0, .int .i64 0, .int .i64 0, .int .i64 0, .slice none 0 0] 26 :: cel g1 [.slice A0_ a0.length c0_] 23 :: fs) w) (wp_block ?_) ?_
        · refine wloop (sector_Get_b1 a0) (fun (s : Int × Int × Int) a w => Fr 21 [] [(1, .pointer (some ⟨g1, 0, none⟩)), (2, .pointer (some ⟨g4, 0, none⟩)), (5, .int .i64 s.1), (6, .int .i64 2), (7, .int .i64 s.2.1)] a ∧ Hp w0 (rd kByte A0_ c0_ a0 :: ps) (cel g4 [.int .i64 s.2.2] 3 :: cel g2 [.int .i64 0, .int .i64 0, .int .i64 0, .int .i64 0, .slice none 0 0] 26 :: cel g1 [.slice A0_ a0.length c0_] 23 :: fs) w) k_26 ⟨F.only [1, 2, 5, 6, 7] rfl, H⟩ ?_
          rintro ⟨x22, x23, x24⟩ a w q_26 j_26 u_26 ⟨F, H⟩
          unfold sector_Get_b1 at j_26
          try dsimp only at j_26 F H
          refine rg ?_
          refine ls (qv F (r_lt (F.ev (x := .tmp 7) rfl) (F.ev (x := .tmp 6) rfl)) fun a F => ?_)
          refine rgend ?_
          refine wp_seq ?_
          by_cases c28 : x23 < 2
          · rw [if_pos c28] at j_26
            rw [decide_eq_true c28] at F
            refine wp_cond_true (F.ev rfl) ?_
            refine wp_skip ?_
            refine wp_seq ?_
            refine wp_block ?_
            refine rg ?_
            refine mv F rfl fun a F => ?_
            refine ls (qv F (r_shl (F.ev (x := .tmp 9) rfl) (F.ev (x := .const (.int .u64 8)) rfl) (by decide)) fun a F => ?_)
            refine ls (qv F (r_ld (F.ev (x := .tmp 1) rfl) (cel_cell (o := 0) (H.cell 2 rfl) rfl) one23) fun a F => ?_)
            refine ls (qv F (r_ld (F.ev (x := .tmp 2) rfl) (cel_cell (o := 0) (H.cell 0 rfl) rfl) one3) fun a F => ?_)
            obtain ⟨c29, j_26⟩ := guardO j_26
            obtain ⟨g30, o31, s32, hr, H⟩ := H.ix 0 0 rfl (F.ev (x := .tmp 11) rfl) (F.ev (x := .tmp 12) rfl) Try.underlying23 sz5 (by decide) c29.1 c29.2
            obtain ⟨rfl, hr33⟩ := H.says_byte 1 rfl
            refine ls (qv F (hr _ _ _ _ _ _) fun a F => ?_)
            refine ls (qv F (r_ld (F.ev (x := .tmp 13) rfl) (range_cell (j := 0) (H.range 0 rfl) rfl) one5) fun a F => ?_)
            refine ls (qv F (r_ci (F.ev (x := .tmp 14) rfl) Try.underlying2 Try.underlying5) fun a F => ?_)
            refine ls (qv F (r_or (F.ev (x := .tmp 10) rfl) (F.ev (x := .tmp 15) rfl)) fun a F => ?_)
            refine as_ F rfl fun a F => ?_
            refine rgend ?_
            replace F := F.only [5, 1, 2, 6, 7] (l' := [(5, .int .i64 (orI .i64 (IntKind.i64.wrap (x22 * 2 ^ (8))) (IntKind.i64.wrap (a0.getD (x24 : Int).toNat 0)))), (1, .pointer (some ⟨g1, 0, none⟩)), (2, .pointer (some ⟨g4, 0, none⟩)), (6, .int .i64 2), (7, .int .i64 x23)]) rfl
            refine wp_region_lit ?_
            refine ls (qv F (r_ld (F.ev (x := .tmp 2) rfl) (cel_cell (o := 0) (H.cell 0 rfl) rfl) one3) fun a F => ?_)
            refine ls (qv F (r_add (F.ev (x := .tmp 17) rfl) (F.ev (x := .const (.int .i64 1)) rfl)) fun a F => ?_)
            obtain ⟨_, hr, H⟩ := Hp.store (t := 3) (o := 0) (n := 1) (vs := [.int .i64 (IntKind.i64.wrap (x24 + 1))]) (cs' := [.int .i64 (IntKind.i64.wrap (x24 + 1))]) (H) (F.ev (x := .tmp 2) rfl) (F.ev (x := .tmp 18) rfl) rfl sz3 rfl (Nat.le_of_ble_eq_true rfl) rfl rfl
            refine ls (qn F (.inl rfl) (hr _ _ _ _) fun a F => ?_)
            refine wpList_nil ?_
            refine wp_region_lit ?_
            refine ls (qv F (r_add (F.ev (x := .tmp 7) rfl) (F.ev (x := .const (.int .i64 1)) rfl)) fun a F => ?_)
            refine mv F rfl fun a F => ?_
            refine wpList_nil ?_
            replace F := F.only [7, 5, 1, 2, 6] (l' := [(7, .int .i64 (IntKind.i64.wrap (x23 + 1))), (5, .int .i64 (orI .i64 (IntKind.i64.wrap (x22 * 2 ^ (8))) (IntKind.i64.wrap (a0.getD (x24 : Int).toNat 0)))), (1, .pointer (some ⟨g1, 0, none⟩)), (2, .pointer (some ⟨g4, 0, none⟩)), (6, .int .i64 2)]) rfl
            try dsimp only at j_26
            obtain rfl := Option.some.inj j_26
            exact ⟨_, rfl, F.only [1, 2, 5, 6, 7] rfl, H.px1.px0⟩
          · rw [if_neg c28] at j_26
            rw [decide_eq_false c28] at F
            refine wp_cond_false (F.ev rfl) ?_
            refine wp_exit ?_
            try dsimp only at j_26
            obtain rfl := Option.some.inj j_26
            obtain rfl := u_26 _ rfl
            repeat (with_reducible refine exT ?_)
            with_reducible refine exB ?_
            exact ⟨_, _, rfl, F.only [5] rfl, H⟩
        · rintro a w ⟨x25, x26, rfl, F, H⟩
          try dsimp only at k_20 F H
          refine rg ?_
          refine mv F rfl fun a F => ?_
          refine as_ F rfl fun a F => ?_
          refine rgend ?_
          refine wp_ret ?_
          try dsimp only at k_20
          obtain rfl := Option.some.inj k_20
          exact RET _ _ (ret1 F rfl rfl ⟨_, rfl, _, _, rfl, rfl, H⟩)
      · rintro v w ⟨x19, x20, rfl, rfl, H⟩ a F
        try dsimp only at h F H
        refine mv F rfl fun a F => ?_
        obtain ⟨o_35, k_35, h⟩ := Option.bind_eq_some_iff.1 h
        refine ls (call F Try.func71 (R := fun v w => ∃ (x34 : Int) (x35 : Int), (x34, x35) = o_35 ∧ v = .int .i64 x34 ∧ Hp w0 (rd kByte A0_ c0_ a0 :: ps) (cel g4 [.int .i64 x35] 3 :: cel g2 [.int .i64 0, .int .i64 0, .int .i64 0, .int .i64 0, .slice none 0 0] 26 :: cel g1 [.slice A0_ a0.length c0_] 23 :: fs) w) (args := [.int .i64 1, .pointer (some ⟨g1, 0, none⟩), .pointer (some ⟨g4, 0, none⟩)]) (cap := [.pointer (some ⟨g1, 0, none⟩), .pointer (some ⟨g4, 0, none⟩)]) ?_ rfl rfl ?_)
        · refine enter [.int .i64 1, .pointer (some ⟨g1, 0, none⟩), .pointer (some ⟨g4, 0, none⟩)] 21 Try.func71 fun Q a NP RET NRM F => ?_
          replace NP : ∀ c a w, ¬ Q (.panic c) a w := fun c a w h => by rcases NP c a w h with h | ⟨w, v, h, _⟩ <;> cases h
          refine rg ?_
          refine as_ F (v := .int .i64 0) rfl fun a F => ?_
          refine rgend ?_
          refine rg ?_
          refine as_ F (v := .int .i64 0) rfl fun a F => ?_
          refine rgend ?_
          refine wp_seq ?_
          refine rg ?_
          refine mv F rfl fun a F => ?_
          refine mv F (v := .int .i64 0) rfl fun a F => ?_
          refine rgend ?_
          obtain ⟨o_41, k_41, k_35⟩ := Option.bind_eq_some_iff.1 k_35
          refine cut (fun a w => ∃ (x40 : Int) (x41 : Int), (x40, x41) = o_41 ∧ Fr 21 [] [(5, .int .i64 x40)] a ∧ Hp w0 (rd kByte A0_ c0_ a0 :: ps) (cel g4 [.int .i64 x41] 3 :: cel g2 [.int .i64 0, .int .i64 0, .int .i64 0, .int .i64 0, .slice none 0 0] 26 :: cel g1 [.slice A0_ a0.length c0_] 23 :: fs) w) (wp_block ?_) ?_
          · refine wloop (sector_Get_b2 a0) (fun (s : Int × Int × Int) a w => Fr 21 [] [(1, .pointer (some ⟨g1, 0, none⟩)), (2, .pointer (some ⟨g4, 0, none⟩)), (5, .int .i64 s.1), (6, .int .i64 1), (7, .int .i64 s.2.1)] a ∧ Hp w0 (rd kByte A0_ c0_ a0 :: ps) (cel g4 [.int .i64 s.2.2] 3 :: cel g2 [.int .i64 0, .int .i64 0, .int .i64 0, .int .i64 0, .slice none 0 0] 26 :: cel g1 [.slice A0_ a0.length c0_] 23 :: fs) w) k_41 ⟨F.only [1, 2, 5, 6, 7] rfl, H⟩ ?_
            rintro ⟨x37, x38, x39⟩ a w q_41 j_41 u_41 ⟨F, H⟩
            unfold sector_Get_b2 at j_41
            try dsimp only at j_41 F H
            refine rg ?_
            refine ls (qv F (r_lt (F.ev (x := .tmp 7) rfl) (F.ev (x := .tmp 6) rfl)) fun a F => ?_)
            refine rgend ?_
            refine wp_seq ?_
            by_cases c43 : x38 < 1
            · rw [if_pos c43] at j_41
              rw [decide_eq_true c43] at F
              refine wp_cond_true (F.ev rfl) ?_
              refine wp_skip ?_
              refine wp_seq ?_
              refine wp_block ?_
              refine rg ?_
              refine mv F rfl fun a F => ?_
              refine ls (qv F (r_shl (F.ev (x := .tmp 9) rfl) (F.ev (x := .const (.int .u64 8)) rfl) (by decide)) fun a F => ?_)
              refine ls (qv F (r_ld (F.ev (x := .tmp 1) rfl) (cel_cell (o := 0) (H.cell 2 rfl) rfl) one23) fun a F => ?_)
              refine ls (qv F (r_ld (F.ev (x := .tmp 2) rfl) (cel_cell (o := 0) (H.cell 0 rfl) rfl) one3) fun a F => ?_)
              obtain ⟨c44, j_41⟩ := guardO j_41
              obtain ⟨g45, o46, s47, hr, H⟩ := H.ix 0 0 rfl (F.ev (x := .tmp 11) rfl) (F.ev (x := .tmp 12) rfl) Try.underlying23 sz5 (by decide) c44.1 c44.2
              obtain ⟨rfl, hr48⟩ := H.says_byte 1 rfl
              refine ls (qv F (hr _ _ _ _ _ _) fun a F => ?_)
              refine ls (qv F (r_ld (F.ev (x := .tmp 13) rfl) (range_cell (j := 0) (H.range 0 rfl) rfl) one5) fun a F => ?_)
              refine ls (qv F (r_ci (F.ev (x := .tmp 14) rfl) Try.underlying2 Try.underlying5) fun a F => ?_)
              refine ls (qv F (r_or (F.ev (x := .tmp 10) rfl) (F.ev (x := .tmp 15) rfl)) fun a F => ?_)
              refine as_ F rfl fun a F => ?_
              refine rgend ?_
              replace F := F.only [5, 1, 2, 6, 7] (l' := [(5, .int .i64 (orI .i64 (IntKind.i64.wrap (x37 * 2 ^ (8))) (IntKind.i64.wrap (a0.getD (x39 : Int).toNat 0)))), (1, .pointer (some ⟨g1, 0, none⟩)), (2, .pointer (some ⟨g4, 0, none⟩)), (6, .int .i64 1), (7, .int .i64 x38)]) rfl
              refine wp_region_lit ?_
              refine ls (qv F (r_ld (F.ev (x := .tmp 2) rfl) (cel_cell (o := 0) (H.cell 0 rfl) rfl) one3) fun a F => ?_)
              refine ls (qv F (r_add (F.ev (x := .tmp 17) rfl) (F.ev (x := .const (.int .i64 1)) rfl)) fun a F => ?_)
              obtain ⟨_, hr, H⟩ := Hp.store (t := 3) (o := 0) (n := 1) (vs := [.int .i64 (IntKind.i64.wrap (x39 + 1))]) (cs' := [.int .i64 (IntKind.i64.wrap (x39 + 1))]) (H) (F.ev (x := .tmp 2) rfl) (F.ev (x := .tmp 18) rfl) rfl sz3 rfl (Nat.le_of_ble_eq_true rfl) rfl rfl
              refine ls (qn F (.inl rfl) (hr _ _ _ _) fun a F => ?_)
              refine wpList_nil ?_
              refine wp_region_lit ?_
              refine ls (qv F (r_add (F.ev (x := .tmp 7) rfl) (F.ev (x := .const (.int .i64 1)) rfl)) fun a F => ?_)
              refine mv F rfl fun a F => ?_
              refine wpList_nil ?_
              replace F := F.only [7, 5, 1, 2, 6] (l' := [(7, .int .i64 (IntKind.i64.wrap (x38 + 1))), (5, .int .i64 (orI .i64 (IntKind.i64.wrap (x37 * 2 ^ (8))) (IntKind.i64.wrap (a0.getD (x39 : Int).toNat 0)))), (1, .pointer (some ⟨g1, 0, none⟩)), (2, .pointer (some ⟨g4, 0, none⟩)), (6, .int .i64 1)]) rfl
              try dsimp only at j_41
              obtain rfl := Option.some.inj j_41
              exact ⟨_, rfl, F.only [1, 2, 5, 6, 7] rfl, H.px1.px0⟩
            · rw [if_neg c43] at j_41
              rw [decide_eq_false c43] at F
              refine wp_cond_false (F.ev rfl) ?_
              refine wp_exit ?_
              try dsimp only at j_41
              obtain rfl := Option.some.inj j_41
              obtain rfl := u_41 _ rfl
              repeat (with_reducible refine exT ?_)
              with_reducible refine exB ?_
              exact ⟨_, _, rfl, F.only [5] rfl, H⟩
          · rintro a w ⟨x40, x41, rfl, F, H⟩
            try dsimp only at k_35 F H
            refine rg ?_
            refine mv F rfl fun a F => ?_
            refine as_ F rfl fun a F => ?_
            refine rgend ?_
            refine wp_ret ?_
            try dsimp only at k_35
            obtain rfl := Option.some.inj k_35
            exact RET _ _ (ret1 F rfl rfl ⟨_, rfl, _, _, rfl, rfl, H⟩)
        · rintro v w ⟨x34, x35, rfl, rfl, H⟩ a F
          try dsimp only at h F H
          refine mv F rfl fun a F => ?_
          obtain ⟨o_50, k_50, h⟩ := Option.bind_eq_some_iff.1 h
          refine ls (call F Try.func71 (R := fun v w => ∃ (x49 : Int) (x50 : Int), (x49, x50) = o_50 ∧ v = .int .i64 x49 ∧ Hp w0 (rd kByte A0_ c0_ a0 :: ps) (cel g4 [.int .i64 x50] 3 :: cel g2 [.int .i64 0, .int .i64 0, .int .i64 0, .int .i64 0, .slice none 0 0] 26 :: cel g1 [.slice A0_ a0.length c0_] 23 :: fs) w) (args := [.int .i64 2, .pointer (some ⟨g1, 0, none⟩), .pointer (some ⟨g4, 0, none⟩)]) (cap := [.pointer (some ⟨g1, 0, none⟩), .pointer (some ⟨g4, 0, none⟩)]) ?_ rfl rfl ?_)
          · refine enter [.int .i64 2, .pointer (some ⟨g1, 0, none⟩), .pointer (some ⟨g4, 0, none⟩)] 21 Try.func71 fun Q a NP RET NRM F => ?_
            replace NP : ∀ c a w, ¬ Q (.panic c) a w := fun c a w h => by rcases NP c a w h with h | ⟨w, v, h, _⟩ <;> cases h
            refine rg ?_
            refine as_ F (v := .int .i64 0) rfl fun a F => ?_
            refine rgend ?_
            refine rg ?_
            refine as_ F (v := .int .i64 0) rfl fun a F => ?_
            refine rgend ?_
            refine wp_seq ?_
            refine rg ?_
            refine mv F rfl fun a F => ?_
            refine mv F (v := .int .i64 0) rfl fun a F => ?_
            refine rgend ?_
            obtain ⟨o_56, k_56, k_50⟩ := Option.bind_eq_some_iff.1 k_50
            refine cut (fun a w => ∃ (x55 : Int) (x56 : Int), (x55, x56) = o_56 ∧ Fr 21 [] [(5, .int .i64 x55)] a ∧ Hp w0 (rd kByte A0_ c0_ a0 :: ps) (cel g4 [.int .i64 x56] 3 :: cel g2 [.int .i64 0, .int .i64 0, .int .i64 0, .int .i64 0, .slice none 0 0] 26 :: cel g1 [.slice A0_ a0.length c0_] 23 :: fs) w) (wp_block ?_) ?_
            · refine wloop (sector_Get_b3 a0) (fun (s : Int × Int × Int) a w => Fr 21 [] [(1, .pointer (some ⟨g1, 0, none⟩)), (2, .pointer (some ⟨g4, 0, none⟩)), (5, .int .i64 s.1), (6, .int .i64 2), (7, .int .i64 s.2.1)] a ∧ Hp w0 (rd kByte A0_ c0_ a0 :: ps) (cel g4 [.int .i64 s.2.2] 3 :: cel g2 [.int .i64 0, .int .i64 0, .int .i64 0, .int .i64 0, .slice none 0 0] 26 :: cel g1 [.slice A0_ a0.length c0_] 23 :: fs) w) k_56 ⟨F.only [1, 2, 5, 6, 7] rfl, H⟩ ?_
              rintro ⟨x52, x53, x54⟩ a w q_56 j_56 u_56 ⟨F, H⟩
              unfold sector_Get_b3 at j_56
              try dsimp only at j_56 F H
              refine rg ?_
              refine ls (qv F (r_lt (F.ev (x := .tmp 7) rfl) (F.ev (x := .tmp 6) rfl)) fun a F => ?_)
              refine rgend ?_
              refine wp_seq ?_
              by_cases c58 : x53 < 2
              · rw [if_pos c58] at j_56
                rw [decide_eq_true c58] at F
                refine wp_cond_true (F.ev rfl) ?_
                refine wp_skip ?_
                refine wp_seq ?_
                refine wp_block ?_
                refine rg ?_
                refine mv F rfl fun a F => ?_
                refine ls (qv F (r_shl (F.ev (x := .tmp 9) rfl) (F.ev (x := .const (.int .u64 8)) rfl) (by decide)) fun a F => ?_)
                refine ls (qv F (r_ld (F.ev (x := .tmp 1) rfl) (cel_cell (o := 0) (H.cell 2 rfl) rfl) one23) fun a F => ?_)
                refine ls (qv F (r_ld (F.ev (x := .tmp 2) rfl) (cel_cell (o := 0) (H.cell 0 rfl) rfl) one3) fun a F => ?_)
                obtain ⟨c59, j_56⟩ := guardO j_56
                obtain ⟨g60, o61, s62, hr, H⟩ := H.ix 0 0 rfl (F.ev (x := .tmp 11) rfl) (F.ev (x := .tmp 12) rfl) Try.underlying23 sz5 (by decide) c59.1 c59.2
                obtain ⟨rfl, hr63⟩ := H.says_byte 1 rfl
                refine ls (qv F (hr _ _ _ _ _ _) fun a F => ?_)
                refine ls (qv F (r_ld (F.ev (x := .tmp 13) rfl) (range_cell (j := 0) (H.range 0 rfl) rfl) one5) fun a F => ?_)
                refine ls (qv F (r_ci (F.ev (x := .tmp 14) rfl) Try.underlying2 Try.underlying5) fun a F => ?_)
                refine ls (qv F (r_or (F.ev (x := .tmp 10) rfl) (F.ev (x := .tmp 15) rfl)) fun a F => ?_)
                refine as_ F rfl fun a F => ?_
                refine rgend ?_
                replace F := F.only [5, 1, 2, 6, 7] (l' := [(5, .int .i64 (orI .i64 (IntKind.i64.wrap (x52 * 2 ^ (8))) (IntKind.i64.wrap (a0.getD (x54 : Int).toNat 0)))), (1, .pointer (some ⟨g1, 0, none⟩)), (2, .pointer (some ⟨g4, 0, none⟩)), (6, .int .i64 2), (7, .int .i64 x53)]) rfl
                refine wp_region_lit ?_
                refine ls (qv F (r_ld (F.ev (x := .tmp 2) rfl) (cel_cell (o := 0) (H.cell 0 rfl) rfl) one3) fun a F => ?_)
                refine ls (qv F (r_add (F.ev (x := .tmp 17) rfl) (F.ev (x := .const (.int .i64 1)) rfl)) fun a F => ?_)
                obtain ⟨_, hr, H⟩ := Hp.store (t := 3) (o := 0) (n := 1) (vs := [.int .i64 (IntKind.i64.wrap (x54 + 1))]) (cs' := [.int .i64 (IntKind.i64.wrap (x54 + 1))]) (H) (F.ev (x := .tmp 2) rfl) (F.ev (x := .tmp 18) rfl) rfl sz3 rfl (Nat.le_of_ble_eq_true rfl) rfl rfl
                refine ls (qn F (.inl rfl) (hr _ _ _ _) fun a F => ?_)
                refine wpList_nil ?_
                refine wp_region_lit ?_
                refine ls (qv F (r_add (F.ev (x := .tmp 7) rfl) (F.ev (x := .const (.int .i64 1)) rfl)) fun a F => ?_)
                refine mv F rfl fun a F => ?_
                refine wpList_nil ?_
                replace F := F.only [7, 5, 1, 2, 6] (l' := [(7, .int .i64 (IntKind.i64.wrap (x53 + 1))), (5, .int .i64 (orI .i64 (IntKind.i64.wrap (x52 * 2 ^ (8))) (IntKind.i64.wrap (a0.getD (x54 : Int).toNat 0)))), (1, .pointer (some ⟨g1, 0, none⟩)), (2, .pointer (some ⟨g4, 0, none⟩)), (6, .int .i64 2)]) rfl
                try dsimp only at j_56
                obtain rfl := Option.some.inj j_56
                exact ⟨_, rfl, F.only [1, 2, 5, 6, 7] rfl, H.px1.px0⟩
              · rw [if_neg c58] at j_56
                rw [decide_eq_false c58] at F
                refine wp_cond_false (F.ev rfl) ?_
                refine wp_exit ?_
                try dsimp only at j_56
                obtain rfl := Option.some.inj j_56
                obtain rfl := u_56 _ rfl
                repeat (with_reducible refine exT ?_)
                with_reducible refine exB ?_
                exact ⟨_, _, rfl, F.only [5] rfl, H⟩
            · rintro a w ⟨x55, x56, rfl, F, H⟩
              try dsimp only at k_50 F H
              refine rg ?_
              refine mv F rfl fun a F => ?_
              refine as_ F rfl fun a F => ?_
              refine rgend ?_
              refine wp_ret ?_
              try dsimp only at k_50
              obtain rfl := Option.some.inj k_50
              exact RET _ _ (ret1 F rfl rfl ⟨_, rfl, _, _, rfl, rfl, H⟩)
          · rintro v w ⟨x49, x50, rfl, rfl, H⟩ a F
            try dsimp only at h F H
            refine ls (lbd F (vs := [(0, .int .i64 x5), (1, .int .i64 x19), (2, .int .i64 x34), (3, .int .i64 x49)]) (cs := [.int .i64 x5, .int .i64 x19, .int .i64 x34, .int .i64 x49, .slice none 0 0]) rfl (fun w => by kernel_rfl) fun a F => ?_)
            refine ls (lal F H ti26 (cs := [.int .i64 0, .int .i64 0, .int .i64 0, .int .i64 0, .slice none 0 0]) rfl fun g64 w a H F => ?_)
            obtain ⟨_, hr, H⟩ := Hp.store (t := 26) (o := 0) (n := 5) (vs := [.int .i64 x5, .int .i64 x19, .int .i64 x34, .int .i64 x49, .slice none 0 0]) (cs' := [.int .i64 x5, .int .i64 x19, .int .i64 x34, .int .i64 x49, .slice none 0 0]) (H) (F.ev (x := .tmp 6) rfl) (F.ev (x := .tmp 20) rfl) rfl sz26 rfl (Nat.le_of_ble_eq_true rfl) rfl rfl
            refine ls (qn F (.inl rfl) (hr _ _ _ _) fun a F => ?_)
            refine rgend ?_
            replace F := F.only [6, 5, 2, 1] (l' := [(6, .pointer (some ⟨g64, 0, none⟩)), (5, .func (.func 71) #[] #[.pointer (some ⟨g1, 0, none⟩), .pointer (some ⟨g4, 0, none⟩)]), (2, .pointer (some ⟨g2, 0, none⟩)), (1, .pointer (some ⟨g1, 0, none⟩))]) rfl
            refine wp_seq ?_
            replace H := H.drew
            have HS := H.fx1
            refine dr (fun w => Hp w0 (rd kByte A0_ c0_ a0 :: ps) (cel g64 [.int .i64 x5, .int .i64 x19, .int .i64 x34, .int .i64 x49, .slice none 0 0] 26 :: cel g2 [.int .i64 0, .int .i64 0, .int .i64 0, .int .i64 0, .slice none 0 0] 26 :: cel g1 [.slice A0_ a0.length c0_] 23 :: fs) w) _ (by kernel_rfl) ?_ (n := 11)
            refine dq 0 F rfl (by kernel_rfl) NP HS (fun w S => (r_fa (off := 4) (F.ev (x := .tmp 6) rfl) fa26_4)) fun a F => ?_
            refine dq 1 F rfl (by kernel_rfl) NP HS (fun w S => (r_ld (F.ev (x := .tmp 21) rfl) (cel_cell (o := 4) (S.cell 0 rfl) rfl) one23)) fun a F => ?_
            refine dq 2 F rfl (by kernel_rfl) NP HS (fun w S => (r_ld (F.ev (x := .tmp 1) rfl) (cel_cell (o := 0) (S.cell 2 rfl) rfl) one23)) fun a F => ?_
            refine dq 3 F rfl (by kernel_rfl) NP HS (fun w S => (r_mv (F.ev (x := .tmp 5) rfl))) fun a F => ?_
            obtain ⟨o_66, k_66, h⟩ := Option.bind_eq_some_iff.1 h
            refine d1 4 rfl (by kernel_rfl) (call F Try.func71 (R := fun v w => ∃ (x65 : Int) (x66 : Int), (x65, x66) = o_66 ∧ v = .int .i64 x65 ∧ Hp w0 (rd kByte A0_ c0_ a0 :: ps) (cel g4 [.int .i64 x66] 3 :: cel g2 [.int .i64 0, .int .i64 0, .int .i64 0, .int .i64 0, .slice none 0 0] 26 :: cel g1 [.slice A0_ a0.length c0_] 23 :: cel g64 [.int .i64 x5, .int .i64 x19, .int .i64 x34, .int .i64 x49, .slice none 0 0] 26 :: fs) w) (args := [.int .i64 1, .pointer (some ⟨g1, 0, none⟩), .pointer (some ⟨g4, 0, none⟩)]) (cap := [.pointer (some ⟨g1, 0, none⟩), .pointer (some ⟨g4, 0, none⟩)]) ?_ rfl rfl ?_)
            · refine enter [.int .i64 1, .pointer (some ⟨g1, 0, none⟩), .pointer (some ⟨g4, 0, none⟩)] 21 Try.func71 fun Q a NP RET NRM F => ?_
              replace NP : ∀ c a w, ¬ Q (.panic c) a w := fun c a w h => by rcases NP c a w h with h | ⟨w, v, h, _⟩ <;> cases h
              refine rg ?_
              refine as_ F (v := .int .i64 0) rfl fun a F => ?_
              refine rgend ?_
              refine rg ?_
              refine as_ F (v := .int .i64 0) rfl fun a F => ?_
              refine rgend ?_
              refine wp_seq ?_
              refine rg ?_
              refine mv F rfl fun a F => ?_
              refine mv F (v := .int .i64 0) rfl fun a F => ?_
              refine rgend ?_
              obtain ⟨o_72, k_72, k_66⟩ := Option.bind_eq_some_iff.1 k_66
              refine cut (fun a w => ∃ (x71 : Int) (x72 : Int), (x71, x72) = o_72 ∧ Fr 21 [] [(5, .int .i64 x71)] a ∧ Hp w0 (rd kByte A0_ c0_ a0 :: ps) (cel g4 [.int .i64 x72] 3 :: cel g2 [.int .i64 0, .int .i64 0, .int .i64 0, .int .i64 0, .slice none 0 0] 26 :: cel g1 [.slice A0_ a0.length c0_] 23 :: cel g64 [.int .i64 x5, .int .i64 x19, .int .i64 x34, .int .i64 x49, .slice none 0 0] 26 :: fs) w) (wp_block ?_) ?_
              · refine wloop (sector_Get_b4 a0) (fun (s : Int × Int × Int) a w => Fr 21 [] [(1, .pointer (some ⟨g1, 0, none⟩)), (2, .pointer (some ⟨g4, 0, none⟩)), (5, .int .i64 s.1), (6, .int .i64 1), (7, .int .i64 s.2.1)] a ∧ Hp w0 (rd kByte A0_ c0_ a0 :: ps) (cel g4 [.int .i64 s.2.2] 3 :: cel g2 [.int .i64 0, .int .i64 0, .int .i64 0, .int .i64 0, .slice none 0 0] 26 :: cel g1 [.slice A0_ a0.length c0_] 23 :: cel g64 [.int .i64 x5, .int .i64 x19, .int .i64 x34, .int .i64 x49, .slice none 0 0] 26 :: fs) w) k_72 ⟨F.only [1, 2, 5, 6, 7] rfl, H.f3.f3.f3⟩ ?_
                rintro ⟨x68, x69, x70⟩ a w q_72 j_72 u_72 ⟨F, H⟩
                unfold sector_Get_b4 at j_72
                try dsimp only at j_72 F H
                refine rg ?_
                refine ls (qv F (r_lt (F.ev (x := .tmp 7) rfl) (F.ev (x := .tmp 6) rfl)) fun a F => ?_)
                refine rgend ?_
                refine wp_seq ?_
                by_cases c74 : x69 < 1
                · rw [if_pos c74] at j_72
                  rw [decide_eq_true c74] at F
                  refine wp_cond_true (F.ev rfl) ?_
                  refine wp_skip ?_
                  refine wp_seq ?_
                  refine wp_block ?_
                  refine rg ?_
                  refine mv F rfl fun a F => ?_
                  refine ls (qv F (r_shl (F.ev (x := .tmp 9) rfl) (F.ev (x := .const (.int .u64 8)) rfl) (by decide)) fun a F => ?_)
                  refine ls (qv F (r_ld (F.ev (x := .tmp 1) rfl) (cel_cell (o := 0) (H.cell 2 rfl) rfl) one23) fun a F => ?_)
                  refine ls (qv F (r_ld (F.ev (x := .tmp 2) rfl) (cel_cell (o := 0) (H.cell 0 rfl) rfl) one3) fun a F => ?_)
                  obtain ⟨c75, j_72⟩ := guardO j_72
                  obtain ⟨g76, o77, s78, hr, H⟩ := H.ix 0 0 rfl (F.ev (x := .tmp 11) rfl) (F.ev (x := .tmp 12) rfl) Try.underlying23 sz5 (by decide) c75.1 c75.2
                  obtain ⟨rfl, hr79⟩ := H.says_byte 1 rfl
                  refine ls (qv F (hr _ _ _ _ _ _) fun a F => ?_)
                  refine ls (qv F (r_ld (F.ev (x := .tmp 13) rfl) (range_cell (j := 0) (H.range 0 rfl) rfl) one5) fun a F => ?_)
                  refine ls (qv F (r_ci (F.ev (x := .tmp 14) rfl) Try.underlying2 Try.underlying5) fun a F => ?_)
                  refine ls (qv F (r_or (F.ev (x := .tmp 10) rfl) (F.ev (x := .tmp 15) rfl)) fun a F => ?_)
                  refine as_ F rfl fun a F => ?_
                  refine rgend ?_
                  replace F := F.only [5, 1, 2, 6, 7] (l' := [(5, .int .i64 (orI .i64 (IntKind.i64.wrap (x68 * 2 ^ (8))) (IntKind.i64.wrap (a0.getD (x70 : Int).toNat 0)))), (1, .pointer (some ⟨g1, 0, none⟩)), (2, .pointer (some ⟨g4, 0, none⟩)), (6, .int .i64 1), (7, .int .i64 x69)]) rfl
                  refine wp_region_lit ?_
                  refine ls (qv F (r_ld (F.ev (x := .tmp 2) rfl) (cel_cell (o := 0) (H.cell 0 rfl) rfl) one3) fun a F => ?_)
                  refine ls (qv F (r_add (F.ev (x := .tmp 17) rfl) (F.ev (x := .const (.int .i64 1)) rfl)) fun a F => ?_)
                  obtain ⟨_, hr, H⟩ := Hp.store (t := 3) (o := 0) (n := 1) (vs := [.int .i64 (IntKind.i64.wrap (x70 + 1))]) (cs' := [.int .i64 (IntKind.i64.wrap (x70 + 1))]) (H) (F.ev (x := .tmp 2) rfl) (F.ev (x := .tmp 18) rfl) rfl sz3 rfl (Nat.le_of_ble_eq_true rfl) rfl rfl
                  refine ls (qn F (.inl rfl) (hr _ _ _ _) fun a F => ?_)
                  refine wpList_nil ?_
                  refine wp_region_lit ?_
                  refine ls (qv F (r_add (F.ev (x := .tmp 7) rfl) (F.ev (x := .const (.int .i64 1)) rfl)) fun a F => ?_)
                  refine mv F rfl fun a F => ?_
                  refine wpList_nil ?_
                  replace F := F.only [7, 5, 1, 2, 6] (l' := [(7, .int .i64 (IntKind.i64.wrap (x69 + 1))), (5, .int .i64 (orI .i64 (IntKind.i64.wrap (x68 * 2 ^ (8))) (IntKind.i64.wrap (a0.getD (x70 : Int).toNat 0)))), (1, .pointer (some ⟨g1, 0, none⟩)), (2, .pointer (some ⟨g4, 0, none⟩)), (6, .int .i64 1)]) rfl
                  try dsimp only at j_72
                  obtain rfl := Option.some.inj j_72
                  exact ⟨_, rfl, F.only [1, 2, 5, 6, 7] rfl, H.px1.px0⟩
                · rw [if_neg c74] at j_72
                  rw [decide_eq_false c74] at F
                  refine wp_cond_false (F.ev rfl) ?_
                  refine wp_exit ?_
                  try dsimp only at j_72
                  obtain rfl := Option.some.inj j_72
                  obtain rfl := u_72 _ rfl
                  repeat (with_reducible refine exT ?_)
                  with_reducible refine exB ?_
                  exact ⟨_, _, rfl, F.only [5] rfl, H⟩
              · rintro a w ⟨x71, x72, rfl, F, H⟩
                try dsimp only at k_66 F H
                refine rg ?_
                refine mv F rfl fun a F => ?_
                refine as_ F rfl fun a F => ?_
                refine rgend ?_
                refine wp_ret ?_
                try dsimp only at k_66
                obtain rfl := Option.some.inj k_66
                exact RET _ _ (ret1 F rfl rfl ⟨_, rfl, _, _, rfl, rfl, H⟩)
            · rintro v w ⟨x65, x66, rfl, rfl, H⟩ a F
              try dsimp only at h F H
              have HS := H.f2.f2.f3.fx3
              refine kg _ HS (fun w S => S) ?_
              refine dq 5 F rfl (by kernel_rfl) NP HS (fun w S => (r_min (F.ev (x := .tmp 25) rfl) (F.ev (x := .const (.int .i64 50)) rfl))) fun a F => ?_
              refine dq 6 F rfl (by kernel_rfl) NP HS (fun w S => (r_add (F.ev (x := .const (.int .i64 14)) rfl) (F.ev (x := .tmp 26) rfl))) fun a F => ?_
              obtain ⟨c80, h⟩ := guardO h
              obtain ⟨A81, c82, hr, H⟩ := Hp.sl (kd := kByte) (jl := (14 : Int)) (jh := IntKind.i64.wrap (14 + (min x65 50))) H 0 rfl (F.ev (x := .tmp 23) rfl) Try.underlying23 sz5 (.inr ⟨_, _, rfl, (F.ev (x := .const (.int .i64 14)) rfl)⟩) (.inr ⟨_, _, rfl, (F.ev (x := .tmp 27) rfl)⟩) c80
              have HS := H.f2.f2.f3.fx3
              refine dmoreH HS (fun w S => S.px0) ?_
              refine dq 7 F rfl (by kernel_rfl) NP HS (fun w S => (hr _ _ _ _ _ _)) fun a F => ?_
              replace H := H.nilOwn kByte 5
              obtain ⟨c83, h⟩ := guardO h
              obtain ⟨A84, c85, _, hr, H⟩ := Hp.appendRd (kd := kByte) (xs := []) (ys := ((a0.take (IntKind.i64.wrap (14 + (min x65 50))).toNat).drop ((14 : Int)).toNat)) (H) 0 rfl (F.ev (x := .tmp 22) rfl) (F.ev (x := .tmp 28) rfl) Try.underlying23 ti5 rfl (by decide) (by decide) c83
              rw [List.nil_append] at hr H
              refine d1 8 rfl (by kernel_rfl) (qv F (hr _ _ _ _ _) fun a F => ?_)
              have HS := H.f3.f3.f4.fx4.fx3
              refine kg _ HS (fun w S => S) ?_
              refine dq 9 F rfl (by kernel_rfl) NP HS (fun w S => (r_fa (off := 4) (F.ev (x := .tmp 6) rfl) fa26_4)) fun a F => ?_
              obtain ⟨_, hr, H⟩ := Hp.store (t := 23) (o := 4) (n := 1) (vs := [.slice A84 (((a0.take (IntKind.i64.wrap (14 + (min x65 50))).toNat).drop ((14 : Int)).toNat)).length c85]) (cs' := [.int .i64 x5, .int .i64 x19, .int .i64 x34, .int .i64 x49, .slice A84 (((a0.take (IntKind.i64.wrap (14 + (min x65 50))).toNat).drop ((14 : Int)).toNat)).length c85]) (H.f3.f3.f3.f3.f4) (F.ev (x := .tmp 30) rfl) (F.ev (x := .tmp 29) rfl) rfl sz23 rfl (Nat.le_of_ble_eq_true rfl) rfl rfl
              refine d1 10 rfl (by kernel_rfl) (qn F (.inl rfl) (hr _ _ _ _) fun a F => ?_)
              have HS := H.fx1
              refine kga (by kernel_rfl) HS ?_
              refine ddone (by kernel_rfl) ?_
              replace F := F.only [6, 2, 1] (l' := [(6, .pointer (some ⟨g64, 0, none⟩)), (2, .pointer (some ⟨g2, 0, none⟩)), (1, .pointer (some ⟨g1, 0, none⟩))]) rfl
              refine wp_seq ?_
              refine wp_seq ?_
              obtain ⟨o_86, k_86, h⟩ := Option.bind_eq_some_iff.1 h
              refine cut (fun a w => ∃ (x86 : Bool), x86 = o_86 ∧ Fr 44 [] [(2, .pointer (some ⟨g2, 0, none⟩)), (6, .pointer (some ⟨g64, 0, none⟩)), (41, .bool x86)] a ∧ Hp w0 (rd kByte A84 c85 (((a0.take (IntKind.i64.wrap (14 + (min x65 50))).toNat).drop ((14 : Int)).toNat)) :: ps) (cel g2 [.int .i64 0, .int .i64 0, .int .i64 0, .int .i64 0, .slice none 0 0] 26 :: cel g64 [.int .i64 x5, .int .i64 x19, .int .i64 x34, .int .i64 x49, .slice A84 (((a0.take (IntKind.i64.wrap (14 + (min x65 50))).toNat).drop ((14 : Int)).toNat)).length c85] 26 :: fs) w) ?_ ?_
              · skip
                replace H := H.drew
                have HS := H.fx1
                refine dr (fun w => Hp w0 (rd kByte A81 c82 (((a0.take (IntKind.i64.wrap (14 + (min x65 50))).toNat).drop ((14 : Int)).toNat)) :: rd kByte A0_ c0_ a0 :: ps) (cel g64 [.int .i64 x5, .int .i64 x19, .int .i64 x34, .int .i64 x49, .slice A84 (((a0.take (IntKind.i64.wrap (14 + (min x65 50))).toNat).drop ((14 : Int)).toNat)).length c85] 26 :: cel g4 [.int .i64 x66] 3 :: cel g2 [.int .i64 0, .int .i64 0, .int .i64 0, .int .i64 0, .slice none 0 0] 26 :: cel g1 [.slice A0_ a0.length c0_] 23 :: fs) w) _ (by kernel_rfl) ?_ (n := 11)
                refine dq 0 F rfl (by kernel_rfl) NP HS (fun w S => (r_ldA (F.ev (x := .tmp 6) rfl) (cel_range (o := 0) (n := 5) (vs := [.int .i64 x5, .int .i64 x19, .int .i64 x34, .int .i64 x49, .slice A84 (((a0.take (IntKind.i64.wrap (14 + (min x65 50))).toNat).drop ((14 : Int)).toNat)).length c85]) (S.cell 0 rfl) rfl) agg26 rfl)) fun a F => ?_
                replace H := (H.f4.f4.f4.f3.f4).freeze
                obtain ⟨x88, e89, k_86⟩ := Option.bind_eq_some_iff.1 k_86
                try dsimp only at k_86
                refine d1 1 rfl (by kernel_rfl) (call F Try.func66 (sector_Right_ok (a0 := (⟨x5, x19, x34, x49, ((a0.take (IntKind.i64.wrap (14 + (min x65 50))).toNat).drop ((14 : Int)).toNat)⟩ : api_Sector)) (H.p0) e89) rfl rfl fun v w hR a F => ?_)
                obtain ⟨rfl, H⟩ := hR
                have HS := H
                refine kg _ HS (fun w S => S.px0) ?_
                refine dq 2 F rfl (by kernel_rfl) NP HS (fun w S => (r_not (F.ev (x := .tmp 32) rfl))) fun a F => ?_
                refine dq 3 F rfl (by kernel_rfl) NP HS (fun w S => (r_mv (F.ev (x := .tmp 33) rfl))) fun a F => ?_
                by_cases c90 : x88 = true
                · rw [if_pos c90] at k_86
                  rw [c90] at F
                  refine dq 4 F rfl (by kernel_rfl) NP HS (fun w S => (r_ldA (F.ev (x := .tmp 6) rfl) (cel_range (o := 0) (n := 5) (vs := [.int .i64 x5, .int .i64 x19, .int .i64 x34, .int .i64 x49, .slice A84 (((a0.take (IntKind.i64.wrap (14 + (min x65 50))).toNat).drop ((14 : Int)).toNat)).length c85]) (S.cell 0 rfl) rfl) agg26 rfl)) fun a F => ?_
                  refine dq 6 F rfl (by kernel_rfl) NP HS (fun w S => (r_ld (F.ev (x := .tmp 1) rfl) (cel_cell (o := 0) (S.cell 3 rfl) rfl) one23)) fun a F => ?_
                  obtain ⟨c91, k_86⟩ := guardO k_86
                  obtain ⟨g92, o93, hr, H⟩ := H.sarrA (n := 64) 2 rfl (F.ev (x := .tmp 37) rfl) Try.underlying82 c91 (by decide)
                  have HS := H
                  refine dmoreH HS (fun w S => S.px0) ?_
                  refine dq 7 F rfl (by kernel_rfl) NP HS (fun w S => (hr _ _ _ _ _ _)) fun a F => ?_
                  refine dq 8 F rfl (by kernel_rfl) NP HS (fun w S => (r_ldA (F.ev (x := .tmp 38) rfl) (S.range 0 rfl) agg82 (arr_len ((Arr.of 64 (a0.take 64)))))) fun a F => ?_
                  obtain ⟨x94, e95, k_86⟩ := Option.bind_eq_some_iff.1 k_86
                  try dsimp only at k_86
                  refine d1 5 rfl (by kernel_rfl) (call F Try.func67 (sector_bytes_ok (a0 := (⟨x5, x19, x34, x49, ((a0.take (IntKind.i64.wrap (14 + (min x65 50))).toNat).drop ((14 : Int)).toNat)⟩ : api_Sector)) (H.p1) e95) rfl rfl fun v w hR a F => ?_)
                  obtain ⟨rfl, H⟩ := hR
                  have HS := H
                  refine kg _ HS (fun w S => S) ?_
                  refine dq 9 F rfl (by kernel_rfl) NP HS (fun w S => (r_ane (F.ev (x := .tmp 36) rfl) (F.ev (x := .tmp 39) rfl) Try.underlying82 Try.underlying5 sz5 (by kernel_rfl) (by kernel_rfl) x94.h ((Arr.of 64 (a0.take 64))).h)) fun a F => ?_
                  refine dq 10 F rfl (by kernel_rfl) NP HS (fun w S => (r_pickF (F.ev (x := .tmp 34) rfl) (F.ev (x := .tmp 40) rfl))) fun a F => ?_
                  refine ddone (by kernel_rfl) ?_
                  replace F := F.only [41, 6, 2] (l' := [(41, .bool (decide (x94.l ≠ ((Arr.of 64 (a0.take 64))).l))), (6, .pointer (some ⟨g64, 0, none⟩)), (2, .pointer (some ⟨g2, 0, none⟩))]) rfl
                  try dsimp only at k_86
                  obtain rfl := Option.some.inj k_86
                  exact ⟨_, rfl, F.only [2, 6, 41] rfl, H.px3.px2.px0.f2.fx3.fx2⟩
                · rw [if_neg c90] at k_86
                  rw [Bool.eq_false_iff.2 c90] at F
                  refine doff 4 F rfl (by kernel_rfl) NP HS fun a F => ?_
                  refine doff 5 F rfl (by kernel_rfl) NP HS fun a F => ?_
                  refine doff 6 F rfl (by kernel_rfl) NP HS fun a F => ?_
                  refine doff 7 F rfl (by kernel_rfl) NP HS fun a F => ?_
                  refine doff 8 F rfl (by kernel_rfl) NP HS fun a F => ?_
                  refine doff 9 F rfl (by kernel_rfl) NP HS fun a F => ?_
                  refine dq 10 F rfl (by kernel_rfl) NP HS (fun w S => (r_pickT (F.ev (x := .tmp 34) rfl) (F.ev (x := .const (.bool true)) rfl))) fun a F => ?_
                  refine ddone (by kernel_rfl) ?_
                  replace F := F.only [41, 6, 2] (l' := [(41, .bool true), (6, .pointer (some ⟨g64, 0, none⟩)), (2, .pointer (some ⟨g2, 0, none⟩))]) rfl
                  try dsimp only at k_86
                  obtain rfl := Option.some.inj k_86
                  exact ⟨_, rfl, F.only [2, 6, 41] rfl, H.px2.px1.f2.fx3.fx2⟩
              · rintro a w ⟨x86, rfl, F, H⟩
                try dsimp only at h F H
                by_cases c96 : x86 = true
                · rw [if_pos c96] at h
                  rw [c96] at F
                  refine wp_cond_true (F.ev rfl) ?_
                  refine rg ?_
                  refine ls (lbd F (vs := []) (cs := [.int .i64 0, .int .i64 0, .int .i64 0, .int .i64 0, .slice none 0 0]) rfl (fun w => by kernel_rfl) fun a F => ?_)
                  obtain ⟨_, hr, H⟩ := Hp.store (t := 26) (o := 0) (n := 5) (vs := [.int .i64 0, .int .i64 0, .int .i64 0, .int .i64 0, .slice none 0 0]) (cs' := [.int .i64 0, .int .i64 0, .int .i64 0, .int .i64 0, .slice none 0 0]) (H) (F.ev (x := .tmp 2) rfl) (F.ev (x := .tmp 42) rfl) rfl sz26 rfl (Nat.le_of_ble_eq_true rfl) rfl rfl
                  refine ls (qn F (.inl rfl) (hr _ _ _ _) fun a F => ?_)
                  refine as_ F (v := .bool false) rfl fun a F => ?_
                  refine rgend ?_
                  refine wp_ret ?_
                  replace H := H.nilRd kByte
                  try dsimp only at h
                  obtain ⟨rfl, rfl⟩ := Prod.mk.inj (Option.some.inj h)
                  exact RET _ _ (retC2 F rfl rfl rfl (ldvA (cel_range (o := 0) (n := 5) (vs := [.int .i64 0, .int .i64 0, .int .i64 0, .int .i64 0, .slice none 0 0]) (H.cell 0 rfl) rfl) agg26 rfl) ⟨_, rfl, none, 0, rfl, H.px1.fx1.fx0⟩)
                · rw [if_neg c96] at h
                  rw [Bool.eq_false_iff.2 c96] at F
                  refine wp_cond_false (F.ev rfl) ?_
                  refine wp_skip ?_
                  refine rg ?_
                  refine ls (qv F (r_ldA (F.ev (x := .tmp 6) rfl) (cel_range (o := 0) (n := 5) (vs := [.int .i64 x5, .int .i64 x19, .int .i64 x34, .int .i64 x49, .slice A84 (((a0.take (IntKind.i64.wrap (14 + (min x65 50))).toNat).drop ((14 : Int)).toNat)).length c85]) (H.cell 1 rfl) rfl) agg26 rfl) fun a F => ?_)
                  obtain ⟨_, hr, H⟩ := Hp.store (t := 26) (o := 0) (n := 5) (vs := [.int .i64 x5, .int .i64 x19, .int .i64 x34, .int .i64 x49, .slice A84 (((a0.take (IntKind.i64.wrap (14 + (min x65 50))).toNat).drop ((14 : Int)).toNat)).length c85]) (cs' := [.int .i64 x5, .int .i64 x19, .int .i64 x34, .int .i64 x49, .slice A84 (((a0.take (IntKind.i64.wrap (14 + (min x65 50))).toNat).drop ((14 : Int)).toNat)).length c85]) (H) (F.ev (x := .tmp 2) rfl) (F.ev (x := .tmp 43) rfl) rfl sz26 rfl (Nat.le_of_ble_eq_true rfl) rfl rfl
                  refine ls (qn F (.inl rfl) (hr _ _ _ _) fun a F => ?_)
                  refine as_ F (v := .bool true) rfl fun a F => ?_
                  refine rgend ?_
                  refine wp_ret ?_
                  try dsimp only at h
                  obtain ⟨rfl, rfl⟩ := Prod.mk.inj (Option.some.inj h)
                  exact RET _ _ (retC2 F rfl rfl rfl (ldvA (cel_range (o := 0) (n := 5) (vs := [.int .i64 x5, .int .i64 x19, .int .i64 x34, .int .i64 x49, .slice A84 (((a0.take (IntKind.i64.wrap (14 + (min x65 50))).toNat).drop ((14 : Int)).toNat)).length c85]) (H.cell 0 rfl) rfl) agg26 rfl) ⟨_, rfl, A84, c85, rfl, H.fx1.fx0⟩)
def ref16_Get_b0 (a0 : List Int) : Int → Option (Int ⊕ (Unit ⊕ (api_Sector × Bool)))
  | x214 => (if x214 < (a0.length : Int) then (if 0 ≤ x214 ∧ x214 < (a0.length : Int) then (if (a0.getD (x214 : Int).toNat 0) ≠ 0 then some (.inr (.inr (((⟨0, 0, 0, 0, []⟩ : api_Sector), false)))) else some (.inl (IntKind.i64.wrap (x214 + 1)))) else none) else some (.inr (.inl ())))
def ref16_Get_f (a0 : List Int) : Option (api_Sector × Bool) :=
  (if (a0.length : Int) ≠ 64 then some (((⟨0, 0, 0, 0, []⟩ : api_Sector), false)) else (if 0 ≤ (0 : Int) ∧ (0 : Int) < (a0.length : Int) then (if (a0.getD (0 : Int).toNat 0) ≠ 0 then some (((⟨0, 0, 0, 0, []⟩ : api_Sector), false)) else (if 0 ≤ (13 : Int) ∧ (13 : Int) < (a0.length : Int) then (if (IntKind.i64.wrap (a0.getD (13 : Int).toNat 0)) > 50 then some (((⟨0, 0, 0, 0, []⟩ : api_Sector), false)) else (((if 0 ≤ (0 : Int) ∧ (0 : Int) ≤ (8 : Int) ∧ (8 : Int) ≤ (a0.length : Int) then (if 0 ≤ (8 : Int) ∧ (8 : Int) ≤ (10 : Int) ∧ (10 : Int) ≤ (a0.length : Int) then (if 0 ≤ (10 : Int) ∧ (10 : Int) < (a0.length : Int) then (if 0 ≤ (11 : Int) ∧ (11 : Int) ≤ (13 : Int) ∧ (13 : Int) ≤ (a0.length : Int) then (if 0 ≤ (14 : Int) ∧ (14 : Int) ≤ IntKind.i64.wrap (14 + (IntKind.i64.wrap (a0.getD (13 : Int).toNat 0))) ∧ IntKind.i64.wrap (14 + (IntKind.i64.wrap (a0.getD (13 : Int).toNat 0))) ≤ (a0.length : Int) then ((ref16_Read_f (((a0.take ((8 : Int)).toNat).drop ((0 : Int)).toNat))).bind fun x40 => ((ref16_Read_f (((a0.take ((10 : Int)).toNat).drop ((8 : Int)).toNat))).bind fun x42 => ((ref16_Read_f (((a0.take ((13 : Int)).toNat).drop ((11 : Int)).toNat))).bind fun x44 => (if (0 + (((a0.take (IntKind.i64.wrap (14 + (IntKind.i64.wrap (a0.getD (13 : Int).toNat 0)))).toNat).drop ((14 : Int)).toNat)).length) * 1 ≤ 140737488355328 then some (x40, x42, x44, ((a0.take (IntKind.i64.wrap (14 + (IntKind.i64.wrap (a0.getD (13 : Int).toNat 0)))).toNat).drop ((14 : Int)).toNat)) else none)))) else none) else none) else none) else none) else none) : Option (Int × Int × Int × (List Int))).bind fun (x16, x17, x18, x19) => ((lp (ref16_Get_b0 a0) (IntKind.i64.wrap (14 + (IntKind.i64.wrap (a0.getD (13 : Int).toNat 0))))).bind fun q => match q with | .inl _ => ((ref16_Right_f ((⟨x16, x17, IntKind.i64.wrap (a0.getD (10 : Int).toNat 0), x18, x19⟩ : api_Sector))).bind fun x223 => (if x223 = true then some (((⟨x16, x17, IntKind.i64.wrap (a0.getD (10 : Int).toNat 0), x18, x19⟩ : api_Sector), true)) else some (((⟨0, 0, 0, 0, []⟩ : api_Sector), false)))) | .inr r => some r))) else none)) else none))
set_option maxHeartbeats 4000000 in
set_option maxRecDepth 20000 in
theorem ref16_Get_ok {w0 w : World} {ps : List PF} {fs : List SF} {a0 : List Int} {A0_ : Option Addr} {c0_ : Nat} {r0 : api_Sector} {r1 : Bool} (H : Hp w0 (rd kByte A0_ c0_ a0 :: ps) fs w) (h : ref16_Get_f a0 = some (r0, r1)) :
    Calls Try.prog 65 [.slice A0_ a0.length c0_].toArray w fun e w' => ∃ v, e = .returned v ∧ ∃ (A0_4 : Option Addr) (c0_4 : Nat), v = .tuple #[.agg #[.int .i64 r0.Gen, .int .i64 r0.Place, .int .i64 r0.Parts, .int .i64 r0.Kept, .slice A0_4 r0.Body.length c0_4], .bool r1] ∧ Hp w0 (rd kByte A0_4 c0_4 r0.Body :: ps) fs w' := by
  refine enter [.slice A0_ a0.length c0_] 63 Try.func65 fun Q a NP RET NRM F => ?_
  replace NP : ∀ c a w, ¬ Q (.panic c) a w := fun c a w h => by rcases NP c a w h with h | ⟨w, v, h, _⟩ <;> cases h
  unfold ref16_Get_f at h
  refine rg ?_
  refine ls (lal F H ti26 (cs := [.int .i64 0, .int .i64 0, .int .i64 0, .int .i64 0, .slice none 0 0]) rfl fun g1 w a H F => ?_)
  refine as_ F (v := .bool false) rfl fun a F => ?_
  refine rgend ?_
  refine wp_seq ?_
  refine rg ?_
  refine mv F rfl fun a F => ?_
  refine ls (qv F (r_len (F.ev (x := .tmp 7) rfl) Try.underlying23) fun a F => ?_)
  refine ls (qv F (r_ne (F.ev (x := .tmp 8) rfl) (F.ev (x := .const (.int .i64 64)) rfl)) fun a F => ?_)
  refine mv F rfl fun a F => ?_
  by_cases c2 : (a0.length : Int) ≠ 64
  · rw [if_pos c2] at h
    rw [decide_eq_true c2] at F
    refine ls (off F fun a F => ?_)
    refine ls (off F fun a F => ?_)
    refine ls (off F fun a F => ?_)
    refine ls (off F fun a F => ?_)
    refine ls (qv F (r_pickT (F.ev (x := .tmp 10) rfl) (F.ev (x := .const (.bool true)) rfl)) fun a F => ?_)
    refine rgend ?_
    replace F := F.only [15, 2, 0] (l' := [(15, .bool true), (2, .pointer (some ⟨g1, 0, none⟩)), (0, .slice A0_ a0.length c0_)]) rfl
    refine wp_cond_true (F.ev rfl) ?_
    refine rg ?_
    refine ls (lbd F (vs := []) (cs := [.int .i64 0, .int .i64 0, .int .i64 0, .int .i64 0, .slice none 0 0]) rfl (fun w => by kernel_rfl) fun a F => ?_)
    obtain ⟨_, hr, H⟩ := Hp.store (t := 26) (o := 0) (n := 5) (vs := [.int .i64 0, .int .i64 0, .int .i64 0, .int .i64 0, .slice none 0 0]) (cs' := [.int .i64 0, .int .i64 0, .int .i64 0, .int .i64 0, .slice none 0 0]) (H) (F.ev (x := .tmp 2) rfl) (F.ev (x := .tmp 16) rfl) rfl sz26 rfl (Nat.le_of_ble_eq_true rfl) rfl rfl
    refine ls (qn F (.inl rfl) (hr _ _ _ _) fun a F => ?_)
    refine as_ F (v := .bool false) rfl fun a F => ?_
    refine rgend ?_
    refine wp_ret ?_
    replace H := H.nilRd kByte
    try dsimp only at h
    obtain ⟨rfl, rfl⟩ := Prod.mk.inj (Option.some.inj h)
    exact RET _ _ (retC2 F rfl rfl rfl (ldvA (cel_range (o := 0) (n := 5) (vs := [.int .i64 0, .int .i64 0, .int .i64 0, .int .i64 0, .slice none 0 0]) (H.cell 0 rfl) rfl) agg26 rfl) ⟨_, rfl, none, 0, rfl, H.px1.fx0⟩)
  · rw [if_neg c2] at h
    rw [decide_eq_false c2] at F
    refine mv F rfl fun a F => ?_
    obtain ⟨c3, h⟩ := guardO h
    obtain ⟨g4, o5, s6, hr, H⟩ := H.ix 0 0 rfl (F.ev (x := .tmp 11) rfl) (F.ev (x := .const (.int .i64 0)) rfl) Try.underlying23 sz5 (by decide) c3.1 c3.2
    obtain ⟨rfl, hr7⟩ := H.says_byte 1 rfl
    refine ls (qv F (hr _ _ _ _ _ _) fun a F => ?_)
    refine ls (qv F (r_ld (F.ev (x := .tmp 12) rfl) (range_cell (j := 0) (H.range 0 rfl) rfl) one5) fun a F => ?_)
    refine ls (qv F (r_ne (F.ev (x := .tmp 13) rfl) (F.ev (x := .const (.int .u8 0)) rfl)) fun a F => ?_)
    refine ls (qv F (r_pickF (F.ev (x := .tmp 10) rfl) (F.ev (x := .tmp 14) rfl)) fun a F => ?_)
    refine rgend ?_
    replace F := F.only [15, 2, 0] (l' := [(15, .bool (decide ((a0.getD (0 : Int).toNat 0) ≠ 0))), (2, .pointer (some ⟨g1, 0, none⟩)), (0, .slice A0_ a0.length c0_)]) rfl
    by_cases c8 : (a0.getD (0 : Int).toNat 0) ≠ 0
    · rw [if_pos c8] at h
      rw [decide_eq_true c8] at F
      refine wp_cond_true (F.ev rfl) ?_
      refine rg ?_
      refine ls (lbd F (vs := []) (cs := [.int .i64 0, .int .i64 0, .int .i64 0, .int .i64 0, .slice none 0 0]) rfl (fun w => by kernel_rfl) fun a F => ?_)
      obtain ⟨_, hr, H⟩ := Hp.store (t := 26) (o := 0) (n := 5) (vs := [.int .i64 0, .int .i64 0, .int .i64 0, .int .i64 0, .slice none 0 0]) (cs' := [.int .i64 0, .int .i64 0, .int .i64 0, .int .i64 0, .slice none 0 0]) (H) (F.ev (x := .tmp 2) rfl) (F.ev (x := .tmp 16) rfl) rfl sz26 rfl (Nat.le_of_ble_eq_true rfl) rfl rfl
      refine ls (qn F (.inl rfl) (hr _ _ _ _) fun a F => ?_)
      refine as_ F (v := .bool false) rfl fun a F => ?_
      refine rgend ?_
      refine wp_ret ?_
      replace H := H.nilRd kByte
      try dsimp only at h
      obtain ⟨rfl, rfl⟩ := Prod.mk.inj (Option.some.inj h)
      exact RET _ _ (retC2 F rfl rfl rfl (ldvA (cel_range (o := 0) (n := 5) (vs := [.int .i64 0, .int .i64 0, .int .i64 0, .int .i64 0, .slice none 0 0]) (H.cell 0 rfl) rfl) agg26 rfl) ⟨_, rfl, none, 0, rfl, H.px3.px2.px1.fx0⟩)
    · rw [if_neg c8] at h
      rw [decide_eq_false c8] at F
      refine wp_cond_false (F.ev rfl) ?_
      refine wp_skip ?_
      refine rg ?_
      refine mv F rfl fun a F => ?_
      obtain ⟨c9, h⟩ := guardO h
      obtain ⟨g10, o11, s12, hr, H⟩ := H.ix 0 2 rfl (F.ev (x := .tmp 17) rfl) (F.ev (x := .const (.int .i64 13)) rfl) Try.underlying23 sz5 (by decide) c9.1 c9.2
      obtain ⟨rfl, hr13⟩ := H.says_byte 1 rfl
      refine ls (qv F (hr _ _ _ _ _ _) fun a F => ?_)
      refine ls (qv F (r_ld (F.ev (x := .tmp 18) rfl) (range_cell (j := 0) (H.range 0 rfl) rfl) one5) fun a F => ?_)
      refine ls (qv F (r_ci (F.ev (x := .tmp 19) rfl) Try.underlying3 Try.underlying5) fun a F => ?_)
      refine as_ F rfl fun a F => ?_
      refine rgend ?_
      replace F := F.only [4, 2, 0] (l' := [(4, .int .i64 (IntKind.i64.wrap (a0.getD (13 : Int).toNat 0))), (2, .pointer (some ⟨g1, 0, none⟩)), (0, .slice A0_ a0.length c0_)]) rfl
      refine wp_seq ?_
      refine rg ?_
      refine mv F rfl fun a F => ?_
      refine ls (qv F (r_gt (F.ev (x := .tmp 21) rfl) (F.ev (x := .const (.int .i64 50)) rfl)) fun a F => ?_)
      refine rgend ?_
      by_cases c14 : (IntKind.i64.wrap (a0.getD (13 : Int).toNat 0)) > 50
      · rw [if_pos c14] at h
        rw [decide_eq_true c14] at F
        refine wp_cond_true (F.ev rfl) ?_
        refine rg ?_
        refine ls (lbd F (vs := []) (cs := [.int .i64 0, .int .i64 0, .int .i64 0, .int .i64 0, .slice none 0 0]) rfl (fun w => by kernel_rfl) fun a F => ?_)
        obtain ⟨_, hr, H⟩ := Hp.store (t := 26) (o := 0) (n := 5) (vs := [.int .i64 0, .int .i64 0, .int .i64 0, .int .i64 0, .slice none 0 0]) (cs' := [.int .i64 0, .int .i64 0, .int .i64 0, .int .i64 0, .slice none 0 0]) (H) (F.ev (x := .tmp 2) rfl) (F.ev (x := .tmp 23) rfl) rfl sz26 rfl (Nat.le_of_ble_eq_true rfl) rfl rfl
        refine ls (qn F (.inl rfl) (hr _ _ _ _) fun a F => ?_)
        refine as_ F (v := .bool false) rfl fun a F => ?_
        refine rgend ?_
        replace F := F.only [3, 2] (l' := [(3, .bool false), (2, .pointer (some ⟨g1, 0, none⟩))]) rfl
        refine wp_ret ?_
        replace H := H.nilRd kByte
        try dsimp only at h
        obtain ⟨rfl, rfl⟩ := Prod.mk.inj (Option.some.inj h)
        exact RET _ _ (retC2 F rfl rfl rfl (ldvA (cel_range (o := 0) (n := 5) (vs := [.int .i64 0, .int .i64 0, .int .i64 0, .int .i64 0, .slice none 0 0]) (H.cell 0 rfl) rfl) agg26 rfl) ⟨_, rfl, none, 0, rfl, H.px5.px4.px3.px2.px1.fx0⟩)
      · rw [if_neg c14] at h
        rw [decide_eq_false c14] at F
        refine wp_cond_false (F.ev rfl) ?_
        refine wp_skip ?_
        refine wp_seq ?_
        obtain ⟨o_21, k_21, h⟩ := Option.bind_eq_some_iff.1 h
        refine cut (fun a w => ∃ (x16 : Int) (x17 : Int) (x18 : Int) (x19 : List Int), (x16, x17, x18, x19) = o_21 ∧ ∃ (g15 : Nat) (A20 : Option Addr) (c21 : Nat), Fr 63 [] [(0, .slice A0_ a0.length c0_), (2, .pointer (some ⟨g1, 0, none⟩)), (4, .int .i64 (IntKind.i64.wrap (a0.getD (13 : Int).toNat 0))), (5, .pointer (some ⟨g15, 0, none⟩))] a ∧ Hp w0 (rd kByte A0_ c0_ a0 :: ps) (own kByte 5 A20 c21 x19 :: cel g15 [.int .i64 x16, .int .i64 x17, .int .i64 (IntKind.i64.wrap (a0.getD (10 : Int).toNat 0)), .int .i64 x18, .slice A20 x19.length c21] 26 :: cel g1 [.int .i64 0, .int .i64 0, .int .i64 0, .int .i64 0, .slice none 0 0] 26 :: fs) w) ?_ ?_
        · skip
          replace H := H.drew
          have HS := H
          refine dr (fun w => Hp w0 (celz g10 o11 [.int .u8 ((a0.getD (13 : Int).toNat 0))] :: says kByte [.int .u8 ((a0.getD (13 : Int).toNat 0))] ((a0.getD (13 : Int).toNat 0)) :: celz g4 o5 [.int .u8 ((a0.getD (0 : Int).toNat 0))] :: says kByte [.int .u8 ((a0.getD (0 : Int).toNat 0))] ((a0.getD (0 : Int).toNat 0)) :: rd kByte A0_ c0_ a0 :: ps) (cel g1 [.int .i64 0, .int .i64 0, .int .i64 0, .int .i64 0, .slice none 0 0] 26 :: fs) w) _ (by kernel_rfl) ?_ (n := 22)
          refine dq 0 F rfl (by kernel_rfl) NP HS (fun w S => (r_mv (F.ev (x := .tmp 0) rfl))) fun a F => ?_
          obtain ⟨c23, k_21⟩ := guardO k_21
          obtain ⟨A24, c25, hr, H⟩ := Hp.sl (kd := kByte) (jl := (0 : Int)) (jh := (8 : Int)) H 4 rfl (F.ev (x := .tmp 24) rfl) Try.underlying23 sz5 (.inl ⟨rfl, rfl⟩) (.inr ⟨_, _, rfl, (F.ev (x := .const (.int .i64 8)) rfl)⟩) c23
          have HS := H
          refine dmoreH HS (fun w S => S.px0) ?_
          refine dq 1 F rfl (by kernel_rfl) NP HS (fun w S => (hr _ _ _ _ _ _)) fun a F => ?_
          refine dq 3 F rfl (by kernel_rfl) NP HS (fun w S => (r_mv (F.ev (x := .tmp 0) rfl))) fun a F => ?_
          obtain ⟨c26, k_21⟩ := guardO k_21
          obtain ⟨A27, c28, hr, H⟩ := Hp.sl (kd := kByte) (jl := (8 : Int)) (jh := (10 : Int)) H 5 rfl (F.ev (x := .tmp 27) rfl) Try.underlying23 sz5 (.inr ⟨_, _, rfl, (F.ev (x := .const (.int .i64 8)) rfl)⟩) (.inr ⟨_, _, rfl, (F.ev (x := .const (.int .i64 10)) rfl)⟩) c26
          have HS := H
          refine dmoreH HS (fun w S => S.px0) ?_
          refine dq 4 F rfl (by kernel_rfl) NP HS (fun w S => (hr _ _ _ _ _ _)) fun a F => ?_
          refine dq 6 F rfl (by kernel_rfl) NP HS (fun w S => (r_mv (F.ev (x := .tmp 0) rfl))) fun a F => ?_
          obtain ⟨c29, k_21⟩ := guardO k_21
          obtain ⟨g30, o31, s32, hr, H⟩ := H.ix 0 6 rfl (F.ev (x := .tmp 30) rfl) (F.ev (x := .const (.int .i64 10)) rfl) Try.underlying23 sz5 (by decide) c29.1 c29.2
          obtain ⟨rfl, hr33⟩ := H.says_byte 1 rfl
          have HS := H
          refine dmoreH HS (fun w S => S.px1.px0) ?_
          refine dq 7 F rfl (by kernel_rfl) NP HS (fun w S => (hr _ _ _ _ _ _)) fun a F => ?_
          refine dq 8 F rfl (by kernel_rfl) NP HS (fun w S => (r_ld (F.ev (x := .tmp 31) rfl) (range_cell (j := 0) (S.range 0 rfl) rfl) one5)) fun a F => ?_
          refine dq 9 F rfl (by kernel_rfl) NP HS (fun w S => (r_ci (F.ev (x := .tmp 32) rfl) Try.underlying3 Try.underlying5)) fun a F => ?_
          refine dq 10 F rfl (by kernel_rfl) NP HS (fun w S => (r_mv (F.ev (x := .tmp 0) rfl))) fun a F => ?_
          obtain ⟨c34, k_21⟩ := guardO k_21
          obtain ⟨A35, c36, hr, H⟩ := Hp.sl (kd := kByte) (jl := (11 : Int)) (jh := (13 : Int)) H 8 rfl (F.ev (x := .tmp 34) rfl) Try.underlying23 sz5 (.inr ⟨_, _, rfl, (F.ev (x := .const (.int .i64 11)) rfl)⟩) (.inr ⟨_, _, rfl, (F.ev (x := .const (.int .i64 13)) rfl)⟩) c34
          have HS := H
          refine dmoreH HS (fun w S => S.px0) ?_
          refine dq 11 F rfl (by kernel_rfl) NP HS (fun w S => (hr _ _ _ _ _ _)) fun a F => ?_
          refine dq 14 F rfl (by kernel_rfl) NP HS (fun w S => (r_mv (F.ev (x := .tmp 0) rfl))) fun a F => ?_
          refine dq 15 F rfl (by kernel_rfl) NP HS (fun w S => (r_mv (F.ev (x := .tmp 4) rfl))) fun a F => ?_
          refine dq 16 F rfl (by kernel_rfl) NP HS (fun w S => (r_add (F.ev (x := .const (.int .i64 14)) rfl) (F.ev (x := .tmp 39) rfl))) fun a F => ?_
          obtain ⟨c37, k_21⟩ := guardO k_21
          obtain ⟨A38, c39, hr, H⟩ := Hp.sl (kd := kByte) (jl := (14 : Int)) (jh := IntKind.i64.wrap (14 + (IntKind.i64.wrap (a0.getD (13 : Int).toNat 0)))) H 9 rfl (F.ev (x := .tmp 38) rfl) Try.underlying23 sz5 (.inr ⟨_, _, rfl, (F.ev (x := .const (.int .i64 14)) rfl)⟩) (.inr ⟨_, _, rfl, (F.ev (x := .tmp 40) rfl)⟩) c37
          have HS := H
          refine dmoreH HS (fun w S => S.px0) ?_
          refine dq 17 F rfl (by kernel_rfl) NP HS (fun w S => (hr _ _ _ _ _ _)) fun a F => ?_
          refine d3 2 13 20 rfl rfl rfl (by kernel_rfl) ?_ ?_ ?_
          · skip
            obtain ⟨x40, e41, k_21⟩ := Option.bind_eq_some_iff.1 k_21
            try dsimp only at k_21
            refine call F Try.func72 (ref16_Read_ok (H.p5) e41) rfl rfl fun v w hR a F => ?_
            obtain ⟨rfl, H⟩ := hR
            have HS := H
            refine kg _ HS (fun w S => S) ?_
            refine d3 5 13 20 rfl rfl rfl (by kernel_rfl) ?_ ?_ ?_
            · skip
              obtain ⟨x42, e43, k_21⟩ := Option.bind_eq_some_iff.1 k_21
              try dsimp only at k_21
              refine call F Try.func72 (ref16_Read_ok (H.p4) e43) rfl rfl fun v w hR a F => ?_
              obtain ⟨rfl, H⟩ := hR
              have HS := H
              refine kg _ HS (fun w S => S) ?_
              refine d3 12 13 20 rfl rfl rfl (by kernel_rfl) ?_ ?_ ?_
              · skip
                obtain ⟨x44, e45, k_21⟩ := Option.bind_eq_some_iff.1 k_21
                try dsimp only at k_21
                refine call F Try.func72 (ref16_Read_ok (H.p1) e45) rfl rfl fun v w hR a F => ?_
                obtain ⟨rfl, H⟩ := hR
                have HS := H
                refine kg _ HS (fun w S => S) ?_
                refine d2 13 20 rfl rfl (by kernel_rfl) ?_ ?_
                · skip
                  refine lbs F H (e := 5) (vs := []) (cs := []) rfl (fun w => by kernel_rfl) fun g46 w a H F => ?_
                  have HS := H.fx0
                  refine kg _ HS (fun w S => S) ?_
                  refine d2 18 20 rfl rfl (by kernel_rfl) ?_ ?_
                  · skip
                    replace H := Hp.litOwn (kd := kByte) (xs := []) (H) (SayL.nil) (Nat.le_of_ble_eq_true rfl)
                    obtain ⟨c47, k_21⟩ := guardO k_21
                    obtain ⟨A48, c49, _, hr, H⟩ := Hp.appendRd (kd := kByte) (xs := []) (ys := ((a0.take (IntKind.i64.wrap (14 + (IntKind.i64.wrap (a0.getD (13 : Int).toNat 0)))).toNat).drop ((14 : Int)).toNat)) (H) 0 rfl (F.ev (x := .tmp 37) rfl) (F.ev (x := .tmp 41) rfl) Try.underlying23 ti5 rfl (by decide) (by decide) c47
                    rw [List.nil_append] at hr H
                    refine qv F (hr _ _ _ _ _) fun a F => ?_
                    have HS := H.fx0
                    refine kg _ HS (fun w S => S) ?_
                    refine dq 19 F rfl (by kernel_rfl) NP HS (fun w S => (r_bd F (vs := [(0, .int .i64 x40), (1, .int .i64 x42), (2, .int .i64 (IntKind.i64.wrap (a0.getD (10 : Int).toNat 0))), (3, .int .i64 x44), (4, .slice A48 (((a0.take (IntKind.i64.wrap (14 + (IntKind.i64.wrap (a0.getD (13 : Int).toNat 0)))).toNat).drop ((14 : Int)).toNat)).length c49)]) (cs := [.int .i64 x40, .int .i64 x42, .int .i64 (IntKind.i64.wrap (a0.getD (10 : Int).toNat 0)), .int .i64 x44, .slice A48 (((a0.take (IntKind.i64.wrap (14 + (IntKind.i64.wrap (a0.getD (13 : Int).toNat 0)))).toNat).drop ((14 : Int)).toNat)).length c49]) rfl (fun w => by kernel_rfl))) fun a F => ?_
                    refine d1 20 rfl (by kernel_rfl) (lal F H ti26 (cs := [.int .i64 0, .int .i64 0, .int .i64 0, .int .i64 0, .slice none 0 0]) rfl fun g50 w a H F => ?_)
                    have HS := H.fx1.fx0
                    refine kg _ HS (fun w S => S) ?_
                    obtain ⟨_, hr, H⟩ := Hp.store (t := 26) (o := 0) (n := 5) (vs := [.int .i64 x40, .int .i64 x42, .int .i64 (IntKind.i64.wrap (a0.getD (10 : Int).toNat 0)), .int .i64 x44, .slice A48 (((a0.take (IntKind.i64.wrap (14 + (IntKind.i64.wrap (a0.getD (13 : Int).toNat 0)))).toNat).drop ((14 : Int)).toNat)).length c49]) (cs' := [.int .i64 x40, .int .i64 x42, .int .i64 (IntKind.i64.wrap (a0.getD (10 : Int).toNat 0)), .int .i64 x44, .slice A48 (((a0.take (IntKind.i64.wrap (14 + (IntKind.i64.wrap (a0.getD (13 : Int).toNat 0)))).toNat).drop ((14 : Int)).toNat)).length c49]) (H) (F.ev (x := .tmp 5) rfl) (F.ev (x := .tmp 43) rfl) rfl sz26 rfl (Nat.le_of_ble_eq_true rfl) rfl rfl
                    refine d1 21 rfl (by kernel_rfl) (qn F (.inl rfl) (hr _ _ _ _) fun a F => ?_)
                    have HS := H.fx1.fx0
                    refine kg _ HS (fun w S => S) ?_
                    refine ddone (by kernel_rfl) ?_
                    replace F := F.only [5, 4, 2, 0] (l' := [(5, .pointer (some ⟨g50, 0, none⟩)), (4, .int .i64 (IntKind.i64.wrap (a0.getD (13 : Int).toNat 0))), (2, .pointer (some ⟨g1, 0, none⟩)), (0, .slice A0_ a0.length c0_)]) rfl
                    try dsimp only at k_21
                    obtain rfl := Option.some.inj k_21
                    exact ⟨_, _, _, _, rfl, g50, A48, c49, F.only [0, 2, 4, 5] rfl, H.px9.px8.px7.px6.px5.px4.px3.px2.px1.px0.f2.f1.f2⟩
                  · skip
                    refine lal F H ti26 (cs := [.int .i64 0, .int .i64 0, .int .i64 0, .int .i64 0, .slice none 0 0]) rfl fun g51 w a H F => ?_
                    have HS := H.fx1.fx0
                    refine kg _ HS (fun w S => S) ?_
                    replace H := Hp.litOwn (kd := kByte) (xs := []) (H.f2.f1.f2) (SayL.nil) (Nat.le_of_ble_eq_true rfl)
                    obtain ⟨c52, k_21⟩ := guardO k_21
                    obtain ⟨A53, c54, _, hr, H⟩ := Hp.appendRd (kd := kByte) (xs := []) (ys := ((a0.take (IntKind.i64.wrap (14 + (IntKind.i64.wrap (a0.getD (13 : Int).toNat 0)))).toNat).drop ((14 : Int)).toNat)) (H) 0 rfl (F.ev (x := .tmp 37) rfl) (F.ev (x := .tmp 41) rfl) Try.underlying23 ti5 rfl (by decide) (by decide) c52
                    rw [List.nil_append] at hr H
                    refine d1 18 rfl (by kernel_rfl) (qv F (hr _ _ _ _ _) fun a F => ?_)
                    have HS := H.fx1.fx0
                    refine kg _ HS (fun w S => S) ?_
                    refine dq 19 F rfl (by kernel_rfl) NP HS (fun w S => (r_bd F (vs := [(0, .int .i64 x40), (1, .int .i64 x42), (2, .int .i64 (IntKind.i64.wrap (a0.getD (10 : Int).toNat 0))), (3, .int .i64 x44), (4, .slice A53 (((a0.take (IntKind.i64.wrap (14 + (IntKind.i64.wrap (a0.getD (13 : Int).toNat 0)))).toNat).drop ((14 : Int)).toNat)).length c54)]) (cs := [.int .i64 x40, .int .i64 x42, .int .i64 (IntKind.i64.wrap (a0.getD (10 : Int).toNat 0)), .int .i64 x44, .slice A53 (((a0.take (IntKind.i64.wrap (14 + (IntKind.i64.wrap (a0.getD (13 : Int).toNat 0)))).toNat).drop ((14 : Int)).toNat)).length c54]) rfl (fun w => by kernel_rfl))) fun a F => ?_
                    obtain ⟨_, hr, H⟩ := Hp.store (t := 26) (o := 0) (n := 5) (vs := [.int .i64 x40, .int .i64 x42, .int .i64 (IntKind.i64.wrap (a0.getD (10 : Int).toNat 0)), .int .i64 x44, .slice A53 (((a0.take (IntKind.i64.wrap (14 + (IntKind.i64.wrap (a0.getD (13 : Int).toNat 0)))).toNat).drop ((14 : Int)).toNat)).length c54]) (cs' := [.int .i64 x40, .int .i64 x42, .int .i64 (IntKind.i64.wrap (a0.getD (10 : Int).toNat 0)), .int .i64 x44, .slice A53 (((a0.take (IntKind.i64.wrap (14 + (IntKind.i64.wrap (a0.getD (13 : Int).toNat 0)))).toNat).drop ((14 : Int)).toNat)).length c54]) (H.f2.f1.f2) (F.ev (x := .tmp 5) rfl) (F.ev (x := .tmp 43) rfl) rfl sz26 rfl (Nat.le_of_ble_eq_true rfl) rfl rfl
                    refine d1 21 rfl (by kernel_rfl) (qn F (.inl rfl) (hr _ _ _ _) fun a F => ?_)
                    have HS := H.fx1.fx0
                    refine kg _ HS (fun w S => S) ?_
                    refine ddone (by kernel_rfl) ?_
                    replace F := F.only [5, 4, 2, 0] (l' := [(5, .pointer (some ⟨g51, 0, none⟩)), (4, .int .i64 (IntKind.i64.wrap (a0.getD (13 : Int).toNat 0))), (2, .pointer (some ⟨g1, 0, none⟩)), (0, .slice A0_ a0.length c0_)]) rfl
                    try dsimp only at k_21
                    obtain rfl := Option.some.inj k_21
                    exact ⟨_, _, _, _, rfl, g51, A53, c54, F.only [0, 2, 4, 5] rfl, H.px9.px8.px7.px6.px5.px4.px3.px2.px1.px0.f2.f1.f2⟩
                · skip
                  refine lal F H ti26 (cs := [.int .i64 0, .int .i64 0, .int .i64 0, .int .i64 0, .slice none 0 0]) rfl fun g55 w a H F => ?_
                  have HS := H.fx0
                  refine kg _ HS (fun w S => S) ?_
                  refine d1 13 rfl (by kernel_rfl) (lbs F H (e := 5) (vs := []) (cs := []) rfl (fun w => by kernel_rfl) fun g56 w a H F => ?_)
                  have HS := H.fx1.fx0
                  refine kg _ HS (fun w S => S) ?_
                  replace H := Hp.litOwn (kd := kByte) (xs := []) (H) (SayL.nil) (Nat.le_of_ble_eq_true rfl)
                  obtain ⟨c57, k_21⟩ := guardO k_21
                  obtain ⟨A58, c59, _, hr, H⟩ := Hp.appendRd (kd := kByte) (xs := []) (ys := ((a0.take (IntKind.i64.wrap (14 + (IntKind.i64.wrap (a0.getD (13 : Int).toNat 0)))).toNat).drop ((14 : Int)).toNat)) (H) 0 rfl (F.ev (x := .tmp 37) rfl) (F.ev (x := .tmp 41) rfl) Try.underlying23 ti5 rfl (by decide) (by decide) c57
                  rw [List.nil_append] at hr H
                  refine d1 18 rfl (by kernel_rfl) (qv F (hr _ _ _ _ _) fun a F => ?_)
                  have HS := H.fx1.fx0
                  refine kg _ HS (fun w S => S) ?_
                  refine dq 19 F rfl (by kernel_rfl) NP HS (fun w S => (r_bd F (vs := [(0, .int .i64 x40), (1, .int .i64 x42), (2, .int .i64 (IntKind.i64.wrap (a0.getD (10 : Int).toNat 0))), (3, .int .i64 x44), (4, .slice A58 (((a0.take (IntKind.i64.wrap (14 + (IntKind.i64.wrap (a0.getD (13 : Int).toNat 0)))).toNat).drop ((14 : Int)).toNat)).length c59)]) (cs := [.int .i64 x40, .int .i64 x42, .int .i64 (IntKind.i64.wrap (a0.getD (10 : Int).toNat 0)), .int .i64 x44, .slice A58 (((a0.take (IntKind.i64.wrap (14 + (IntKind.i64.wrap (a0.getD (13 : Int).toNat 0)))).toNat).drop ((14 : Int)).toNat)).length c59]) rfl (fun w => by kernel_rfl))) fun a F => ?_
                  obtain ⟨_, hr, H⟩ := Hp.store (t := 26) (o := 0) (n := 5) (vs := [.int .i64 x40, .int .i64 x42, .int .i64 (IntKind.i64.wrap (a0.getD (10 : Int).toNat 0)), .int .i64 x44, .slice A58 (((a0.take (IntKind.i64.wrap (14 + (IntKind.i64.wrap (a0.getD (13 : Int).toNat 0)))).toNat).drop ((14 : Int)).toNat)).length c59]) (cs' := [.int .i64 x40, .int .i64 x42, .int .i64 (IntKind.i64.wrap (a0.getD (10 : Int).toNat 0)), .int .i64 x44, .slice A58 (((a0.take (IntKind.i64.wrap (14 + (IntKind.i64.wrap (a0.getD (13 : Int).toNat 0)))).toNat).drop ((14 : Int)).toNat)).length c59]) (H.f2.f1.f2) (F.ev (x := .tmp 5) rfl) (F.ev (x := .tmp 43) rfl) rfl sz26 rfl (Nat.le_of_ble_eq_true rfl) rfl rfl
                  refine d1 21 rfl (by kernel_rfl) (qn F (.inl rfl) (hr _ _ _ _) fun a F => ?_)
                  have HS := H.fx1.fx0
                  refine kg _ HS (fun w S => S) ?_
                  refine ddone (by kernel_rfl) ?_
                  replace F := F.only [5, 4, 2, 0] (l' := [(5, .pointer (some ⟨g55, 0, none⟩)), (4, .int .i64 (IntKind.i64.wrap (a0.getD (13 : Int).toNat 0))), (2, .pointer (some ⟨g1, 0, none⟩)), (0, .slice A0_ a0.length c0_)]) rfl
                  try dsimp only at k_21
                  obtain rfl := Option.some.inj k_21
                  exact ⟨_, _, _, _, rfl, g55, A58, c59, F.only [0, 2, 4, 5] rfl, H.px9.px8.px7.px6.px5.px4.px3.px2.px1.px0.f2.f1.f2⟩
              · skip
                refine lbs F H (e := 5) (vs := []) (cs := []) rfl (fun w => by kernel_rfl) fun g60 w a H F => ?_
                have HS := H.fx0
                refine kg _ HS (fun w S => S) ?_
                refine d2 12 20 rfl rfl (by kernel_rfl) ?_ ?_
                · skip
                  obtain ⟨x61, e62, k_21⟩ := Option.bind_eq_some_iff.1 k_21
                  try dsimp only at k_21
                  refine call F Try.func72 (ref16_Read_ok (H.p1) e62) rfl rfl fun v w hR a F => ?_
                  obtain ⟨rfl, H⟩ := hR
                  have HS := H.fx0
                  refine kg _ HS (fun w S => S) ?_
                  refine d2 18 20 rfl rfl (by kernel_rfl) ?_ ?_
                  · skip
                    replace H := Hp.litOwn (kd := kByte) (xs := []) (H) (SayL.nil) (Nat.le_of_ble_eq_true rfl)
                    obtain ⟨c63, k_21⟩ := guardO k_21
                    obtain ⟨A64, c65, _, hr, H⟩ := Hp.appendRd (kd := kByte) (xs := []) (ys := ((a0.take (IntKind.i64.wrap (14 + (IntKind.i64.wrap (a0.getD (13 : Int).toNat 0)))).toNat).drop ((14 : Int)).toNat)) (H) 0 rfl (F.ev (x := .tmp 37) rfl) (F.ev (x := .tmp 41) rfl) Try.underlying23 ti5 rfl (by decide) (by decide) c63
                    rw [List.nil_append] at hr H
                    refine qv F (hr _ _ _ _ _) fun a F => ?_
                    have HS := H.fx0
                    refine kg _ HS (fun w S => S) ?_
                    refine dq 19 F rfl (by kernel_rfl) NP HS (fun w S => (r_bd F (vs := [(0, .int .i64 x40), (1, .int .i64 x42), (2, .int .i64 (IntKind.i64.wrap (a0.getD (10 : Int).toNat 0))), (3, .int .i64 x61), (4, .slice A64 (((a0.take (IntKind.i64.wrap (14 + (IntKind.i64.wrap (a0.getD (13 : Int).toNat 0)))).toNat).drop ((14 : Int)).toNat)).length c65)]) (cs := [.int .i64 x40, .int .i64 x42, .int .i64 (IntKind.i64.wrap (a0.getD (10 : Int).toNat 0)), .int .i64 x61, .slice A64 (((a0.take (IntKind.i64.wrap (14 + (IntKind.i64.wrap (a0.getD (13 : Int).toNat 0)))).toNat).drop ((14 : Int)).toNat)).length c65]) rfl (fun w => by kernel_rfl))) fun a F => ?_
                    refine d1 20 rfl (by kernel_rfl) (lal F H ti26 (cs := [.int .i64 0, .int .i64 0, .int .i64 0, .int .i64 0, .slice none 0 0]) rfl fun g66 w a H F => ?_)
                    have HS := H.fx1.fx0
                    refine kg _ HS (fun w S => S) ?_
                    obtain ⟨_, hr, H⟩ := Hp.store (t := 26) (o := 0) (n := 5) (vs := [.int .i64 x40, .int .i64 x42, .int .i64 (IntKind.i64.wrap (a0.getD (10 : Int).toNat 0)), .int .i64 x61, .slice A64 (((a0.take (IntKind.i64.wrap (14 + (IntKind.i64.wrap (a0.getD (13 : Int).toNat 0)))).toNat).drop ((14 : Int)).toNat)).length c65]) (cs' := [.int .i64 x40, .int .i64 x42, .int .i64 (IntKind.i64.wrap (a0.getD (10 : Int).toNat 0)), .int .i64 x61, .slice A64 (((a0.take (IntKind.i64.wrap (14 + (IntKind.i64.wrap (a0.getD (13 : Int).toNat 0)))).toNat).drop ((14 : Int)).toNat)).length c65]) (H) (F.ev (x := .tmp 5) rfl) (F.ev (x := .tmp 43) rfl) rfl sz26 rfl (Nat.le_of_ble_eq_true rfl) rfl rfl
                    refine d1 21 rfl (by kernel_rfl) (qn F (.inl rfl) (hr _ _ _ _) fun a F => ?_)
                    have HS := H.fx1.fx0
                    refine kg _ HS (fun w S => S) ?_
                    refine ddone (by kernel_rfl) ?_
                    replace F := F.only [5, 4, 2, 0] (l' := [(5, .pointer (some ⟨g66, 0, none⟩)), (4, .int .i64 (IntKind.i64.wrap (a0.getD (13 : Int).toNat 0))), (2, .pointer (some ⟨g1, 0, none⟩)), (0, .slice A0_ a0.length c0_)]) rfl
                    try dsimp only at k_21
                    obtain rfl := Option.some.inj k_21
                    exact ⟨_, _, _, _, rfl, g66, A64, c65, F.only [0, 2, 4, 5] rfl, H.px9.px8.px7.px6.px5.px4.px3.px2.px1.px0.f2.f1.f2⟩
                  · skip
                    refine lal F H ti26 (cs := [.int .i64 0, .int .i64 0, .int .i64 0, .int .i64 0, .slice none 0 0]) rfl fun g67 w a H F => ?_
                    have HS := H.fx1.fx0
                    refine kg _ HS (fun w S => S) ?_
                    replace H := Hp.litOwn (kd := kByte) (xs := []) (H.f2.f1.f2) (SayL.nil) (Nat.le_of_ble_eq_true rfl)
                    obtain ⟨c68, k_21⟩ := guardO k_21
                    obtain ⟨A69, c70, _, hr, H⟩ := Hp.appendRd (kd := kByte) (xs := []) (ys := ((a0.take (IntKind.i64.wrap (14 + (IntKind.i64.wrap (a0.getD (13 : Int).toNat 0)))).toNat).drop ((14 : Int)).toNat)) (H) 0 rfl (F.ev (x := .tmp 37) rfl) (F.ev (x := .tmp 41) rfl) Try.underlying23 ti5 rfl (by decide) (by decide) c68
                    rw [List.nil_append] at hr H
                    refine d1 18 rfl (by kernel_rfl) (qv F (hr _ _ _ _ _) fun a F => ?_)
                    have HS := H.fx1.fx0
                    refine kg _ HS (fun w S => S) ?_
                    refine dq 19 F rfl (by kernel_rfl) NP HS (fun w S => (r_bd F (vs := [(0, .int .i64 x40), (1, .int .i64 x42), (2, .int .i64 (IntKind.i64.wrap (a0.getD (10 : Int).toNat 0))), (3, .int .i64 x61), (4, .slice A69 (((a0.take (IntKind.i64.wrap (14 + (IntKind.i64.wrap (a0.getD (13 : Int).toNat 0)))).toNat).drop ((14 : Int)).toNat)).length c70)]) (cs := [.int .i64 x40, .int .i64 x42, .int .i64 (IntKind.i64.wrap (a0.getD (10 : Int).toNat 0)), .int .i64 x61, .slice A69 (((a0.take (IntKind.i64.wrap (14 + (IntKind.i64.wrap (a0.getD (13 : Int).toNat 0)))).toNat).drop ((14 : Int)).toNat)).length c70]) rfl (fun w => by kernel_rfl))) fun a F => ?_
                    obtain ⟨_, hr, H⟩ := Hp.store (t := 26) (o := 0) (n := 5) (vs := [.int .i64 x40, .int .i64 x42, .int .i64 (IntKind.i64.wrap (a0.getD (10 : Int).toNat 0)), .int .i64 x61, .slice A69 (((a0.take (IntKind.i64.wrap (14 + (IntKind.i64.wrap (a0.getD (13 : Int).toNat 0)))).toNat).drop ((14 : Int)).toNat)).length c70]) (cs' := [.int .i64 x40, .int .i64 x42, .int .i64 (IntKind.i64.wrap (a0.getD (10 : Int).toNat 0)), .int .i64 x61, .slice A69 (((a0.take (IntKind.i64.wrap (14 + (IntKind.i64.wrap (a0.getD (13 : Int).toNat 0)))).toNat).drop ((14 : Int)).toNat)).length c70]) (H.f2.f1.f2) (F.ev (x := .tmp 5) rfl) (F.ev (x := .tmp 43) rfl) rfl sz26 rfl (Nat.le_of_ble_eq_true rfl) rfl rfl
                    refine d1 21 rfl (by kernel_rfl) (qn F (.inl rfl) (hr _ _ _ _) fun a F => ?_)
                    have HS := H.fx1.fx0
                    refine kg _ HS (fun w S => S) ?_
                    refine ddone (by kernel_rfl) ?_
                    replace F := F.only [5, 4, 2, 0] (l' := [(5, .pointer (some ⟨g67, 0, none⟩)), (4, .int .i64 (IntKind.i64.wrap (a0.getD (13 : Int).toNat 0))), (2, .pointer (some ⟨g1, 0, none⟩)), (0, .slice A0_ a0.length c0_)]) rfl
                    try dsimp only at k_21
                    obtain rfl := Option.some.inj k_21
                    exact ⟨_, _, _, _, rfl, g67, A69, c70, F.only [0, 2, 4, 5] rfl, H.px9.px8.px7.px6.px5.px4.px3.px2.px1.px0.f2.f1.f2⟩
                · skip
                  refine lal F H ti26 (cs := [.int .i64 0, .int .i64 0, .int .i64 0, .int .i64 0, .slice none 0 0]) rfl fun g71 w a H F => ?_
                  have HS := H.fx1.fx0
                  refine kg _ HS (fun w S => S) ?_
                  obtain ⟨x72, e73, k_21⟩ := Option.bind_eq_some_iff.1 k_21
                  try dsimp only at k_21
                  refine d1 12 rfl (by kernel_rfl) (call F Try.func72 (ref16_Read_ok (H.p1) e73) rfl rfl fun v w hR a F => ?_)
                  obtain ⟨rfl, H⟩ := hR
                  have HS := H.fx1.fx0
                  refine kg _ HS (fun w S => S) ?_
                  replace H := Hp.litOwn (kd := kByte) (xs := []) (H.f2.f1.f2) (SayL.nil) (Nat.le_of_ble_eq_true rfl)
                  obtain ⟨c74, k_21⟩ := guardO k_21
                  obtain ⟨A75, c76, _, hr, H⟩ := Hp.appendRd (kd := kByte) (xs := []) (ys := ((a0.take (IntKind.i64.wrap (14 + (IntKind.i64.wrap (a0.getD (13 : Int).toNat 0)))).toNat).drop ((14 : Int)).toNat)) (H) 0 rfl (F.ev (x := .tmp 37) rfl) (F.ev (x := .tmp 41) rfl) Try.underlying23 ti5 rfl (by decide) (by decide) c74
                  rw [List.nil_append] at hr H
                  refine d1 18 rfl (by kernel_rfl) (qv F (hr _ _ _ _ _) fun a F => ?_)
                  have HS := H.fx1.fx0
                  refine kg _ HS (fun w S => S) ?_
                  refine dq 19 F rfl (by kernel_rfl) NP HS (fun w S => (r_bd F (vs := [(0, .int .i64 x40), (1, .int .i64 x42), (2, .int .i64 (IntKind.i64.wrap (a0.getD (10 : Int).toNat 0))), (3, .int .i64 x72), (4, .slice A75 (((a0.take (IntKind.i64.wrap (14 + (IntKind.i64.wrap (a0.getD (13 : Int).toNat 0)))).toNat).drop ((14 : Int)).toNat)).length c76)]) (cs := [.int .i64 x40, .int .i64 x42, .int .i64 (IntKind.i64.wrap (a0.getD (10 : Int).toNat 0)), .int .i64 x72, .slice A75 (((a0.take (IntKind.i64.wrap (14 + (IntKind.i64.wrap (a0.getD (13 : Int).toNat 0)))).toNat).drop ((14 : Int)).toNat)).length c76]) rfl (fun w => by kernel_rfl))) fun a F => ?_
                  obtain ⟨_, hr, H⟩ := Hp.store (t := 26) (o := 0) (n := 5) (vs := [.int .i64 x40, .int .i64 x42, .int .i64 (IntKind.i64.wrap (a0.getD (10 : Int).toNat 0)), .int .i64 x72, .slice A75 (((a0.take (IntKind.i64.wrap (14 + (IntKind.i64.wrap (a0.getD (13 : Int).toNat 0)))).toNat).drop ((14 : Int)).toNat)).length c76]) (cs' := [.int .i64 x40, .int .i64 x42, .int .i64 (IntKind.i64.wrap (a0.getD (10 : Int).toNat 0)), .int .i64 x72, .slice A75 (((a0.take (IntKind.i64.wrap (14 + (IntKind.i64.wrap (a0.getD (13 : Int).toNat 0)))).toNat).drop ((14 : Int)).toNat)).length c76]) (H.f2.f1.f2) (F.ev (x := .tmp 5) rfl) (F.ev (x := .tmp 43) rfl) rfl sz26 rfl (Nat.le_of_ble_eq_true rfl) rfl rfl
                  refine d1 21 rfl (by kernel_rfl) (qn F (.inl rfl) (hr _ _ _ _) fun a F => ?_)
                  have HS := H.fx1.fx0
                  refine kg _ HS (fun w S => S) ?_
                  refine ddone (by kernel_rfl) ?_
                  replace F := F.only [5, 4, 2, 0] (l' := [(5, .pointer (some ⟨g71, 0, none⟩)), (4, .int .i64 (IntKind.i64.wrap (a0.getD (13 : Int).toNat 0))), (2, .pointer (some ⟨g1, 0, none⟩)), (0, .slice A0_ a0.length c0_)]) rfl
                  try dsimp only at k_21
                  obtain rfl := Option.some.inj k_21
                  exact ⟨_, _, _, _, rfl, g71, A75, c76, F.only [0, 2, 4, 5] rfl, H.px9.px8.px7.px6.px5.px4.px3.px2.px1.px0.f2.f1.f2⟩
              · skip
                refine lal F H ti26 (cs := [.int .i64 0, .int .i64 0, .int .i64 0, .int .i64 0, .slice none 0 0]) rfl fun g77 w a H F => ?_
                have HS := H.fx0
                refine kg _ HS (fun w S => S) ?_
                refine d2 12 13 rfl rfl (by kernel_rfl) ?_ ?_
                · skip
                  obtain ⟨x78, e79, k_21⟩ := Option.bind_eq_some_iff.1 k_21
                  try dsimp only at k_21
                  refine call F Try.func72 (ref16_Read_ok (H.p1) e79) rfl rfl fun v w hR a F => ?_
                  obtain ⟨rfl, H⟩ := hR
                  have HS := H.fx0
                  refine kg _ HS (fun w S => S) ?_
                  refine d1 13 rfl (by kernel_rfl) (lbs F H (e := 5) (vs := []) (cs := []) rfl (fun w => by kernel_rfl) fun g80 w a H F => ?_)
                  have HS := H.fx1.fx0
                  refine kg _ HS (fun w S => S) ?_
                  replace H := Hp.litOwn (kd := kByte) (xs := []) (H) (SayL.nil) (Nat.le_of_ble_eq_true rfl)
                  obtain ⟨c81, k_21⟩ := guardO k_21
                  obtain ⟨A82, c83, _, hr, H⟩ := Hp.appendRd (kd := kByte) (xs := []) (ys := ((a0.take (IntKind.i64.wrap (14 + (IntKind.i64.wrap (a0.getD (13 : Int).toNat 0)))).toNat).drop ((14 : Int)).toNat)) (H) 0 rfl (F.ev (x := .tmp 37) rfl) (F.ev (x := .tmp 41) rfl) Try.underlying23 ti5 rfl (by decide) (by decide) c81
                  rw [List.nil_append] at hr H
                  refine d1 18 rfl (by kernel_rfl) (qv F (hr _ _ _ _ _) fun a F => ?_)
                  have HS := H.fx1.fx0
                  refine kg _ HS (fun w S => S) ?_
                  refine dq 19 F rfl (by kernel_rfl) NP HS (fun w S => (r_bd F (vs := [(0, .int .i64 x40), (1, .int .i64 x42), (2, .int .i64 (IntKind.i64.wrap (a0.getD (10 : Int).toNat 0))), (3, .int .i64 x78), (4, .slice A82 (((a0.take (IntKind.i64.wrap (14 + (IntKind.i64.wrap (a0.getD (13 : Int).toNat 0)))).toNat).drop ((14 : Int)).toNat)).length c83)]) (cs := [.int .i64 x40, .int .i64 x42, .int .i64 (IntKind.i64.wrap (a0.getD (10 : Int).toNat 0)), .int .i64 x78, .slice A82 (((a0.take (IntKind.i64.wrap (14 + (IntKind.i64.wrap (a0.getD (13 : Int).toNat 0)))).toNat).drop ((14 : Int)).toNat)).length c83]) rfl (fun w => by kernel_rfl))) fun a F => ?_
                  obtain ⟨_, hr, H⟩ := Hp.store (t := 26) (o := 0) (n := 5) (vs := [.int .i64 x40, .int .i64 x42, .int .i64 (IntKind.i64.wrap (a0.getD (10 : Int).toNat 0)), .int .i64 x78, .slice A82 (((a0.take (IntKind.i64.wrap (14 + (IntKind.i64.wrap (a0.getD (13 : Int).toNat 0)))).toNat).drop ((14 : Int)).toNat)).length c83]) (cs' := [.int .i64 x40, .int .i64 x42, .int .i64 (IntKind.i64.wrap (a0.getD (10 : Int).toNat 0)), .int .i64 x78, .slice A82 (((a0.take (IntKind.i64.wrap (14 + (IntKind.i64.wrap (a0.getD (13 : Int).toNat 0)))).toNat).drop ((14 : Int)).toNat)).length c83]) (H.f2.f1.f2) (F.ev (x := .tmp 5) rfl) (F.ev (x := .tmp 43) rfl) rfl sz26 rfl (Nat.le_of_ble_eq_true rfl) rfl rfl
                  refine d1 21 rfl (by kernel_rfl) (qn F (.inl rfl) (hr _ _ _ _) fun a F => ?_)
                  have HS := H.fx1.fx0
                  refine kg _ HS (fun w S => S) ?_
                  refine ddone (by kernel_rfl) ?_
                  replace F := F.only [5, 4, 2, 0] (l' := [(5, .pointer (some ⟨g77, 0, none⟩)), (4, .int .i64 (IntKind.i64.wrap (a0.getD (13 : Int).toNat 0))), (2, .pointer (some ⟨g1, 0, none⟩)), (0, .slice A0_ a0.length c0_)]) rfl
                  try dsimp only at k_21
                  obtain rfl := Option.some.inj k_21
                  exact ⟨_, _, _, _, rfl, g77, A82, c83, F.only [0, 2, 4, 5] rfl, H.px9.px8.px7.px6.px5.px4.px3.px2.px1.px0.f2.f1.f2⟩
                · skip
                  refine lbs F H (e := 5) (vs := []) (cs := []) rfl (fun w => by kernel_rfl) fun g84 w a H F => ?_
                  have HS := H.fx1.fx0
                  refine kg _ HS (fun w S => S) ?_
                  obtain ⟨x85, e86, k_21⟩ := Option.bind_eq_some_iff.1 k_21
                  try dsimp only at k_21
                  refine d1 12 rfl (by kernel_rfl) (call F Try.func72 (ref16_Read_ok (H.p1) e86) rfl rfl fun v w hR a F => ?_)
                  obtain ⟨rfl, H⟩ := hR
                  have HS := H.fx1.fx0
                  refine kg _ HS (fun w S => S) ?_
                  replace H := Hp.litOwn (kd := kByte) (xs := []) (H) (SayL.nil) (Nat.le_of_ble_eq_true rfl)
                  obtain ⟨c87, k_21⟩ := guardO k_21
                  obtain ⟨A88, c89, _, hr, H⟩ := Hp.appendRd (kd := kByte) (xs := []) (ys := ((a0.take (IntKind.i64.wrap (14 + (IntKind.i64.wrap (a0.getD (13 : Int).toNat 0)))).toNat).drop ((14 : Int)).toNat)) (H) 0 rfl (F.ev (x := .tmp 37) rfl) (F.ev (x := .tmp 41) rfl) Try.underlying23 ti5 rfl (by decide) (by decide) c87
                  rw [List.nil_append] at hr H
                  refine d1 18 rfl (by kernel_rfl) (qv F (hr _ _ _ _ _) fun a F => ?_)
                  have HS := H.fx1.fx0
                  refine kg _ HS (fun w S => S) ?_
                  refine dq 19 F rfl (by kernel_rfl) NP HS (fun w S => (r_bd F (vs := [(0, .int .i64 x40), (1, .int .i64 x42), (2, .int .i64 (IntKind.i64.wrap (a0.getD (10 : Int).toNat 0))), (3, .int .i64 x85), (4, .slice A88 (((a0.take (IntKind.i64.wrap (14 + (IntKind.i64.wrap (a0.getD (13 : Int).toNat 0)))).toNat).drop ((14 : Int)).toNat)).length c89)]) (cs := [.int .i64 x40, .int .i64 x42, .int .i64 (IntKind.i64.wrap (a0.getD (10 : Int).toNat 0)), .int .i64 x85, .slice A88 (((a0.take (IntKind.i64.wrap (14 + (IntKind.i64.wrap (a0.getD (13 : Int).toNat 0)))).toNat).drop ((14 : Int)).toNat)).length c89]) rfl (fun w => by kernel_rfl))) fun a F => ?_
                  obtain ⟨_, hr, H⟩ := Hp.store (t := 26) (o := 0) (n := 5) (vs := [.int .i64 x40, .int .i64 x42, .int .i64 (IntKind.i64.wrap (a0.getD (10 : Int).toNat 0)), .int .i64 x85, .slice A88 (((a0.take (IntKind.i64.wrap (14 + (IntKind.i64.wrap (a0.getD (13 : Int).toNat 0)))).toNat).drop ((14 : Int)).toNat)).length c89]) (cs' := [.int .i64 x40, .int .i64 x42, .int .i64 (IntKind.i64.wrap (a0.getD (10 : Int).toNat 0)), .int .i64 x85, .slice A88 (((a0.take (IntKind.i64.wrap (14 + (IntKind.i64.wrap (a0.getD (13 : Int).toNat 0)))).toNat).drop ((14 : Int)).toNat)).length c89]) (H.f2.f1.f2) (F.ev (x := .tmp 5) rfl) (F.ev (x := .tmp 43) rfl) rfl sz26 rfl (Nat.le_of_ble_eq_true rfl) rfl rfl
                  refine d1 21 rfl (by kernel_rfl) (qn F (.inl rfl) (hr _ _ _ _) fun a F => ?_)
                  have HS := H.fx1.fx0
                  refine kg _ HS (fun w S => S) ?_
                  refine ddone (by kernel_rfl) ?_
                  replace F := F.only [5, 4, 2, 0] (l' := [(5, .pointer (some ⟨g77, 0, none⟩)), (4, .int .i64 (IntKind.i64.wrap (a0.getD (13 : Int).toNat 0))), (2, .pointer (some ⟨g1, 0, none⟩)), (0, .slice A0_ a0.length c0_)]) rfl
                  try dsimp only at k_21
                  obtain rfl := Option.some.inj k_21
                  exact ⟨_, _, _, _, rfl, g77, A88, c89, F.only [0, 2, 4, 5] rfl, H.px9.px8.px7.px6.px5.px4.px3.px2.px1.px0.f2.f1.f2⟩
            · skip
              refine lbs F H (e := 5) (vs := []) (cs := []) rfl (fun w => by kernel_rfl) fun g90 w a H F => ?_
              have HS := H.fx0
              refine kg _ HS (fun w S => S) ?_
              refine d2 5 20 rfl rfl (by kernel_rfl) ?_ ?_
              · skip
                obtain ⟨x91, e92, k_21⟩ := Option.bind_eq_some_iff.1 k_21
                try dsimp only at k_21
                refine call F Try.func72 (ref16_Read_ok (H.p4) e92) rfl rfl fun v w hR a F => ?_
                obtain ⟨rfl, H⟩ := hR
                have HS := H.fx0
                refine kg _ HS (fun w S => S) ?_
                refine d2 12 20 rfl rfl (by kernel_rfl) ?_ ?_
                · skip
                  obtain ⟨x93, e94, k_21⟩ := Option.bind_eq_some_iff.1 k_21
                  try dsimp only at k_21
                  refine call F Try.func72 (ref16_Read_ok (H.p1) e94) rfl rfl fun v w hR a F => ?_
                  obtain ⟨rfl, H⟩ := hR
                  have HS := H.fx0
                  refine kg _ HS (fun w S => S) ?_
                  refine d2 18 20 rfl rfl (by kernel_rfl) ?_ ?_
                  · skip
                    replace H := Hp.litOwn (kd := kByte) (xs := []) (H) (SayL.nil) (Nat.le_of_ble_eq_true rfl)
                    obtain ⟨c95, k_21⟩ := guardO k_21
                    obtain ⟨A96, c97, _, hr, H⟩ := Hp.appendRd (kd := kByte) (xs := []) (ys := ((a0.take (IntKind.i64.wrap (14 + (IntKind.i64.wrap (a0.getD (13 : Int).toNat 0)))).toNat).drop ((14 : Int)).toNat)) (H) 0 rfl (F.ev (x := .tmp 37) rfl) (F.ev (x := .tmp 41) rfl) Try.underlying23 ti5 rfl (by decide) (by decide) c95
                    rw [List.nil_append] at hr H
                    refine qv F (hr _ _ _ _ _) fun a F => ?_
                    have HS := H.fx0
                    refine kg _ HS (fun w S => S) ?_
                    refine dq 19 F rfl (by kernel_rfl) NP HS (fun w S => (r_bd F (vs := [(0, .int .i64 x40), (1, .int .i64 x91), (2, .int .i64 (IntKind.i64.wrap (a0.getD (10 : Int).toNat 0))), (3, .int .i64 x93), (4, .slice A96 (((a0.take (IntKind.i64.wrap (14 + (IntKind.i64.wrap (a0.getD (13 : Int).toNat 0)))).toNat).drop ((14 : Int)).toNat)).length c97)]) (cs := [.int .i64 x40, .int .i64 x91, .int .i64 (IntKind.i64.wrap (a0.getD (10 : Int).toNat 0)), .int .i64 x93, .slice A96 (((a0.take (IntKind.i64.wrap (14 + (IntKind.i64.wrap (a0.getD (13 : Int).toNat 0)))).toNat).drop ((14 : Int)).toNat)).length c97]) rfl (fun w => by kernel_rfl))) fun a F => ?_
                    refine d1 20 rfl (by kernel_rfl) (lal F H ti26 (cs := [.int .i64 0, .int .i64 0, .int .i64 0, .int .i64 0, .slice none 0 0]) rfl fun g98 w a H F => ?_)
                    have HS := H.fx1.fx0
                    refine kg _ HS (fun w S => S) ?_
                    obtain ⟨_, hr, H⟩ := Hp.store (t := 26) (o := 0) (n := 5) (vs := [.int .i64 x40, .int .i64 x91, .int .i64 (IntKind.i64.wrap (a0.getD (10 : Int).toNat 0)), .int .i64 x93, .slice A96 (((a0.take (IntKind.i64.wrap (14 + (IntKind.i64.wrap (a0.getD (13 : Int).toNat 0)))).toNat).drop ((14 : Int)).toNat)).length c97]) (cs' := [.int .i64 x40, .int .i64 x91, .int .i64 (IntKind.i64.wrap (a0.getD (10 : Int).toNat 0)), .int .i64 x93, .slice A96 (((a0.take (IntKind.i64.wrap (14 + (IntKind.i64.wrap (a0.getD (13 : Int).toNat 0)))).toNat).drop ((14 : Int)).toNat)).length c97]) (H) (F.ev (x := .tmp 5) rfl) (F.ev (x := .tmp 43) rfl) rfl sz26 rfl (Nat.le_of_ble_eq_true rfl) rfl rfl
                    refine d1 21 rfl (by kernel_rfl) (qn F (.inl rfl) (hr _ _ _ _) fun a F => ?_)
                    have HS := H.fx1.fx0
                    refine kg _ HS (fun w S => S) ?_
                    refine ddone (by kernel_rfl) ?_
                    replace F := F.only [5, 4, 2, 0] (l' := [(5, .pointer (some ⟨g98, 0, none⟩)), (4, .int .i64 (IntKind.i64.wrap (a0.getD (13 : Int).toNat 0))), (2, .pointer (some ⟨g1, 0, none⟩)), (0, .slice A0_ a0.length c0_)]) rfl
                    try dsimp only at k_21
                    obtain rfl := Option.some.inj k_21
                    exact ⟨_, _, _, _, rfl, g98, A96, c97, F.only [0, 2, 4, 5] rfl, H.px9.px8.px7.px6.px5.px4.px3.px2.px1.px0.f2.f1.f2⟩
                  · skip
                    refine lal F H ti26 (cs := [.int .i64 0, .int .i64 0, .int .i64 0, .int .i64 0, .slice none 0 0]) rfl fun g99 w a H F => ?_
                    have HS := H.fx1.fx0
                    refine kg _ HS (fun w S => S) ?_
                    replace H := Hp.litOwn (kd := kByte) (xs := []) (H.f2.f1.f2) (SayL.nil) (Nat.le_of_ble_eq_true rfl)
                    obtain ⟨c100, k_21⟩ := guardO k_21
                    obtain ⟨A101, c102, _, hr, H⟩ := Hp.appendRd (kd := kByte) (xs := []) (ys := ((a0.take (IntKind.i64.wrap (14 + (IntKind.i64.wrap (a0.getD (13 : Int).toNat 0)))).toNat).drop ((14 : Int)).toNat)) (H) 0 rfl (F.ev (x := .tmp 37) rfl) (F.ev (x := .tmp 41) rfl) Try.underlying23 ti5 rfl (by decide) (by decide) c100
                    rw [List.nil_append] at hr H
                    refine d1 18 rfl (by kernel_rfl) (qv F (hr _ _ _ _ _) fun a F => ?_)
                    have HS := H.fx1.fx0
                    refine kg _ HS (fun w S => S) ?_
                    refine dq 19 F rfl (by kernel_rfl) NP HS (fun w S => (r_bd F (vs := [(0, .int .i64 x40), (1, .int .i64 x91), (2, .int .i64 (IntKind.i64.wrap (a0.getD (10 : Int).toNat 0))), (3, .int .i64 x93), (4, .slice A101 (((a0.take (IntKind.i64.wrap (14 + (IntKind.i64.wrap (a0.getD (13 : Int).toNat 0)))).toNat).drop ((14 : Int)).toNat)).length c102)]) (cs := [.int .i64 x40, .int .i64 x91, .int .i64 (IntKind.i64.wrap (a0.getD (10 : Int).toNat 0)), .int .i64 x93, .slice A101 (((a0.take (IntKind.i64.wrap (14 + (IntKind.i64.wrap (a0.getD (13 : Int).toNat 0)))).toNat).drop ((14 : Int)).toNat)).length c102]) rfl (fun w => by kernel_rfl))) fun a F => ?_
                    obtain ⟨_, hr, H⟩ := Hp.store (t := 26) (o := 0) (n := 5) (vs := [.int .i64 x40, .int .i64 x91, .int .i64 (IntKind.i64.wrap (a0.getD (10 : Int).toNat 0)), .int .i64 x93, .slice A101 (((a0.take (IntKind.i64.wrap (14 + (IntKind.i64.wrap (a0.getD (13 : Int).toNat 0)))).toNat).drop ((14 : Int)).toNat)).length c102]) (cs' := [.int .i64 x40, .int .i64 x91, .int .i64 (IntKind.i64.wrap (a0.getD (10 : Int).toNat 0)), .int .i64 x93, .slice A101 (((a0.take (IntKind.i64.wrap (14 + (IntKind.i64.wrap (a0.getD (13 : Int).toNat 0)))).toNat).drop ((14 : Int)).toNat)).length c102]) (H.f2.f1.f2) (F.ev (x := .tmp 5) rfl) (F.ev (x := .tmp 43) rfl) rfl sz26 rfl (Nat.le_of_ble_eq_true rfl) rfl rfl
                    refine d1 21 rfl (by kernel_rfl) (qn F (.inl rfl) (hr _ _ _ _) fun a F => ?_)
                    have HS := H.fx1.fx0
                    refine kg _ HS (fun w S => S) ?_
                    refine ddone (by kernel_rfl) ?_
                    replace F := F.only [5, 4, 2, 0] (l' := [(5, .pointer (some ⟨g99, 0, none⟩)), (4, .int .i64 (IntKind.i64.wrap (a0.getD (13 : Int).toNat 0))), (2, .pointer (some ⟨g1, 0, none⟩)), (0, .slice A0_ a0.length c0_)]) rfl
                    try dsimp only at k_21
                    obtain rfl := Option.some.inj k_21
                    exact ⟨_, _, _, _, rfl, g99, A101, c102, F.only [0, 2, 4, 5] rfl, H.px9.px8.px7.px6.px5.px4.px3.px2.px1.px0.f2.f1.f2⟩
                · skip
                  refine lal F H ti26 (cs := [.int .i64 0, .int .i64 0, .int .i64 0, .int .i64 0, .slice none 0 0]) rfl fun g103 w a H F => ?_
                  have HS := H.fx1.fx0
                  refine kg _ HS (fun w S => S) ?_
                  obtain ⟨x104, e105, k_21⟩ := Option.bind_eq_some_iff.1 k_21
                  try dsimp only at k_21
                  refine d1 12 rfl (by kernel_rfl) (call F Try.func72 (ref16_Read_ok (H.p1) e105) rfl rfl fun v w hR a F => ?_)
                  obtain ⟨rfl, H⟩ := hR
                  have HS := H.fx1.fx0
                  refine kg _ HS (fun w S => S) ?_
                  replace H := Hp.litOwn (kd := kByte) (xs := []) (H.f2.f1.f2) (SayL.nil) (Nat.le_of_ble_eq_true rfl)
                  obtain ⟨c106, k_21⟩ := guardO k_21
                  obtain ⟨A107, c108, _, hr, H⟩ := Hp.appendRd (kd := kByte) (xs := []) (ys := ((a0.take (IntKind.i64.wrap (14 + (IntKind.i64.wrap (a0.getD (13 : Int).toNat 0)))).toNat).drop ((14 : Int)).toNat)) (H) 0 rfl (F.ev (x := .tmp 37) rfl) (F.ev (x := .tmp 41) rfl) Try.underlying23 ti5 rfl (by decide) (by decide) c106
                  rw [List.nil_append] at hr H
                  refine d1 18 rfl (by kernel_rfl) (qv F (hr _ _ _ _ _) fun a F => ?_)
                  have HS := H.fx1.fx0
                  refine kg _ HS (fun w S => S) ?_
                  refine dq 19 F rfl (by kernel_rfl) NP HS (fun w S => (r_bd F (vs := [(0, .int .i64 x40), (1, .int .i64 x91), (2, .int .i64 (IntKind.i64.wrap (a0.getD (10 : Int).toNat 0))), (3, .int .i64 x104), (4, .slice A107 (((a0.take (IntKind.i64.wrap (14 + (IntKind.i64.wrap (a0.getD (13 : Int).toNat 0)))).toNat).drop ((14 : Int)).toNat)).length c108)]) (cs := [.int .i64 x40, .int .i64 x91, .int .i64 (IntKind.i64.wrap (a0.getD (10 : Int).toNat 0)), .int .i64 x104, .slice A107 (((a0.take (IntKind.i64.wrap (14 + (IntKind.i64.wrap (a0.getD (13 : Int).toNat 0)))).toNat).drop ((14 : Int)).toNat)).length c108]) rfl (fun w => by kernel_rfl))) fun a F => ?_
                  obtain ⟨_, hr, H⟩ := Hp.store (t := 26) (o := 0) (n := 5) (vs := [.int .i64 x40, .int .i64 x91, .int .i64 (IntKind.i64.wrap (a0.getD (10 : Int).toNat 0)), .int .i64 x104, .slice A107 (((a0.take (IntKind.i64.wrap (14 + (IntKind.i64.wrap (a0.getD (13 : Int).toNat 0)))).toNat).drop ((14 : Int)).toNat)).length c108]) (cs' := [.int .i64 x40, .int .i64 x91, .int .i64 (IntKind.i64.wrap (a0.getD (10 : Int).toNat 0)), .int .i64 x104, .slice A107 (((a0.take (IntKind.i64.wrap (14 + (IntKind.i64.wrap (a0.getD (13 : Int).toNat 0)))).toNat).drop ((14 : Int)).toNat)).length c108]) (H.f2.f1.f2) (F.ev (x := .tmp 5) rfl) (F.ev (x := .tmp 43) rfl) rfl sz26 rfl (Nat.le_of_ble_eq_true rfl) rfl rfl
                  refine d1 21 rfl (by kernel_rfl) (qn F (.inl rfl) (hr _ _ _ _) fun a F => ?_)
                  have HS := H.fx1.fx0
                  refine kg _ HS (fun w S => S) ?_
                  refine ddone (by kernel_rfl) ?_
                  replace F := F.only [5, 4, 2, 0] (l' := [(5, .pointer (some ⟨g103, 0, none⟩)), (4, .int .i64 (IntKind.i64.wrap (a0.getD (13 : Int).toNat 0))), (2, .pointer (some ⟨g1, 0, none⟩)), (0, .slice A0_ a0.length c0_)]) rfl
                  try dsimp only at k_21
                  obtain rfl := Option.some.inj k_21
                  exact ⟨_, _, _, _, rfl, g103, A107, c108, F.only [0, 2, 4, 5] rfl, H.px9.px8.px7.px6.px5.px4.px3.px2.px1.px0.f2.f1.f2⟩
              · skip
                refine lal F H ti26 (cs := [.int .i64 0, .int .i64 0, .int .i64 0, .int .i64 0, .slice none 0 0]) rfl fun g109 w a H F => ?_
                have HS := H.fx1.fx0
                refine kg _ HS (fun w S => S) ?_
                obtain ⟨x110, e111, k_21⟩ := Option.bind_eq_some_iff.1 k_21
                try dsimp only at k_21
                refine d1 5 rfl (by kernel_rfl) (call F Try.func72 (ref16_Read_ok (H.p4) e111) rfl rfl fun v w hR a F => ?_)
                obtain ⟨rfl, H⟩ := hR
                have HS := H.fx1.fx0
                refine kg _ HS (fun w S => S) ?_
                obtain ⟨x112, e113, k_21⟩ := Option.bind_eq_some_iff.1 k_21
                try dsimp only at k_21
                refine d1 12 rfl (by kernel_rfl) (call F Try.func72 (ref16_Read_ok (H.p1) e113) rfl rfl fun v w hR a F => ?_)
                obtain ⟨rfl, H⟩ := hR
                have HS := H.fx1.fx0
                refine kg _ HS (fun w S => S) ?_
                replace H := Hp.litOwn (kd := kByte) (xs := []) (H.f2.f1.f2) (SayL.nil) (Nat.le_of_ble_eq_true rfl)
                obtain ⟨c114, k_21⟩ := guardO k_21
                obtain ⟨A115, c116, _, hr, H⟩ := Hp.appendRd (kd := kByte) (xs := []) (ys := ((a0.take (IntKind.i64.wrap (14 + (IntKind.i64.wrap (a0.getD (13 : Int).toNat 0)))).toNat).drop ((14 : Int)).toNat)) (H) 0 rfl (F.ev (x := .tmp 37) rfl) (F.ev (x := .tmp 41) rfl) Try.underlying23 ti5 rfl (by decide) (by decide) c114
                rw [List.nil_append] at hr H
                refine d1 18 rfl (by kernel_rfl) (qv F (hr _ _ _ _ _) fun a F => ?_)
                have HS := H.fx1.fx0
                refine kg _ HS (fun w S => S) ?_
                refine dq 19 F rfl (by kernel_rfl) NP HS (fun w S => (r_bd F (vs := [(0, .int .i64 x40), (1, .int .i64 x110), (2, .int .i64 (IntKind.i64.wrap (a0.getD (10 : Int).toNat 0))), (3, .int .i64 x112), (4, .slice A115 (((a0.take (IntKind.i64.wrap (14 + (IntKind.i64.wrap (a0.getD (13 : Int).toNat 0)))).toNat).drop ((14 : Int)).toNat)).length c116)]) (cs := [.int .i64 x40, .int .i64 x110, .int .i64 (IntKind.i64.wrap (a0.getD (10 : Int).toNat 0)), .int .i64 x112, .slice A115 (((a0.take (IntKind.i64.wrap (14 + (IntKind.i64.wrap (a0.getD (13 : Int).toNat 0)))).toNat).drop ((14 : Int)).toNat)).length c116]) rfl (fun w => by kernel_rfl))) fun a F => ?_
                obtain ⟨_, hr, H⟩ := Hp.store (t := 26) (o := 0) (n := 5) (vs := [.int .i64 x40, .int .i64 x110, .int .i64 (IntKind.i64.wrap (a0.getD (10 : Int).toNat 0)), .int .i64 x112, .slice A115 (((a0.take (IntKind.i64.wrap (14 + (IntKind.i64.wrap (a0.getD (13 : Int).toNat 0)))).toNat).drop ((14 : Int)).toNat)).length c116]) (cs' := [.int .i64 x40, .int .i64 x110, .int .i64 (IntKind.i64.wrap (a0.getD (10 : Int).toNat 0)), .int .i64 x112, .slice A115 (((a0.take (IntKind.i64.wrap (14 + (IntKind.i64.wrap (a0.getD (13 : Int).toNat 0)))).toNat).drop ((14 : Int)).toNat)).length c116]) (H.f2.f1.f2) (F.ev (x := .tmp 5) rfl) (F.ev (x := .tmp 43) rfl) rfl sz26 rfl (Nat.le_of_ble_eq_true rfl) rfl rfl
                refine d1 21 rfl (by kernel_rfl) (qn F (.inl rfl) (hr _ _ _ _) fun a F => ?_)
                have HS := H.fx1.fx0
                refine kg _ HS (fun w S => S) ?_
                refine ddone (by kernel_rfl) ?_
                replace F := F.only [5, 4, 2, 0] (l' := [(5, .pointer (some ⟨g109, 0, none⟩)), (4, .int .i64 (IntKind.i64.wrap (a0.getD (13 : Int).toNat 0))), (2, .pointer (some ⟨g1, 0, none⟩)), (0, .slice A0_ a0.length c0_)]) rfl
                try dsimp only at k_21
                obtain rfl := Option.some.inj k_21
                exact ⟨_, _, _, _, rfl, g109, A115, c116, F.only [0, 2, 4, 5] rfl, H.px9.px8.px7.px6.px5.px4.px3.px2.px1.px0.f2.f1.f2⟩
            · skip
              refine lal F H ti26 (cs := [.int .i64 0, .int .i64 0, .int .i64 0, .int .i64 0, .slice none 0 0]) rfl fun g117 w a H F => ?_
              have HS := H.fx0
              refine kg _ HS (fun w S => S) ?_
              refine d2 5 13 rfl rfl (by kernel_rfl) ?_ ?_
              · skip
                obtain ⟨x118, e119, k_21⟩ := Option.bind_eq_some_iff.1 k_21
                try dsimp only at k_21
                refine call F Try.func72 (ref16_Read_ok (H.p4) e119) rfl rfl fun v w hR a F => ?_
                obtain ⟨rfl, H⟩ := hR
                have HS := H.fx0
                refine kg _ HS (fun w S => S) ?_
                refine d2 12 13 rfl rfl (by kernel_rfl) ?_ ?_
                · skip
                  obtain ⟨x120, e121, k_21⟩ := Option.bind_eq_some_iff.1 k_21
                  try dsimp only at k_21
                  refine call F Try.func72 (ref16_Read_ok (H.p1) e121) rfl rfl fun v w hR a F => ?_
                  obtain ⟨rfl, H⟩ := hR
                  have HS := H.fx0
                  refine kg _ HS (fun w S => S) ?_
                  refine d1 13 rfl (by kernel_rfl) (lbs F H (e := 5) (vs := []) (cs := []) rfl (fun w => by kernel_rfl) fun g122 w a H F => ?_)
                  have HS := H.fx1.fx0
                  refine kg _ HS (fun w S => S) ?_
                  replace H := Hp.litOwn (kd := kByte) (xs := []) (H) (SayL.nil) (Nat.le_of_ble_eq_true rfl)
                  obtain ⟨c123, k_21⟩ := guardO k_21
                  obtain ⟨A124, c125, _, hr, H⟩ := Hp.appendRd (kd := kByte) (xs := []) (ys := ((a0.take (IntKind.i64.wrap (14 + (IntKind.i64.wrap (a0.getD (13 : Int).toNat 0)))).toNat).drop ((14 : Int)).toNat)) (H) 0 rfl (F.ev (x := .tmp 37) rfl) (F.ev (x := .tmp 41) rfl) Try.underlying23 ti5 rfl (by decide) (by decide) c123
                  rw [List.nil_append] at hr H
                  refine d1 18 rfl (by kernel_rfl) (qv F (hr _ _ _ _ _) fun a F => ?_)
                  have HS := H.fx1.fx0
                  refine kg _ HS (fun w S => S) ?_
                  refine dq 19 F rfl (by kernel_rfl) NP HS (fun w S => (r_bd F (vs := [(0, .int .i64 x40), (1, .int .i64 x118), (2, .int .i64 (IntKind.i64.wrap (a0.getD (10 : Int).toNat 0))), (3, .int .i64 x120), (4, .slice A124 (((a0.take (IntKind.i64.wrap (14 + (IntKind.i64.wrap (a0.getD (13 : Int).toNat 0)))).toNat).drop ((14 : Int)).toNat)).length c125)]) (cs := [.int .i64 x40, .int .i64 x118, .int .i64 (IntKind.i64.wrap (a0.getD (10 : Int).toNat 0)), .int .i64 x120, .slice A124 (((a0.take (IntKind.i64.wrap (14 + (IntKind.i64.wrap (a0.getD (13 : Int).toNat 0)))).toNat).drop ((14 : Int)).toNat)).length c125]) rfl (fun w => by kernel_rfl))) fun a F => ?_
                  obtain ⟨_, hr, H⟩ := Hp.store (t := 26) (o := 0) (n := 5) (vs := [.int .i64 x40, .int .i64 x118, .int .i64 (IntKind.i64.wrap (a0.getD (10 : Int).toNat 0)), .int .i64 x120, .slice A124 (((a0.take (IntKind.i64.wrap (14 + (IntKind.i64.wrap (a0.getD (13 : Int).toNat 0)))).toNat).drop ((14 : Int)).toNat)).length c125]) (cs' := [.int .i64 x40, .int .i64 x118, .int .i64 (IntKind.i64.wrap (a0.getD (10 : Int).toNat 0)), .int .i64 x120, .slice A124 (((a0.take (IntKind.i64.wrap (14 + (IntKind.i64.wrap (a0.getD (13 : Int).toNat 0)))).toNat).drop ((14 : Int)).toNat)).length c125]) (H.f2.f1.f2) (F.ev (x := .tmp 5) rfl) (F.ev (x := .tmp 43) rfl) rfl sz26 rfl (Nat.le_of_ble_eq_true rfl) rfl rfl
                  refine d1 21 rfl (by kernel_rfl) (qn F (.inl rfl) (hr _ _ _ _) fun a F => ?_)
                  have HS := H.fx1.fx0
                  refine kg _ HS (fun w S => S) ?_
                  refine ddone (by kernel_rfl) ?_
                  replace F := F.only [5, 4, 2, 0] (l' := [(5, .pointer (some ⟨g117, 0, none⟩)), (4, .int .i64 (IntKind.i64.wrap (a0.getD (13 : Int).toNat 0))), (2, .pointer (some ⟨g1, 0, none⟩)), (0, .slice A0_ a0.length c0_)]) rfl
                  try dsimp only at k_21
                  obtain rfl := Option.some.inj k_21
                  exact ⟨_, _, _, _, rfl, g117, A124, c125, F.only [0, 2, 4, 5] rfl, H.px9.px8.px7.px6.px5.px4.px3.px2.px1.px0.f2.f1.f2⟩
                · skip
                  refine lbs F H (e := 5) (vs := []) (cs := []) rfl (fun w => by kernel_rfl) fun g126 w a H F => ?_
                  have HS := H.fx1.fx0
                  refine kg _ HS (fun w S => S) ?_
                  obtain ⟨x127, e128, k_21⟩ := Option.bind_eq_some_iff.1 k_21
                  try dsimp only at k_21
                  refine d1 12 rfl (by kernel_rfl) (call F Try.func72 (ref16_Read_ok (H.p1) e128) rfl rfl fun v w hR a F => ?_)
                  obtain ⟨rfl, H⟩ := hR
                  have HS := H.fx1.fx0
                  refine kg _ HS (fun w S => S) ?_
                  replace H := Hp.litOwn (kd := kByte) (xs := []) (H) (SayL.nil) (Nat.le_of_ble_eq_true rfl)
                  obtain ⟨c129, k_21⟩ := guardO k_21
                  obtain ⟨A130, c131, _, hr, H⟩ := Hp.appendRd (kd := kByte) (xs := []) (ys := ((a0.take (IntKind.i64.wrap (14 + (IntKind.i64.wrap (a0.getD (13 : Int).toNat 0)))).toNat).drop ((14 : Int)).toNat)) (H) 0 rfl (F.ev (x := .tmp 37) rfl) (F.ev (x := .tmp 41) rfl) Try.underlying23 ti5 rfl (by decide) (by decide) c129
                  rw [List.nil_append] at hr H
                  refine d1 18 rfl (by kernel_rfl) (qv F (hr _ _ _ _ _) fun a F => ?_)
                  have HS := H.fx1.fx0
                  refine kg _ HS (fun w S => S) ?_
                  refine dq 19 F rfl (by kernel_rfl) NP HS (fun w S => (r_bd F (vs := [(0, .int .i64 x40), (1, .int .i64 x118), (2, .int .i64 (IntKind.i64.wrap (a0.getD (10 : Int).toNat 0))), (3, .int .i64 x127), (4, .slice A130 (((a0.take (IntKind.i64.wrap (14 + (IntKind.i64.wrap (a0.getD (13 : Int).toNat 0)))).toNat).drop ((14 : Int)).toNat)).length c131)]) (cs := [.int .i64 x40, .int .i64 x118, .int .i64 (IntKind.i64.wrap (a0.getD (10 : Int).toNat 0)), .int .i64 x127, .slice A130 (((a0.take (IntKind.i64.wrap (14 + (IntKind.i64.wrap (a0.getD (13 : Int).toNat 0)))).toNat).drop ((14 : Int)).toNat)).length c131]) rfl (fun w => by kernel_rfl))) fun a F => ?_
                  obtain ⟨_, hr, H⟩ := Hp.store (t := 26) (o := 0) (n := 5) (vs := [.int .i64 x40, .int .i64 x118, .int .i64 (IntKind.i64.wrap (a0.getD (10 : Int).toNat 0)), .int .i64 x127, .slice A130 (((a0.take (IntKind.i64.wrap (14 + (IntKind.i64.wrap (a0.getD (13 : Int).toNat 0)))).toNat).drop ((14 : Int)).toNat)).length c131]) (cs' := [.int .i64 x40, .int .i64 x118, .int .i64 (IntKind.i64.wrap (a0.getD (10 : Int).toNat 0)), .int .i64 x127, .slice A130 (((a0.take (IntKind.i64.wrap (14 + (IntKind.i64.wrap (a0.getD (13 : Int).toNat 0)))).toNat).drop ((14 : Int)).toNat)).length c131]) (H.f2.f1.f2) (F.ev (x := .tmp 5) rfl) (F.ev (x := .tmp 43) rfl) rfl sz26 rfl (Nat.le_of_ble_eq_true rfl) rfl rfl
                  refine d1 21 rfl (by kernel_rfl) (qn F (.inl rfl) (hr _ _ _ _) fun a F => ?_)
                  have HS := H.fx1.fx0
                  refine kg _ HS (fun w S => S) ?_
                  refine ddone (by kernel_rfl) ?_
                  replace F := F.only [5, 4, 2, 0] (l' := [(5, .pointer (some ⟨g117, 0, none⟩)), (4, .int .i64 (IntKind.i64.wrap (a0.getD (13 : Int).toNat 0))), (2, .pointer (some ⟨g1, 0, none⟩)), (0, .slice A0_ a0.length c0_)]) rfl
                  try dsimp only at k_21
                  obtain rfl := Option.some.inj k_21
                  exact ⟨_, _, _, _, rfl, g117, A130, c131, F.only [0, 2, 4, 5] rfl, H.px9.px8.px7.px6.px5.px4.px3.px2.px1.px0.f2.f1.f2⟩
              · skip
                refine lbs F H (e := 5) (vs := []) (cs := []) rfl (fun w => by kernel_rfl) fun g132 w a H F => ?_
                have HS := H.fx1.fx0
                refine kg _ HS (fun w S => S) ?_
                obtain ⟨x133, e134, k_21⟩ := Option.bind_eq_some_iff.1 k_21
                try dsimp only at k_21
                refine d1 5 rfl (by kernel_rfl) (call F Try.func72 (ref16_Read_ok (H.p4) e134) rfl rfl fun v w hR a F => ?_)
                obtain ⟨rfl, H⟩ := hR
                have HS := H.fx1.fx0
                refine kg _ HS (fun w S => S) ?_
                obtain ⟨x135, e136, k_21⟩ := Option.bind_eq_some_iff.1 k_21
                try dsimp only at k_21
                refine d1 12 rfl (by kernel_rfl) (call F Try.func72 (ref16_Read_ok (H.p1) e136) rfl rfl fun v w hR a F => ?_)
                obtain ⟨rfl, H⟩ := hR
                have HS := H.fx1.fx0
                refine kg _ HS (fun w S => S) ?_
                replace H := Hp.litOwn (kd := kByte) (xs := []) (H) (SayL.nil) (Nat.le_of_ble_eq_true rfl)
                obtain ⟨c137, k_21⟩ := guardO k_21
                obtain ⟨A138, c139, _, hr, H⟩ := Hp.appendRd (kd := kByte) (xs := []) (ys := ((a0.take (IntKind.i64.wrap (14 + (IntKind.i64.wrap (a0.getD (13 : Int).toNat 0)))).toNat).drop ((14 : Int)).toNat)) (H) 0 rfl (F.ev (x := .tmp 37) rfl) (F.ev (x := .tmp 41) rfl) Try.underlying23 ti5 rfl (by decide) (by decide) c137
                rw [List.nil_append] at hr H
                refine d1 18 rfl (by kernel_rfl) (qv F (hr _ _ _ _ _) fun a F => ?_)
                have HS := H.fx1.fx0
                refine kg _ HS (fun w S => S) ?_
                refine dq 19 F rfl (by kernel_rfl) NP HS (fun w S => (r_bd F (vs := [(0, .int .i64 x40), (1, .int .i64 x133), (2, .int .i64 (IntKind.i64.wrap (a0.getD (10 : Int).toNat 0))), (3, .int .i64 x135), (4, .slice A138 (((a0.take (IntKind.i64.wrap (14 + (IntKind.i64.wrap (a0.getD (13 : Int).toNat 0)))).toNat).drop ((14 : Int)).toNat)).length c139)]) (cs := [.int .i64 x40, .int .i64 x133, .int .i64 (IntKind.i64.wrap (a0.getD (10 : Int).toNat 0)), .int .i64 x135, .slice A138 (((a0.take (IntKind.i64.wrap (14 + (IntKind.i64.wrap (a0.getD (13 : Int).toNat 0)))).toNat).drop ((14 : Int)).toNat)).length c139]) rfl (fun w => by kernel_rfl))) fun a F => ?_
                obtain ⟨_, hr, H⟩ := Hp.store (t := 26) (o := 0) (n := 5) (vs := [.int .i64 x40, .int .i64 x133, .int .i64 (IntKind.i64.wrap (a0.getD (10 : Int).toNat 0)), .int .i64 x135, .slice A138 (((a0.take (IntKind.i64.wrap (14 + (IntKind.i64.wrap (a0.getD (13 : Int).toNat 0)))).toNat).drop ((14 : Int)).toNat)).length c139]) (cs' := [.int .i64 x40, .int .i64 x133, .int .i64 (IntKind.i64.wrap (a0.getD (10 : Int).toNat 0)), .int .i64 x135, .slice A138 (((a0.take (IntKind.i64.wrap (14 + (IntKind.i64.wrap (a0.getD (13 : Int).toNat 0)))).toNat).drop ((14 : Int)).toNat)).length c139]) (H.f2.f1.f2) (F.ev (x := .tmp 5) rfl) (F.ev (x := .tmp 43) rfl) rfl sz26 rfl (Nat.le_of_ble_eq_true rfl) rfl rfl
                refine d1 21 rfl (by kernel_rfl) (qn F (.inl rfl) (hr _ _ _ _) fun a F => ?_)
                have HS := H.fx1.fx0
                refine kg _ HS (fun w S => S) ?_
                refine ddone (by kernel_rfl) ?_
                replace F := F.only [5, 4, 2, 0] (l' := [(5, .pointer (some ⟨g117, 0, none⟩)), (4, .int .i64 (IntKind.i64.wrap (a0.getD (13 : Int).toNat 0))), (2, .pointer (some ⟨g1, 0, none⟩)), (0, .slice A0_ a0.length c0_)]) rfl
                try dsimp only at k_21
                obtain rfl := Option.some.inj k_21
                exact ⟨_, _, _, _, rfl, g117, A138, c139, F.only [0, 2, 4, 5] rfl, H.px9.px8.px7.px6.px5.px4.px3.px2.px1.px0.f2.f1.f2⟩
          · skip
            refine lbs F H (e := 5) (vs := []) (cs := []) rfl (fun w => by kernel_rfl) fun g140 w a H F => ?_
            have HS := H.fx0
            refine kg _ HS (fun w S => S) ?_
            refine d2 2 20 rfl rfl (by kernel_rfl) ?_ ?_
            · skip
              obtain ⟨x141, e142, k_21⟩ := Option.bind_eq_some_iff.1 k_21
              try dsimp only at k_21
              refine call F Try.func72 (ref16_Read_ok (H.p5) e142) rfl rfl fun v w hR a F => ?_
              obtain ⟨rfl, H⟩ := hR
              have HS := H.fx0
              refine kg _ HS (fun w S => S) ?_
              refine d2 5 20 rfl rfl (by kernel_rfl) ?_ ?_
              · skip
                obtain ⟨x143, e144, k_21⟩ := Option.bind_eq_some_iff.1 k_21
                try dsimp only at k_21
                refine call F Try.func72 (ref16_Read_ok (H.p4) e144) rfl rfl fun v w hR a F => ?_
                obtain ⟨rfl, H⟩ := hR
                have HS := H.fx0
                refine kg _ HS (fun w S => S) ?_
                refine d2 12 20 rfl rfl (by kernel_rfl) ?_ ?_
                · skip
                  obtain ⟨x145, e146, k_21⟩ := Option.bind_eq_some_iff.1 k_21
                  try dsimp only at k_21
                  refine call F Try.func72 (ref16_Read_ok (H.p1) e146) rfl rfl fun v w hR a F => ?_
                  obtain ⟨rfl, H⟩ := hR
                  have HS := H.fx0
                  refine kg _ HS (fun w S => S) ?_
                  refine d2 18 20 rfl rfl (by kernel_rfl) ?_ ?_
                  · skip
                    replace H := Hp.litOwn (kd := kByte) (xs := []) (H) (SayL.nil) (Nat.le_of_ble_eq_true rfl)
                    obtain ⟨c147, k_21⟩ := guardO k_21
                    obtain ⟨A148, c149, _, hr, H⟩ := Hp.appendRd (kd := kByte) (xs := []) (ys := ((a0.take (IntKind.i64.wrap (14 + (IntKind.i64.wrap (a0.getD (13 : Int).toNat 0)))).toNat).drop ((14 : Int)).toNat)) (H) 0 rfl (F.ev (x := .tmp 37) rfl) (F.ev (x := .tmp 41) rfl) Try.underlying23 ti5 rfl (by decide) (by decide) c147
                    rw [List.nil_append] at hr H
                    refine qv F (hr _ _ _ _ _) fun a F => ?_
                    have HS := H.fx0
                    refine kg _ HS (fun w S => S) ?_
                    refine dq 19 F rfl (by kernel_rfl) NP HS (fun w S => (r_bd F (vs := [(0, .int .i64 x141), (1, .int .i64 x143), (2, .int .i64 (IntKind.i64.wrap (a0.getD (10 : Int).toNat 0))), (3, .int .i64 x145), (4, .slice A148 (((a0.take (IntKind.i64.wrap (14 + (IntKind.i64.wrap (a0.getD (13 : Int).toNat 0)))).toNat).drop ((14 : Int)).toNat)).length c149)]) (cs := [.int .i64 x141, .int .i64 x143, .int .i64 (IntKind.i64.wrap (a0.getD (10 : Int).toNat 0)), .int .i64 x145, .slice A148 (((a0.take (IntKind.i64.wrap (14 + (IntKind.i64.wrap (a0.getD (13 : Int).toNat 0)))).toNat).drop ((14 : Int)).toNat)).length c149]) rfl (fun w => by kernel_rfl))) fun a F => ?_
                    refine d1 20 rfl (by kernel_rfl) (lal F H ti26 (cs := [.int .i64 0, .int .i64 0, .int .i64 0, .int .i64 0, .slice none 0 0]) rfl fun g150 w a H F => ?_)
                    have HS := H.fx1.fx0
                    refine kg _ HS (fun w S => S) ?_
                    obtain ⟨_, hr, H⟩ := Hp.store (t := 26) (o := 0) (n := 5) (vs := [.int .i64 x141, .int .i64 x143, .int .i64 (IntKind.i64.wrap (a0.getD (10 : Int).toNat 0)), .int .i64 x145, .slice A148 (((a0.take (IntKind.i64.wrap (14 + (IntKind.i64.wrap (a0.getD (13 : Int).toNat 0)))).toNat).drop ((14 : Int)).toNat)).length c149]) (cs' := [.int .i64 x141, .int .i64 x143, .int .i64 (IntKind.i64.wrap (a0.getD (10 : Int).toNat 0)), .int .i64 x145, .slice A148 (((a0.take (IntKind.i64.wrap (14 + (IntKind.i64.wrap (a0.getD (13 : Int).toNat 0)))).toNat).drop ((14 : Int)).toNat)).length c149]) (H) (F.ev (x := .tmp 5) rfl) (F.ev (x := .tmp 43) rfl) rfl sz26 rfl (Nat.le_of_ble_eq_true rfl) rfl rfl
                    refine d1 21 rfl (by kernel_rfl) (qn F (.inl rfl) (hr _ _ _ _) fun a F => ?_)
                    have HS := H.fx1.fx0
                    refine kg _ HS (fun w S => S) ?_
                    refine ddone (by kernel_rfl) ?_
                    replace F := F.only [5, 4, 2, 0] (l' := [(5, .pointer (some ⟨g150, 0, none⟩)), (4, .int .i64 (IntKind.i64.wrap (a0.getD (13 : Int).toNat 0))), (2, .pointer (some ⟨g1, 0, none⟩)), (0, .slice A0_ a0.length c0_)]) rfl
                    try dsimp only at k_21
                    obtain rfl := Option.some.inj k_21
                    exact ⟨_, _, _, _, rfl, g150, A148, c149, F.only [0, 2, 4, 5] rfl, H.px9.px8.px7.px6.px5.px4.px3.px2.px1.px0.f2.f1.f2⟩
                  · skip
                    refine lal F H ti26 (cs := [.int .i64 0, .int .i64 0, .int .i64 0, .int .i64 0, .slice none 0 0]) rfl fun g151 w a H F => ?_
                    have HS := H.fx1.fx0
                    refine kg _ HS (fun w S => S) ?_
                    replace H := Hp.litOwn (kd := kByte) (xs := []) (H.f2.f1.f2) (SayL.nil) (Nat.le_of_ble_eq_true rfl)
                    obtain ⟨c152, k_21⟩ := guardO k_21
                    obtain ⟨A153, c154, _, hr, H⟩ := Hp.appendRd (kd := kByte) (xs := []) (ys := ((a0.take (IntKind.i64.wrap (14 + (IntKind.i64.wrap (a0.getD (13 : Int).toNat 0)))).toNat).drop ((14 : Int)).toNat)) (H) 0 rfl (F.ev (x := .tmp 37) rfl) (F.ev (x := .tmp 41) rfl) Try.underlying23 ti5 rfl (by decide) (by decide) c152
                    rw [List.nil_append] at hr H
                    refine d1 18 rfl (by kernel_rfl) (qv F (hr _ _ _ _ _) fun a F => ?_)
                    have HS := H.fx1.fx0
                    refine kg _ HS (fun w S => S) ?_
                    refine dq 19 F rfl (by kernel_rfl) NP HS (fun w S => (r_bd F (vs := [(0, .int .i64 x141), (1, .int .i64 x143), (2, .int .i64 (IntKind.i64.wrap (a0.getD (10 : Int).toNat 0))), (3, .int .i64 x145), (4, .slice A153 (((a0.take (IntKind.i64.wrap (14 + (IntKind.i64.wrap (a0.getD (13 : Int).toNat 0)))).toNat).drop ((14 : Int)).toNat)).length c154)]) (cs := [.int .i64 x141, .int .i64 x143, .int .i64 (IntKind.i64.wrap (a0.getD (10 : Int).toNat 0)), .int .i64 x145, .slice A153 (((a0.take (IntKind.i64.wrap (14 + (IntKind.i64.wrap (a0.getD (13 : Int).toNat 0)))).toNat).drop ((14 : Int)).toNat)).length c154]) rfl (fun w => by kernel_rfl))) fun a F => ?_
                    obtain ⟨_, hr, H⟩ := Hp.store (t := 26) (o := 0) (n := 5) (vs := [.int .i64 x141, .int .i64 x143, .int .i64 (IntKind.i64.wrap (a0.getD (10 : Int).toNat 0)), .int .i64 x145, .slice A153 (((a0.take (IntKind.i64.wrap (14 + (IntKind.i64.wrap (a0.getD (13 : Int).toNat 0)))).toNat).drop ((14 : Int)).toNat)).length c154]) (cs' := [.int .i64 x141, .int .i64 x143, .int .i64 (IntKind.i64.wrap (a0.getD (10 : Int).toNat 0)), .int .i64 x145, .slice A153 (((a0.take (IntKind.i64.wrap (14 + (IntKind.i64.wrap (a0.getD (13 : Int).toNat 0)))).toNat).drop ((14 : Int)).toNat)).length c154]) (H.f2.f1.f2) (F.ev (x := .tmp 5) rfl) (F.ev (x := .tmp 43) rfl) rfl sz26 rfl (Nat.le_of_ble_eq_true rfl) rfl rfl
                    refine d1 21 rfl (by kernel_rfl) (qn F (.inl rfl) (hr _ _ _ _) fun a F => ?_)
                    have HS := H.fx1.fx0
                    refine kg _ HS (fun w S => S) ?_
                    refine ddone (by kernel_rfl) ?_
                    replace F := F.only [5, 4, 2, 0] (l' := [(5, .pointer (some ⟨g151, 0, none⟩)), (4, .int .i64 (IntKind.i64.wrap (a0.getD (13 : Int).toNat 0))), (2, .pointer (some ⟨g1, 0, none⟩)), (0, .slice A0_ a0.length c0_)]) rfl
                    try dsimp only at k_21
                    obtain rfl := Option.some.inj k_21
                    exact ⟨_, _, _, _, rfl, g151, A153, c154, F.only [0, 2, 4, 5] rfl, H.px9.px8.px7.px6.px5.px4.px3.px2.px1.px0.f2.f1.f2⟩
                · skip
                  refine lal F H ti26 (cs := [.int .i64 0, .int .i64 0, .int .i64 0, .int .i64 0, .slice none 0 0]) rfl fun g155 w a H F => ?_
                  have HS := H.fx1.fx0
                  refine kg _ HS (fun w S => S) ?_
                  obtain ⟨x156, e157, k_21⟩ := Option.bind_eq_some_iff.1 k_21
                  try dsimp only at k_21
                  refine d1 12 rfl (by kernel_rfl) (call F Try.func72 (ref16_Read_ok (H.p1) e157) rfl rfl fun v w hR a F => ?_)
                  obtain ⟨rfl, H⟩ := hR
                  have HS := H.fx1.fx0
                  refine kg _ HS (fun w S => S) ?_
                  replace H := Hp.litOwn (kd := kByte) (xs := []) (H.f2.f1.f2) (SayL.nil) (Nat.le_of_ble_eq_true rfl)
                  obtain ⟨c158, k_21⟩ := guardO k_21
                  obtain ⟨A159, c160, _, hr, H⟩ := Hp.appendRd (kd := kByte) (xs := []) (ys := ((a0.take (IntKind.i64.wrap (14 + (IntKind.i64.wrap (a0.getD (13 : Int).toNat 0)))).toNat).drop ((14 : Int)).toNat)) (H) 0 rfl (F.ev (x := .tmp 37) rfl) (F.ev (x := .tmp 41) rfl) Try.underlying23 ti5 rfl (by decide) (by decide) c158
                  rw [List.nil_append] at hr H
                  refine d1 18 rfl (by kernel_rfl) (qv F (hr _ _ _ _ _) fun a F => ?_)
                  have HS := H.fx1.fx0
                  refine kg _ HS (fun w S => S) ?_
                  refine dq 19 F rfl (by kernel_rfl) NP HS (fun w S => (r_bd F (vs := [(0, .int .i64 x141), (1, .int .i64 x143), (2, .int .i64 (IntKind.i64.wrap (a0.getD (10 : Int).toNat 0))), (3, .int .i64 x156), (4, .slice A159 (((a0.take (IntKind.i64.wrap (14 + (IntKind.i64.wrap (a0.getD (13 : Int).toNat 0)))).toNat).drop ((14 : Int)).toNat)).length c160)]) (cs := [.int .i64 x141, .int .i64 x143, .int .i64 (IntKind.i64.wrap (a0.getD (10 : Int).toNat 0)), .int .i64 x156, .slice A159 (((a0.take (IntKind.i64.wrap (14 + (IntKind.i64.wrap (a0.getD (13 : Int).toNat 0)))).toNat).drop ((14 : Int)).toNat)).length c160]) rfl (fun w => by kernel_rfl))) fun a F => ?_
                  obtain ⟨_, hr, H⟩ := Hp.store (t := 26) (o := 0) (n := 5) (vs := [.int .i64 x141, .int .i64 x143, .int .i64 (IntKind.i64.wrap (a0.getD (10 : Int).toNat 0)), .int .i64 x156, .slice A159 (((a0.take (IntKind.i64.wrap (14 + (IntKind.i64.wrap (a0.getD (13 : Int).toNat 0)))).toNat).drop ((14 : Int)).toNat)).length c160]) (cs' := [.int .i64 x141, .int .i64 x143, .int .i64 (IntKind.i64.wrap (a0.getD (10 : Int).toNat 0)), .int .i64 x156, .slice A159 (((a0.take (IntKind.i64.wrap (14 + (IntKind.i64.wrap (a0.getD (13 : Int).toNat 0)))).toNat).drop ((14 : Int)).toNat)).length c160]) (H.f2.f1.f2) (F.ev (x := .tmp 5) rfl) (F.ev (x := .tmp 43) rfl) rfl sz26 rfl (Nat.le_of_ble_eq_true rfl) rfl rfl
                  refine d1 21 rfl (by kernel_rfl) (qn F (.inl rfl) (hr _ _ _ _) fun a F => ?_)
                  have HS := H.fx1.fx0
                  refine kg _ HS (fun w S => S) ?_
                  refine ddone (by kernel_rfl) ?_
                  replace F := F.only [5, 4, 2, 0] (l' := [(5, .pointer (some ⟨g155, 0, none⟩)), (4, .int .i64 (IntKind.i64.wrap (a0.getD (13 : Int).toNat 0))), (2, .pointer (some ⟨g1, 0, none⟩)), (0, .slice A0_ a0.length c0_)]) rfl
                  try dsimp only at k_21
                  obtain rfl := Option.some.inj k_21
                  exact ⟨_, _, _, _, rfl, g155, A159, c160, F.only [0, 2, 4, 5] rfl, H.px9.px8.px7.px6.px5.px4.px3.px2.px1.px0.f2.f1.f2⟩
              · skip
                refine lal F H ti26 (cs := [.int .i64 0, .int .i64 0, .int .i64 0, .int .i64 0, .slice none 0 0]) rfl fun g161 w a H F => ?_
                have HS := H.fx1.fx0
                refine kg _ HS (fun w S => S) ?_
                obtain ⟨x162, e163, k_21⟩ := Option.bind_eq_some_iff.1 k_21
                try dsimp only at k_21
                refine d1 5 rfl (by kernel_rfl) (call F Try.func72 (ref16_Read_ok (H.p4) e163) rfl rfl fun v w hR a F => ?_)
                obtain ⟨rfl, H⟩ := hR
                have HS := H.fx1.fx0
                refine kg _ HS (fun w S => S) ?_
                obtain ⟨x164, e165, k_21⟩ := Option.bind_eq_some_iff.1 k_21
                try dsimp only at k_21
                refine d1 12 rfl (by kernel_rfl) (call F Try.func72 (ref16_Read_ok (H.p1) e165) rfl rfl fun v w hR a F => ?_)
                obtain ⟨rfl, H⟩ := hR
                have HS := H.fx1.fx0
                refine kg _ HS (fun w S => S) ?_
                replace H := Hp.litOwn (kd := kByte) (xs := []) (H.f2.f1.f2) (SayL.nil) (Nat.le_of_ble_eq_true rfl)
                obtain ⟨c166, k_21⟩ := guardO k_21
                obtain ⟨A167, c168, _, hr, H⟩ := Hp.appendRd (kd := kByte) (xs := []) (ys := ((a0.take (IntKind.i64.wrap (14 + (IntKind.i64.wrap (a0.getD (13 : Int).toNat 0)))).toNat).drop ((14 : Int)).toNat)) (H) 0 rfl (F.ev (x := .tmp 37) rfl) (F.ev (x := .tmp 41) rfl) Try.underlying23 ti5 rfl (by decide) (by decide) c166
                rw [List.nil_append] at hr H
                refine d1 18 rfl (by kernel_rfl) (qv F (hr _ _ _ _ _) fun a F => ?_)
                have HS := H.fx1.fx0
                refine kg _ HS (fun w S => S) ?_
                refine dq 19 F rfl (by kernel_rfl) NP HS (fun w S => (r_bd F (vs := [(0, .int .i64 x141), (1, .int .i64 x162), (2, .int .i64 (IntKind.i64.wrap (a0.getD (10 : Int).toNat 0))), (3, .int .i64 x164), (4, .slice A167 (((a0.take (IntKind.i64.wrap (14 + (IntKind.i64.wrap (a0.getD (13 : Int).toNat 0)))).toNat).drop ((14 : Int)).toNat)).length c168)]) (cs := [.int .i64 x141, .int .i64 x162, .int .i64 (IntKind.i64.wrap (a0.getD (10 : Int).toNat 0)), .int .i64 x164, .slice A167 (((a0.take (IntKind.i64.wrap (14 + (IntKind.i64.wrap (a0.getD (13 : Int).toNat 0)))).toNat).drop ((14 : Int)).toNat)).length c168]) rfl (fun w => by kernel_rfl))) fun a F => ?_
                obtain ⟨_, hr, H⟩ := Hp.store (t := 26) (o := 0) (n := 5) (vs := [.int .i64 x141, .int .i64 x162, .int .i64 (IntKind.i64.wrap (a0.getD (10 : Int).toNat 0)), .int .i64 x164, .slice A167 (((a0.take (IntKind.i64.wrap (14 + (IntKind.i64.wrap (a0.getD (13 : Int).toNat 0)))).toNat).drop ((14 : Int)).toNat)).length c168]) (cs' := [.int .i64 x141, .int .i64 x162, .int .i64 (IntKind.i64.wrap (a0.getD (10 : Int).toNat 0)), .int .i64 x164, .slice A167 (((a0.take (IntKind.i64.wrap (14 + (IntKind.i64.wrap (a0.getD (13 : Int).toNat 0)))).toNat).drop ((14 : Int)).toNat)).length c168]) (H.f2.f1.f2) (F.ev (x := .tmp 5) rfl) (F.ev (x := .tmp 43) rfl) rfl sz26 rfl (Nat.le_of_ble_eq_true rfl) rfl rfl
                refine d1 21 rfl (by kernel_rfl) (qn F (.inl rfl) (hr _ _ _ _) fun a F => ?_)
                have HS := H.fx1.fx0
                refine kg _ HS (fun w S => S) ?_
                refine ddone (by kernel_rfl) ?_
                replace F := F.only [5, 4, 2, 0] (l' := [(5, .pointer (some ⟨g161, 0, none⟩)), (4, .int .i64 (IntKind.i64.wrap (a0.getD (13 : Int).toNat 0))), (2, .pointer (some ⟨g1, 0, none⟩)), (0, .slice A0_ a0.length c0_)]) rfl
                try dsimp only at k_21
                obtain rfl := Option.some.inj k_21
                exact ⟨_, _, _, _, rfl, g161, A167, c168, F.only [0, 2, 4, 5] rfl, H.px9.px8.px7.px6.px5.px4.px3.px2.px1.px0.f2.f1.f2⟩
            · skip
              refine lal F H ti26 (cs := [.int .i64 0, .int .i64 0, .int .i64 0, .int .i64 0, .slice none 0 0]) rfl fun g169 w a H F => ?_
              have HS := H.fx1.fx0
              refine kg _ HS (fun w S => S) ?_
              obtain ⟨x170, e171, k_21⟩ := Option.bind_eq_some_iff.1 k_21
              try dsimp only at k_21
              refine d1 2 rfl (by kernel_rfl) (call F Try.func72 (ref16_Read_ok (H.p5) e171) rfl rfl fun v w hR a F => ?_)
              obtain ⟨rfl, H⟩ := hR
              have HS := H.fx1.fx0
              refine kg _ HS (fun w S => S) ?_
              obtain ⟨x172, e173, k_21⟩ := Option.bind_eq_some_iff.1 k_21
              try dsimp only at k_21
              refine d1 5 rfl (by kernel_rfl) (call F Try.func72 (ref16_Read_ok (H.p4) e173) rfl rfl fun v w hR a F => ?_)
              obtain ⟨rfl, H⟩ := hR
              have HS := H.fx1.fx0
              refine kg _ HS (fun w S => S) ?_
              obtain ⟨x174, e175, k_21⟩ := Option.bind_eq_some_iff.1 k_21
              try dsimp only at k_21
              refine d1 12 rfl (by kernel_rfl) (call F Try.func72 (ref16_Read_ok (H.p1) e175) rfl rfl fun v w hR a F => ?_)
              obtain ⟨rfl, H⟩ := hR
              have HS := H.fx1.fx0
              refine kg _ HS (fun w S => S) ?_
              replace H := Hp.litOwn (kd := kByte) (xs := []) (H.f2.f1.f2) (SayL.nil) (Nat.le_of_ble_eq_true rfl)
              obtain ⟨c176, k_21⟩ := guardO k_21
              obtain ⟨A177, c178, _, hr, H⟩ := Hp.appendRd (kd := kByte) (xs := []) (ys := ((a0.take (IntKind.i64.wrap (14 + (IntKind.i64.wrap (a0.getD (13 : Int).toNat 0)))).toNat).drop ((14 : Int)).toNat)) (H) 0 rfl (F.ev (x := .tmp 37) rfl) (F.ev (x := .tmp 41) rfl) Try.underlying23 ti5 rfl (by decide) (by decide) c176
              rw [List.nil_append] at hr H
              refine d1 18 rfl (by kernel_rfl) (qv F (hr _ _ _ _ _) fun a F => ?_)
              have HS := H.fx1.fx0
              refine kg _ HS (fun w S => S) ?_
              refine dq 19 F rfl (by kernel_rfl) NP HS (fun w S => (r_bd F (vs := [(0, .int .i64 x170), (1, .int .i64 x172), (2, .int .i64 (IntKind.i64.wrap (a0.getD (10 : Int).toNat 0))), (3, .int .i64 x174), (4, .slice A177 (((a0.take (IntKind.i64.wrap (14 + (IntKind.i64.wrap (a0.getD (13 : Int).toNat 0)))).toNat).drop ((14 : Int)).toNat)).length c178)]) (cs := [.int .i64 x170, .int .i64 x172, .int .i64 (IntKind.i64.wrap (a0.getD (10 : Int).toNat 0)), .int .i64 x174, .slice A177 (((a0.take (IntKind.i64.wrap (14 + (IntKind.i64.wrap (a0.getD (13 : Int).toNat 0)))).toNat).drop ((14 : Int)).toNat)).length c178]) rfl (fun w => by kernel_rfl))) fun a F => ?_
              obtain ⟨_, hr, H⟩ := Hp.store (t := 26) (o := 0) (n := 5) (vs := [.int .i64 x170, .int .i64 x172, .int .i64 (IntKind.i64.wrap (a0.getD (10 : Int).toNat 0)), .int .i64 x174, .slice A177 (((a0.take (IntKind.i64.wrap (14 + (IntKind.i64.wrap (a0.getD (13 : Int).toNat 0)))).toNat).drop ((14 : Int)).toNat)).length c178]) (cs' := [.int .i64 x170, .int .i64 x172, .int .i64 (IntKind.i64.wrap (a0.getD (10 : Int).toNat 0)), .int .i64 x174, .slice A177 (((a0.take (IntKind.i64.wrap (14 + (IntKind.i64.wrap (a0.getD (13 : Int).toNat 0)))).toNat).drop ((14 : Int)).toNat)).length c178]) (H.f2.f1.f2) (F.ev (x := .tmp 5) rfl) (F.ev (x := .tmp 43) rfl) rfl sz26 rfl (Nat.le_of_ble_eq_true rfl) rfl rfl
              refine d1 21 rfl (by kernel_rfl) (qn F (.inl rfl) (hr _ _ _ _) fun a F => ?_)
              have HS := H.fx1.fx0
              refine kg _ HS (fun w S => S) ?_
              refine ddone (by kernel_rfl) ?_
              replace F := F.only [5, 4, 2, 0] (l' := [(5, .pointer (some ⟨g169, 0, none⟩)), (4, .int .i64 (IntKind.i64.wrap (a0.getD (13 : Int).toNat 0))), (2, .pointer (some ⟨g1, 0, none⟩)), (0, .slice A0_ a0.length c0_)]) rfl
              try dsimp only at k_21
              obtain rfl := Option.some.inj k_21
              exact ⟨_, _, _, _, rfl, g169, A177, c178, F.only [0, 2, 4, 5] rfl, H.px9.px8.px7.px6.px5.px4.px3.px2.px1.px0.f2.f1.f2⟩
          · skip
            refine lal F H ti26 (cs := [.int .i64 0, .int .i64 0, .int .i64 0, .int .i64 0, .slice none 0 0]) rfl fun g179 w a H F => ?_
            have HS := H.fx0
            refine kg _ HS (fun w S => S) ?_
            refine d2 2 13 rfl rfl (by kernel_rfl) ?_ ?_
            · skip
              obtain ⟨x180, e181, k_21⟩ := Option.bind_eq_some_iff.1 k_21
              try dsimp only at k_21
              refine call F Try.func72 (ref16_Read_ok (H.p5) e181) rfl rfl fun v w hR a F => ?_
              obtain ⟨rfl, H⟩ := hR
              have HS := H.fx0
              refine kg _ HS (fun w S => S) ?_
              refine d2 5 13 rfl rfl (by kernel_rfl) ?_ ?_
              · skip
                obtain ⟨x182, e183, k_21⟩ := Option.bind_eq_some_iff.1 k_21
                try dsimp only at k_21
                refine call F Try.func72 (ref16_Read_ok (H.p4) e183) rfl rfl fun v w hR a F => ?_
                obtain ⟨rfl, H⟩ := hR
                have HS := H.fx0
                refine kg _ HS (fun w S => S) ?_
                refine d2 12 13 rfl rfl (by kernel_rfl) ?_ ?_
                · skip
                  obtain ⟨x184, e185, k_21⟩ := Option.bind_eq_some_iff.1 k_21
                  try dsimp only at k_21
                  refine call F Try.func72 (ref16_Read_ok (H.p1) e185) rfl rfl fun v w hR a F => ?_
                  obtain ⟨rfl, H⟩ := hR
                  have HS := H.fx0
                  refine kg _ HS (fun w S => S) ?_
                  refine d1 13 rfl (by kernel_rfl) (lbs F H (e := 5) (vs := []) (cs := []) rfl (fun w => by kernel_rfl) fun g186 w a H F => ?_)
                  have HS := H.fx1.fx0
                  refine kg _ HS (fun w S => S) ?_
                  replace H := Hp.litOwn (kd := kByte) (xs := []) (H) (SayL.nil) (Nat.le_of_ble_eq_true rfl)
                  obtain ⟨c187, k_21⟩ := guardO k_21
                  obtain ⟨A188, c189, _, hr, H⟩ := Hp.appendRd (kd := kByte) (xs := []) (ys := ((a0.take (IntKind.i64.wrap (14 + (IntKind.i64.wrap (a0.getD (13 : Int).toNat 0)))).toNat).drop ((14 : Int)).toNat)) (H) 0 rfl (F.ev (x := .tmp 37) rfl) (F.ev (x := .tmp 41) rfl) Try.underlying23 ti5 rfl (by decide) (by decide) c187
                  rw [List.nil_append] at hr H
                  refine d1 18 rfl (by kernel_rfl) (qv F (hr _ _ _ _ _) fun a F => ?_)
                  have HS := H.fx1.fx0
                  refine kg _ HS (fun w S => S) ?_
                  refine dq 19 F rfl (by kernel_rfl) NP HS (fun w S => (r_bd F (vs := [(0, .int .i64 x180), (1, .int .i64 x182), (2, .int .i64 (IntKind.i64.wrap (a0.getD (10 : Int).toNat 0))), (3, .int .i64 x184), (4, .slice A188 (((a0.take (IntKind.i64.wrap (14 + (IntKind.i64.wrap (a0.getD (13 : Int).toNat 0)))).toNat).drop ((14 : Int)).toNat)).length c189)]) (cs := [.int .i64 x180, .int .i64 x182, .int .i64 (IntKind.i64.wrap (a0.getD (10 : Int).toNat 0)), .int .i64 x184, .slice A188 (((a0.take (IntKind.i64.wrap (14 + (IntKind.i64.wrap (a0.getD (13 : Int).toNat 0)))).toNat).drop ((14 : Int)).toNat)).length c189]) rfl (fun w => by kernel_rfl))) fun a F => ?_
                  obtain ⟨_, hr, H⟩ := Hp.store (t := 26) (o := 0) (n := 5) (vs := [.int .i64 x180, .int .i64 x182, .int .i64 (IntKind.i64.wrap (a0.getD (10 : Int).toNat 0)), .int .i64 x184, .slice A188 (((a0.take (IntKind.i64.wrap (14 + (IntKind.i64.wrap (a0.getD (13 : Int).toNat 0)))).toNat).drop ((14 : Int)).toNat)).length c189]) (cs' := [.int .i64 x180, .int .i64 x182, .int .i64 (IntKind.i64.wrap (a0.getD (10 : Int).toNat 0)), .int .i64 x184, .slice A188 (((a0.take (IntKind.i64.wrap (14 + (IntKind.i64.wrap (a0.getD (13 : Int).toNat 0)))).toNat).drop ((14 : Int)).toNat)).length c189]) (H.f2.f1.f2) (F.ev (x := .tmp 5) rfl) (F.ev (x := .tmp 43) rfl) rfl sz26 rfl (Nat.le_of_ble_eq_true rfl) rfl rfl
                  refine d1 21 rfl (by kernel_rfl) (qn F (.inl rfl) (hr _ _ _ _) fun a F => ?_)
                  have HS := H.fx1.fx0
                  refine kg _ HS (fun w S => S) ?_
                  refine ddone (by kernel_rfl) ?_
                  replace F := F.only [5, 4, 2, 0] (l' := [(5, .pointer (some ⟨g179, 0, none⟩)), (4, .int .i64 (IntKind.i64.wrap (a0.getD (13 : Int).toNat 0))), (2, .pointer (some ⟨g1, 0, none⟩)), (0, .slice A0_ a0.length c0_)]) rfl
                  try dsimp only at k_21
                  obtain rfl := Option.some.inj k_21
                  exact ⟨_, _, _, _, rfl, g179, A188, c189, F.only [0, 2, 4, 5] rfl, H.px9.px8.px7.px6.px5.px4.px3.px2.px1.px0.f2.f1.f2⟩
                · skip
                  refine lbs F H (e := 5) (vs := []) (cs := []) rfl (fun w => by kernel_rfl) fun g190 w a H F => ?_
                  have HS := H.fx1.fx0
                  refine kg _ HS (fun w S => S) ?_
                  obtain ⟨x191, e192, k_21⟩ := Option.bind_eq_some_iff.1 k_21
                  try dsimp only at k_21
                  refine d1 12 rfl (by kernel_rfl) (call F Try.func72 (ref16_Read_ok (H.p1) e192) rfl rfl fun v w hR a F => ?_)
                  obtain ⟨rfl, H⟩ := hR
                  have HS := H.fx1.fx0
                  refine kg _ HS (fun w S => S) ?_
                  replace H := Hp.litOwn (kd := kByte) (xs := []) (H) (SayL.nil) (Nat.le_of_ble_eq_true rfl)
                  obtain ⟨c193, k_21⟩ := guardO k_21
                  obtain ⟨A194, c195, _, hr, H⟩ := Hp.appendRd (kd := kByte) (xs := []) (ys := ((a0.take (IntKind.i64.wrap (14 + (IntKind.i64.wrap (a0.getD (13 : Int).toNat 0)))).toNat).drop ((14 : Int)).toNat)) (H) 0 rfl (F.ev (x := .tmp 37) rfl) (F.ev (x := .tmp 41) rfl) Try.underlying23 ti5 rfl (by decide) (by decide) c193
                  rw [List.nil_append] at hr H
                  refine d1 18 rfl (by kernel_rfl) (qv F (hr _ _ _ _ _) fun a F => ?_)
                  have HS := H.fx1.fx0
                  refine kg _ HS (fun w S => S) ?_
                  refine dq 19 F rfl (by kernel_rfl) NP HS (fun w S => (r_bd F (vs := [(0, .int .i64 x180), (1, .int .i64 x182), (2, .int .i64 (IntKind.i64.wrap (a0.getD (10 : Int).toNat 0))), (3, .int .i64 x191), (4, .slice A194 (((a0.take (IntKind.i64.wrap (14 + (IntKind.i64.wrap (a0.getD (13 : Int).toNat 0)))).toNat).drop ((14 : Int)).toNat)).length c195)]) (cs := [.int .i64 x180, .int .i64 x182, .int .i64 (IntKind.i64.wrap (a0.getD (10 : Int).toNat 0)), .int .i64 x191, .slice A194 (((a0.take (IntKind.i64.wrap (14 + (IntKind.i64.wrap (a0.getD (13 : Int).toNat 0)))).toNat).drop ((14 : Int)).toNat)).length c195]) rfl (fun w => by kernel_rfl))) fun a F => ?_
                  obtain ⟨_, hr, H⟩ := Hp.store (t := 26) (o := 0) (n := 5) (vs := [.int .i64 x180, .int .i64 x182, .int .i64 (IntKind.i64.wrap (a0.getD (10 : Int).toNat 0)), .int .i64 x191, .slice A194 (((a0.take (IntKind.i64.wrap (14 + (IntKind.i64.wrap (a0.getD (13 : Int).toNat 0)))).toNat).drop ((14 : Int)).toNat)).length c195]) (cs' := [.int .i64 x180, .int .i64 x182, .int .i64 (IntKind.i64.wrap (a0.getD (10 : Int).toNat 0)), .int .i64 x191, .slice A194 (((a0.take (IntKind.i64.wrap (14 + (IntKind.i64.wrap (a0.getD (13 : Int).toNat 0)))).toNat).drop ((14 : Int)).toNat)).length c195]) (H.f2.f1.f2) (F.ev (x := .tmp 5) rfl) (F.ev (x := .tmp 43) rfl) rfl sz26 rfl (Nat.le_of_ble_eq_true rfl) rfl rfl
                  refine d1 21 rfl (by kernel_rfl) (qn F (.inl rfl) (hr _ _ _ _) fun a F => ?_)
                  have HS := H.fx1.fx0
                  refine kg _ HS (fun w S => S) ?_
                  refine ddone (by kernel_rfl) ?_
                  replace F := F.only [5, 4, 2, 0] (l' := [(5, .pointer (some ⟨g179, 0, none⟩)), (4, .int .i64 (IntKind.i64.wrap (a0.getD (13 : Int).toNat 0))), (2, .pointer (some ⟨g1, 0, none⟩)), (0, .slice A0_ a0.length c0_)]) rfl
                  try dsimp only at k_21
                  obtain rfl := Option.some.inj k_21
                  exact ⟨_, _, _, _, rfl, g179, A194, c195, F.only [0, 2, 4, 5] rfl, H.px9.px8.px7.px6.px5.px4.px3.px2.px1.px0.f2.f1.f2⟩
              · skip
                refine lbs F H (e := 5) (vs := []) (cs := []) rfl (fun w => by kernel_rfl) fun g196 w a H F => ?_
                have HS := H.fx1.fx0
                refine kg _ HS (fun w S => S) ?_
                obtain ⟨x197, e198, k_21⟩ := Option.bind_eq_some_iff.1 k_21
                try dsimp only at k_21
                refine d1 5 rfl (by kernel_rfl) (call F Try.func72 (ref16_Read_ok (H.p4) e198) rfl rfl fun v w hR a F => ?_)
                obtain ⟨rfl, H⟩ := hR
                have HS := H.fx1.fx0
                refine kg _ HS (fun w S => S) ?_
                obtain ⟨x199, e200, k_21⟩ := Option.bind_eq_some_iff.1 k_21
                try dsimp only at k_21
                refine d1 12 rfl (by kernel_rfl) (call F Try.func72 (ref16_Read_ok (H.p1) e200) rfl rfl fun v w hR a F => ?_)
                obtain ⟨rfl, H⟩ := hR
                have HS := H.fx1.fx0
                refine kg _ HS (fun w S => S) ?_
                replace H := Hp.litOwn (kd := kByte) (xs := []) (H) (SayL.nil) (Nat.le_of_ble_eq_true rfl)
                obtain ⟨c201, k_21⟩ := guardO k_21
                obtain ⟨A202, c203, _, hr, H⟩ := Hp.appendRd (kd := kByte) (xs := []) (ys := ((a0.take (IntKind.i64.wrap (14 + (IntKind.i64.wrap (a0.getD (13 : Int).toNat 0)))).toNat).drop ((14 : Int)).toNat)) (H) 0 rfl (F.ev (x := .tmp 37) rfl) (F.ev (x := .tmp 41) rfl) Try.underlying23 ti5 rfl (by decide) (by decide) c201
                rw [List.nil_append] at hr H
                refine d1 18 rfl (by kernel_rfl) (qv F (hr _ _ _ _ _) fun a F => ?_)
                have HS := H.fx1.fx0
                refine kg _ HS (fun w S => S) ?_
                refine dq 19 F rfl (by kernel_rfl) NP HS (fun w S => (r_bd F (vs := [(0, .int .i64 x180), (1, .int .i64 x197), (2, .int .i64 (IntKind.i64.wrap (a0.getD (10 : Int).toNat 0))), (3, .int .i64 x199), (4, .slice A202 (((a0.take (IntKind.i64.wrap (14 + (IntKind.i64.wrap (a0.getD (13 : Int).toNat 0)))).toNat).drop ((14 : Int)).toNat)).length c203)]) (cs := [.int .i64 x180, .int .i64 x197, .int .i64 (IntKind.i64.wrap (a0.getD (10 : Int).toNat 0)), .int .i64 x199, .slice A202 (((a0.take (IntKind.i64.wrap (14 + (IntKind.i64.wrap (a0.getD (13 : Int).toNat 0)))).toNat).drop ((14 : Int)).toNat)).length c203]) rfl (fun w => by kernel_rfl))) fun a F => ?_
                obtain ⟨_, hr, H⟩ := Hp.store (t := 26) (o := 0) (n := 5) (vs := [.int .i64 x180, .int .i64 x197, .int .i64 (IntKind.i64.wrap (a0.getD (10 : Int).toNat 0)), .int .i64 x199, .slice A202 (((a0.take (IntKind.i64.wrap (14 + (IntKind.i64.wrap (a0.getD (13 : Int).toNat 0)))).toNat).drop ((14 : Int)).toNat)).length c203]) (cs' := [.int .i64 x180, .int .i64 x197, .int .i64 (IntKind.i64.wrap (a0.getD (10 : Int).toNat 0)), .int .i64 x199, .slice A202 (((a0.take (IntKind.i64.wrap (14 + (IntKind.i64.wrap (a0.getD (13 : Int).toNat 0)))).toNat).drop ((14 : Int)).toNat)).length c203]) (H.f2.f1.f2) (F.ev (x := .tmp 5) rfl) (F.ev (x := .tmp 43) rfl) rfl sz26 rfl (Nat.le_of_ble_eq_true rfl) rfl rfl
                refine d1 21 rfl (by kernel_rfl) (qn F (.inl rfl) (hr _ _ _ _) fun a F => ?_)
                have HS := H.fx1.fx0
                refine kg _ HS (fun w S => S) ?_
                refine ddone (by kernel_rfl) ?_
                replace F := F.only [5, 4, 2, 0] (l' := [(5, .pointer (some ⟨g179, 0, none⟩)), (4, .int .i64 (IntKind.i64.wrap (a0.getD (13 : Int).toNat 0))), (2, .pointer (some ⟨g1, 0, none⟩)), (0, .slice A0_ a0.length c0_)]) rfl
                try dsimp only at k_21
                obtain rfl := Option.some.inj k_21
                exact ⟨_, _, _, _, rfl, g179, A202, c203, F.only [0, 2, 4, 5] rfl, H.px9.px8.px7.px6.px5.px4.px3.px2.px1.px0.f2.f1.f2⟩
            · skip
              refine lbs F H (e := 5) (vs := []) (cs := []) rfl (fun w => by kernel_rfl) fun g204 w a H F => ?_
              have HS := H.fx1.fx0
              refine kg _ HS (fun w S => S) ?_
              obtain ⟨x205, e206, k_21⟩ := Option.bind_eq_some_iff.1 k_21
              try dsimp only at k_21
              refine d1 2 rfl (by kernel_rfl) (call F Try.func72 (ref16_Read_ok (H.p5) e206) rfl rfl fun v w hR a F => ?_)
              obtain ⟨rfl, H⟩ := hR
              have HS := H.fx1.fx0
              refine kg _ HS (fun w S => S) ?_
              obtain ⟨x207, e208, k_21⟩ := Option.bind_eq_some_iff.1 k_21
              try dsimp only at k_21
              refine d1 5 rfl (by kernel_rfl) (call F Try.func72 (ref16_Read_ok (H.p4) e208) rfl rfl fun v w hR a F => ?_)
              obtain ⟨rfl, H⟩ := hR
              have HS := H.fx1.fx0
              refine kg _ HS (fun w S => S) ?_
              obtain ⟨x209, e210, k_21⟩ := Option.bind_eq_some_iff.1 k_21
              try dsimp only at k_21
              refine d1 12 rfl (by kernel_rfl) (call F Try.func72 (ref16_Read_ok (H.p1) e210) rfl rfl fun v w hR a F => ?_)
              obtain ⟨rfl, H⟩ := hR
              have HS := H.fx1.fx0
              refine kg _ HS (fun w S => S) ?_
              replace H := Hp.litOwn (kd := kByte) (xs := []) (H) (SayL.nil) (Nat.le_of_ble_eq_true rfl)
              obtain ⟨c211, k_21⟩ := guardO k_21
              obtain ⟨A212, c213, _, hr, H⟩ := Hp.appendRd (kd := kByte) (xs := []) (ys := ((a0.take (IntKind.i64.wrap (14 + (IntKind.i64.wrap (a0.getD (13 : Int).toNat 0)))).toNat).drop ((14 : Int)).toNat)) (H) 0 rfl (F.ev (x := .tmp 37) rfl) (F.ev (x := .tmp 41) rfl) Try.underlying23 ti5 rfl (by decide) (by decide) c211
              rw [List.nil_append] at hr H
              refine d1 18 rfl (by kernel_rfl) (qv F (hr _ _ _ _ _) fun a F => ?_)
              have HS := H.fx1.fx0
              refine kg _ HS (fun w S => S) ?_
              refine dq 19 F rfl (by kernel_rfl) NP HS (fun w S => (r_bd F (vs := [(0, .int .i64 x205), (1, .int .i64 x207), (2, .int .i64 (IntKind.i64.wrap (a0.getD (10 : Int).toNat 0))), (3, .int .i64 x209), (4, .slice A212 (((a0.take (IntKind.i64.wrap (14 + (IntKind.i64.wrap (a0.getD (13 : Int).toNat 0)))).toNat).drop ((14 : Int)).toNat)).length c213)]) (cs := [.int .i64 x205, .int .i64 x207, .int .i64 (IntKind.i64.wrap (a0.getD (10 : Int).toNat 0)), .int .i64 x209, .slice A212 (((a0.take (IntKind.i64.wrap (14 + (IntKind.i64.wrap (a0.getD (13 : Int).toNat 0)))).toNat).drop ((14 : Int)).toNat)).length c213]) rfl (fun w => by kernel_rfl))) fun a F => ?_
              obtain ⟨_, hr, H⟩ := Hp.store (t := 26) (o := 0) (n := 5) (vs := [.int .i64 x205, .int .i64 x207, .int .i64 (IntKind.i64.wrap (a0.getD (10 : Int).toNat 0)), .int .i64 x209, .slice A212 (((a0.take (IntKind.i64.wrap (14 + (IntKind.i64.wrap (a0.getD (13 : Int).toNat 0)))).toNat).drop ((14 : Int)).toNat)).length c213]) (cs' := [.int .i64 x205, .int .i64 x207, .int .i64 (IntKind.i64.wrap (a0.getD (10 : Int).toNat 0)), .int .i64 x209, .slice A212 (((a0.take (IntKind.i64.wrap (14 + (IntKind.i64.wrap (a0.getD (13 : Int).toNat 0)))).toNat).drop ((14 : Int)).toNat)).length c213]) (H.f2.f1.f2) (F.ev (x := .tmp 5) rfl) (F.ev (x := .tmp 43) rfl) rfl sz26 rfl (Nat.le_of_ble_eq_true rfl) rfl rfl
              refine d1 21 rfl (by kernel_rfl) (qn F (.inl rfl) (hr _ _ _ _) fun a F => ?_)
              have HS := H.fx1.fx0
              refine kg _ HS (fun w S => S) ?_
              refine ddone (by kernel_rfl) ?_
              replace F := F.only [5, 4, 2, 0] (l' := [(5, .pointer (some ⟨g179, 0, none⟩)), (4, .int .i64 (IntKind.i64.wrap (a0.getD (13 : Int).toNat 0))), (2, .pointer (some ⟨g1, 0, none⟩)), (0, .slice A0_ a0.length c0_)]) rfl
              try dsimp only at k_21
              obtain rfl := Option.some.inj k_21
              exact ⟨_, _, _, _, rfl, g179, A212, c213, F.only [0, 2, 4, 5] rfl, H.px9.px8.px7.px6.px5.px4.px3.px2.px1.px0.f2.f1.f2⟩
        · rintro a w ⟨x16, x17, x18, x19, rfl, g15, A20, c21, F, H⟩
          try dsimp only at h F H
          refine wp_seq ?_
          refine rg ?_
          refine mv F rfl fun a F => ?_
          refine ls (qv F (r_add (F.ev (x := .const (.int .i64 14)) rfl) (F.ev (x := .tmp 44) rfl)) fun a F => ?_)
          refine as_ F rfl fun a F => ?_
          refine rgend ?_
          obtain ⟨o_214, k_214, h⟩ := Option.bind_eq_some_iff.1 h
          refine cut (fun a w => Sum.inl () = o_214 ∧ Fr 63 [] [(2, .pointer (some ⟨g1, 0, none⟩)), (5, .pointer (some ⟨g15, 0, none⟩))] a ∧ Hp w0 ps (own kByte 5 A20 c21 x19 :: cel g15 [.int .i64 x16, .int .i64 x17, .int .i64 (IntKind.i64.wrap (a0.getD (10 : Int).toNat 0)), .int .i64 x18, .slice A20 x19.length c21] 26 :: cel g1 [.int .i64 0, .int .i64 0, .int .i64 0, .int .i64 0, .slice none 0 0] 26 :: fs) w) (wp_block ?_) ?_
          · refine wloop (ref16_Get_b0 a0) (fun (s : Int) a w => Fr 63 [] [(0, .slice A0_ a0.length c0_), (2, .pointer (some ⟨g1, 0, none⟩)), (5, .pointer (some ⟨g15, 0, none⟩)), (6, .int .i64 s)] a ∧ Hp w0 (rd kByte A0_ c0_ a0 :: ps) (own kByte 5 A20 c21 x19 :: cel g15 [.int .i64 x16, .int .i64 x17, .int .i64 (IntKind.i64.wrap (a0.getD (10 : Int).toNat 0)), .int .i64 x18, .slice A20 x19.length c21] 26 :: cel g1 [.int .i64 0, .int .i64 0, .int .i64 0, .int .i64 0, .slice none 0 0] 26 :: fs) w) k_214 ⟨F.only [0, 2, 5, 6] rfl, H⟩ ?_
            rintro x214 a w q_214 j_214 u_214 ⟨F, H⟩
            unfold ref16_Get_b0 at j_214
            try dsimp only at j_214 F H
            refine wp_seq ?_
            refine rg ?_
            refine mv F rfl fun a F => ?_
            refine mv F rfl fun a F => ?_
            refine ls (qv F (r_len (F.ev (x := .tmp 47) rfl) Try.underlying23) fun a F => ?_)
            refine ls (qv F (r_lt (F.ev (x := .tmp 46) rfl) (F.ev (x := .tmp 48) rfl)) fun a F => ?_)
            refine rgend ?_
            by_cases c216 : x214 < (a0.length : Int)
            · rw [if_pos c216] at j_214
              rw [decide_eq_true c216] at F
              refine wp_cond_true (F.ev rfl) ?_
              refine wp_skip ?_
              refine wp_seq ?_
              refine wp_block ?_
              refine rg ?_
              refine mv F rfl fun a F => ?_
              refine mv F rfl fun a F => ?_
              obtain ⟨c217, j_214⟩ := guardO j_214
              obtain ⟨g218, o219, s220, hr, H⟩ := H.ix 0 0 rfl (F.ev (x := .tmp 52) rfl) (F.ev (x := .tmp 53) rfl) Try.underlying23 sz5 (by decide) c217.1 c217.2
              obtain ⟨rfl, hr221⟩ := H.says_byte 1 rfl
              refine ls (qv F (hr _ _ _ _ _ _) fun a F => ?_)
              refine ls (qv F (r_ld (F.ev (x := .tmp 54) rfl) (range_cell (j := 0) (H.range 0 rfl) rfl) one5) fun a F => ?_)
              refine ls (qv F (r_ne (F.ev (x := .tmp 55) rfl) (F.ev (x := .const (.int .u8 0)) rfl)) fun a F => ?_)
              refine rgend ?_
              replace F := F.only [56, 0, 2, 5, 6] (l' := [(56, .bool (decide ((a0.getD (x214 : Int).toNat 0) ≠ 0))), (0, .slice A0_ a0.length c0_), (2, .pointer (some ⟨g1, 0, none⟩)), (5, .pointer (some ⟨g15, 0, none⟩)), (6, .int .i64 x214)]) rfl
              by_cases c222 : (a0.getD (x214 : Int).toNat 0) ≠ 0
              · rw [if_pos c222] at j_214
                rw [decide_eq_true c222] at F
                refine wp_cond_true (F.ev rfl) ?_
                refine rg ?_
                refine ls (lbd F (vs := []) (cs := [.int .i64 0, .int .i64 0, .int .i64 0, .int .i64 0, .slice none 0 0]) rfl (fun w => by kernel_rfl) fun a F => ?_)
                obtain ⟨_, hr, H⟩ := Hp.store (t := 26) (o := 0) (n := 5) (vs := [.int .i64 0, .int .i64 0, .int .i64 0, .int .i64 0, .slice none 0 0]) (cs' := [.int .i64 0, .int .i64 0, .int .i64 0, .int .i64 0, .slice none 0 0]) (H.f1.f1.f2) (F.ev (x := .tmp 2) rfl) (F.ev (x := .tmp 57) rfl) rfl sz26 rfl (Nat.le_of_ble_eq_true rfl) rfl rfl
                refine ls (qn F (.inl rfl) (hr _ _ _ _) fun a F => ?_)
                refine as_ F (v := .bool false) rfl fun a F => ?_
                refine rgend ?_
                replace F := F.only [3, 2] (l' := [(3, .bool false), (2, .pointer (some ⟨g1, 0, none⟩))]) rfl
                refine wp_ret ?_
                replace H := H.nilRd kByte
                try dsimp only at j_214
                obtain rfl := Option.some.inj j_214
                obtain rfl := u_214 _ rfl
                try dsimp only at h
                obtain ⟨rfl, rfl⟩ := Prod.mk.inj (Option.some.inj h)
                exact RET _ _ (retC2 F rfl rfl rfl (ldvA (cel_range (o := 0) (n := 5) (vs := [.int .i64 0, .int .i64 0, .int .i64 0, .int .i64 0, .slice none 0 0]) (H.cell 0 rfl) rfl) agg26 rfl) ⟨_, rfl, none, 0, rfl, H.px3.px2.px1.fx2.fx1.fx0⟩)
              · rw [if_neg c222] at j_214
                rw [decide_eq_false c222] at F
                refine wp_cond_false (F.ev rfl) ?_
                refine wp_skip ?_
                refine wp_region_lit ?_
                refine mv F rfl fun a F => ?_
                refine ls (qv F (r_add (F.ev (x := .tmp 50) rfl) (F.ev (x := .const (.int .i64 1)) rfl)) fun a F => ?_)
                refine as_ F rfl fun a F => ?_
                refine wpList_nil ?_
                replace F := F.only [6, 0, 2, 5] (l' := [(6, .int .i64 (IntKind.i64.wrap (x214 + 1))), (0, .slice A0_ a0.length c0_), (2, .pointer (some ⟨g1, 0, none⟩)), (5, .pointer (some ⟨g15, 0, none⟩))]) rfl
                try dsimp only at j_214
                obtain rfl := Option.some.inj j_214
                exact ⟨_, rfl, F.only [0, 2, 5, 6] rfl, H.px1.px0⟩
            · rw [if_neg c216] at j_214
              rw [decide_eq_false c216] at F
              refine wp_cond_false (F.ev rfl) ?_
              refine wp_exit ?_
              try dsimp only at j_214
              obtain rfl := Option.some.inj j_214
              obtain rfl := u_214 _ rfl
              repeat (with_reducible refine exT ?_)
              with_reducible refine exB ?_
              exact ⟨rfl, F.only [2, 5] rfl, H.px0⟩
          · rintro a w ⟨rfl, F, H⟩
            try dsimp only at h F H
            refine wp_seq ?_
            refine rg ?_
            refine ls (qv F (r_ldA (F.ev (x := .tmp 5) rfl) (cel_range (o := 0) (n := 5) (vs := [.int .i64 x16, .int .i64 x17, .int .i64 (IntKind.i64.wrap (a0.getD (10 : Int).toNat 0)), .int .i64 x18, .slice A20 x19.length c21]) (H.cell 1 rfl) rfl) agg26 rfl) fun a F => ?_)
            replace H := (H).freeze
            obtain ⟨x223, e224, h⟩ := Option.bind_eq_some_iff.1 h
            try dsimp only at h
            refine ls (call F Try.func48 (ref16_Right_ok (a0 := (⟨x16, x17, IntKind.i64.wrap (a0.getD (10 : Int).toNat 0), x18, x19⟩ : api_Sector)) (H.p0) e224) rfl rfl fun v w hR a F => ?_)
            obtain ⟨rfl, H⟩ := hR
            refine ls (qv F (r_not (F.ev (x := .tmp 59) rfl)) fun a F => ?_)
            refine rgend ?_
            by_cases c225 : x223 = true
            · rw [if_pos c225] at h
              rw [c225] at F
              refine wp_cond_false (F.ev rfl) ?_
              refine wp_skip ?_
              refine rg ?_
              refine ls (qv F (r_ldA (F.ev (x := .tmp 5) rfl) (cel_range (o := 0) (n := 5) (vs := [.int .i64 x16, .int .i64 x17, .int .i64 (IntKind.i64.wrap (a0.getD (10 : Int).toNat 0)), .int .i64 x18, .slice A20 x19.length c21]) (H.cell 0 rfl) rfl) agg26 rfl) fun a F => ?_)
              obtain ⟨_, hr, H⟩ := Hp.store (t := 26) (o := 0) (n := 5) (vs := [.int .i64 x16, .int .i64 x17, .int .i64 (IntKind.i64.wrap (a0.getD (10 : Int).toNat 0)), .int .i64 x18, .slice A20 x19.length c21]) (cs' := [.int .i64 x16, .int .i64 x17, .int .i64 (IntKind.i64.wrap (a0.getD (10 : Int).toNat 0)), .int .i64 x18, .slice A20 x19.length c21]) (H.f1) (F.ev (x := .tmp 2) rfl) (F.ev (x := .tmp 62) rfl) rfl sz26 rfl (Nat.le_of_ble_eq_true rfl) rfl rfl
              refine ls (qn F (.inl rfl) (hr _ _ _ _) fun a F => ?_)
              refine as_ F (v := .bool true) rfl fun a F => ?_
              refine rgend ?_
              replace F := F.only [3, 2] (l' := [(3, .bool true), (2, .pointer (some ⟨g1, 0, none⟩))]) rfl
              refine wp_ret ?_
              try dsimp only at h
              obtain ⟨rfl, rfl⟩ := Prod.mk.inj (Option.some.inj h)
              exact RET _ _ (retC2 F rfl rfl rfl (ldvA (cel_range (o := 0) (n := 5) (vs := [.int .i64 x16, .int .i64 x17, .int .i64 (IntKind.i64.wrap (a0.getD (10 : Int).toNat 0)), .int .i64 x18, .slice A20 x19.length c21]) (H.cell 0 rfl) rfl) agg26 rfl) ⟨_, rfl, A20, c21, rfl, H.fx1.fx0⟩)
            · rw [if_neg c225] at h
              rw [Bool.eq_false_iff.2 c225] at F
              refine wp_cond_true (F.ev rfl) ?_
              refine rg ?_
              refine ls (lbd F (vs := []) (cs := [.int .i64 0, .int .i64 0, .int .i64 0, .int .i64 0, .slice none 0 0]) rfl (fun w => by kernel_rfl) fun a F => ?_)
              obtain ⟨_, hr, H⟩ := Hp.store (t := 26) (o := 0) (n := 5) (vs := [.int .i64 0, .int .i64 0, .int .i64 0, .int .i64 0, .slice none 0 0]) (cs' := [.int .i64 0, .int .i64 0, .int .i64 0, .int .i64 0, .slice none 0 0]) (H.f1) (F.ev (x := .tmp 2) rfl) (F.ev (x := .tmp 61) rfl) rfl sz26 rfl (Nat.le_of_ble_eq_true rfl) rfl rfl
              refine ls (qn F (.inl rfl) (hr _ _ _ _) fun a F => ?_)
              refine as_ F (v := .bool false) rfl fun a F => ?_
              refine rgend ?_
              replace F := F.only [3, 2] (l' := [(3, .bool false), (2, .pointer (some ⟨g1, 0, none⟩))]) rfl
              refine wp_ret ?_
              replace H := H.nilRd kByte
              try dsimp only at h
              obtain ⟨rfl, rfl⟩ := Prod.mk.inj (Option.some.inj h)
              exact RET _ _ (retC2 F rfl rfl rfl (ldvA (cel_range (o := 0) (n := 5) (vs := [.int .i64 0, .int .i64 0, .int .i64 0, .int .i64 0, .slice none 0 0]) (H.cell 0 rfl) rfl) agg26 rfl) ⟨_, rfl, none, 0, rfl, H.px1.fx1.fx0⟩)
def disk_New_f (a0 : Int) : Option (Option disk_Disk) :=
  (if a0 < 0 then some none else (if a0 > 4096 then some none else (if 0 ≤ a0 ∧ 64 * a0 ≤ 281474976710656 then some (((some ((⟨List.replicate (a0 : Int).toNat (Arr.zero 64), [], [], (-1)⟩ : disk_Disk))))) else none)))
set_option maxHeartbeats 4000000 in
set_option maxRecDepth 20000 in
theorem disk_New_ok {w0 w : World} {ps : List PF} {fs : List SF} {a0 : Int} {r0 : Option disk_Disk} (H : Hp w0 ps fs w) (h : disk_New_f a0 = some r0) :
    Calls Try.prog 18 [.int .i64 a0].toArray w fun e w' => ∃ v, e = .returned v ∧ (match r0 with | none => v = .pointer none ∧ Hp w0 ps fs w' | some x => ∃ g : Nat, v = .pointer (some ⟨g, 0, none⟩) ∧ Hp w0 ps (obj_disk_Disk g x :: fs) w') := by
  refine enter [.int .i64 a0] 14 Try.func18 fun Q a NP RET NRM F => ?_
  replace NP : ∀ c a w, ¬ Q (.panic c) a w := fun c a w h => by rcases NP c a w h with h | ⟨w, v, h, _⟩ <;> cases h
  unfold disk_New_f at h
  refine rg ?_
  refine as_ F (v := .pointer none) rfl fun a F => ?_
  refine rgend ?_
  refine wp_seq ?_
  refine rg ?_
  refine mv F rfl fun a F => ?_
  refine ls (qv F (r_lt (F.ev (x := .tmp 3) rfl) (F.ev (x := .const (.int .i64 0)) rfl)) fun a F => ?_)
  refine mv F rfl fun a F => ?_
  by_cases c1 : a0 < 0
  · rw [if_pos c1] at h
    rw [decide_eq_true c1] at F
    refine ls (off F fun a F => ?_)
    refine ls (off F fun a F => ?_)
    refine ls (qv F (r_pickT (F.ev (x := .tmp 5) rfl) (F.ev (x := .const (.bool true)) rfl)) fun a F => ?_)
    refine rgend ?_
    replace F := F.only [8, 0] (l' := [(8, .bool true), (0, .int .i64 a0)]) rfl
    refine wp_cond_true (F.ev rfl) ?_
    refine rg ?_
    refine as_ F (v := .pointer none) rfl fun a F => ?_
    refine rgend ?_
    refine wp_ret ?_
    try dsimp only at h
    obtain rfl := Option.some.inj h
    exact RET _ _ (ret1 F rfl rfl ⟨_, rfl, rfl, H⟩)
  · rw [if_neg c1] at h
    rw [decide_eq_false c1] at F
    refine mv F rfl fun a F => ?_
    refine ls (qv F (r_gt (F.ev (x := .tmp 6) rfl) (F.ev (x := .const (.int .i64 4096)) rfl)) fun a F => ?_)
    refine ls (qv F (r_pickF (F.ev (x := .tmp 5) rfl) (F.ev (x := .tmp 7) rfl)) fun a F => ?_)
    refine rgend ?_
    replace F := F.only [8, 0] (l' := [(8, .bool (decide (a0 > 4096))), (0, .int .i64 a0)]) rfl
    by_cases c2 : a0 > 4096
    · rw [if_pos c2] at h
      rw [decide_eq_true c2] at F
      refine wp_cond_true (F.ev rfl) ?_
      refine rg ?_
      refine as_ F (v := .pointer none) rfl fun a F => ?_
      refine rgend ?_
      refine wp_ret ?_
      try dsimp only at h
      obtain rfl := Option.some.inj h
      exact RET _ _ (ret1 F rfl rfl ⟨_, rfl, rfl, H⟩)
    · rw [if_neg c2] at h
      rw [decide_eq_false c2] at F
      refine wp_cond_false (F.ev rfl) ?_
      refine wp_skip ?_
      refine rg ?_
      refine mv F rfl fun a F => ?_
      obtain ⟨c4, h⟩ := guardO h
      obtain ⟨g3, _, hr, H⟩ := Hp.makeA (q := 64) H (F.ev (x := .tmp 9) rfl) (F.ev (x := .tmp 9) rfl) Try.underlying72 ti83 rfl (by decide) (by decide) c4.1 c4.2
      refine ls (qv F (hr _ _ _ _ _) fun a F => ?_)
      refine ls (lmi F H fun g5 w a H F => ?_)
      refine ls (lbd F (vs := [(0, .slice (some ⟨g3, 0, none⟩) (List.replicate (a0 : Int).toNat (Arr.zero 64)).length ((List.replicate (a0 : Int).toNat (Arr.zero 64)).length)), (1, .map (some g5)), (3, .int .i64 (-1))]) (cs := [.slice (some ⟨g3, 0, none⟩) (List.replicate (a0 : Int).toNat (Arr.zero 64)).length ((List.replicate (a0 : Int).toNat (Arr.zero 64)).length), .map (some g5), .slice none 0 0, .int .i64 (-1)]) rfl (fun w => by kernel_rfl) fun a F => ?_)
      refine ls (lbox F H rfl (cs := [.slice (some ⟨g3, 0, none⟩) (List.replicate (a0 : Int).toNat (Arr.zero 64)).length ((List.replicate (a0 : Int).toNat (Arr.zero 64)).length), .map (some g5), .slice none 0 0, .int .i64 (-1)]) rfl fun g6 w a H F => ?_)
      refine as_ F rfl fun a F => ?_
      refine rgend ?_
      replace F := F.only [2] (l' := [(2, .pointer (some ⟨g6, 0, none⟩))]) rfl
      refine wp_ret ?_
      replace H := H.nilOwn k_disk_write 85
      replace H := Hp.closeO_disk_Disk (x := (⟨List.replicate (a0 : Int).toNat (Arr.zero 64), [], [], (-1)⟩ : disk_Disk)) (H.f2.f1.f3.f3)
      try dsimp only at h
      obtain rfl := Option.some.inj h
      exact RET _ _ (ret1 F rfl rfl ⟨_, rfl, g6, rfl, H⟩)
def disk_Disk_Fuse_f (a0 : disk_Disk) (a1 : Int) : Option (disk_Disk) :=
  some (((⟨a0.sectors, a0.torn, a0.pending, max a1 (-1)⟩ : disk_Disk)))
set_option maxHeartbeats 4000000 in
set_option maxRecDepth 20000 in
theorem disk_Disk_Fuse_ok {w0 w : World} {ps : List PF} {fs : List SF} {a0 : disk_Disk} {g0_ : Nat} {a1 : Int} {s0 : disk_Disk} (H : Hp w0 ps (obj_disk_Disk g0_ a0 :: fs) w) (h : disk_Disk_Fuse_f a0 a1 = some s0) :
    Calls Try.prog 27 [.pointer (some ⟨g0_, 0, none⟩), .int .i64 a1].toArray w fun e w' => ∃ v, e = .returned v ∧ v = .tuple #[] ∧ Hp w0 ps (obj_disk_Disk g0_ s0 :: fs) w' := by
  refine enter [.pointer (some ⟨g0_, 0, none⟩), .int .i64 a1] 9 Try.func27 fun Q a NP RET NRM F => ?_
  replace NP : ∀ c a w, ¬ Q (.panic c) a w := fun c a w h => by rcases NP c a w h with h | ⟨w, v, h, _⟩ <;> cases h
  unfold disk_Disk_Fuse_f at h
  refine wp_region_lit ?_
  refine mv F rfl fun a F => ?_
  refine mv F rfl fun a F => ?_
  refine ls (qv F (r_max (F.ev (x := .tmp 5) rfl) (F.ev (x := .const (.int .i64 (-1))) rfl)) fun a F => ?_)
  refine ls (qv F (r_nc (F.ev (x := .tmp 4) rfl)) fun a F => ?_)
  refine ls (qv F (r_fa (off := 3) (F.ev (x := .tmp 7) rfl) fa76_3) fun a F => ?_)
  obtain ⟨A1, c2, A4, c5, g3, H⟩ := Hp.openO_disk_Disk (H)
  obtain ⟨_, hr, H⟩ := Hp.store (t := 3) (o := 3) (n := 1) (vs := [.int .i64 (max a1 (-1))]) (cs' := [.slice A1 a0.sectors.length c2, .map (some g3), .slice A4 a0.pending.length c5, .int .i64 (max a1 (-1))]) (H) (F.ev (x := .tmp 8) rfl) (F.ev (x := .tmp 6) rfl) rfl sz3 rfl (Nat.le_of_ble_eq_true rfl) rfl rfl
  refine ls (qn F (.inl rfl) (hr _ _ _ _) fun a F => ?_)
  refine wpList_nil ?_
  replace F := F.only [] (l' := []) rfl
  replace H := Hp.closeO_disk_Disk (x := (⟨a0.sectors, a0.torn, a0.pending, max a1 (-1)⟩ : disk_Disk)) (H)
  try dsimp only at h
  obtain rfl := Option.some.inj h
  exact NRM _ _ (ret0 F rfl ⟨_, rfl, rfl, H⟩)
def disk_Disk_Write_f (a0 : disk_Disk) (a1 : Int) (a2 : List Int) : Option (Int × disk_Disk) :=
  (((if a0.fuse = 0 then some (42, a0) else (((if (a2.length : Int) ≠ 64 then some ((1, (⟨a0.sectors, a0.torn, a0.pending, max (IntKind.i64.wrap (a0.fuse - 1)) (-1)⟩ : disk_Disk))) else ((disk_Disk_there_f ((⟨a0.sectors, a0.torn, a0.pending, max (IntKind.i64.wrap (a0.fuse - 1)) (-1)⟩ : disk_Disk)) a1).bind fun x17 => (if x17 = true then (if 64 ≤ a2.length then (if ((((⟨a0.sectors, a0.torn, a0.pending, max (IntKind.i64.wrap (a0.fuse - 1)) (-1)⟩ : disk_Disk)).pending).length + 1) * 72 ≤ 140737488355328 then some ((0, (⟨((⟨a0.sectors, a0.torn, a0.pending, max (IntKind.i64.wrap (a0.fuse - 1)) (-1)⟩ : disk_Disk)).sectors, ((⟨a0.sectors, a0.torn, a0.pending, max (IntKind.i64.wrap (a0.fuse - 1)) (-1)⟩ : disk_Disk)).torn, ((((⟨a0.sectors, a0.torn, a0.pending, max (IntKind.i64.wrap (a0.fuse - 1)) (-1)⟩ : disk_Disk)).pending) ++ ([(⟨a1, (Arr.of 64 (a2.take 64))⟩ : disk_write)])), ((⟨a0.sectors, a0.torn, a0.pending, max (IntKind.i64.wrap (a0.fuse - 1)) (-1)⟩ : disk_Disk)).fuse⟩ : disk_Disk))) else none) else none) else some ((3, (⟨a0.sectors, a0.torn, a0.pending, max (IntKind.i64.wrap (a0.fuse - 1)) (-1)⟩ : disk_Disk)))))) : Option (Int × disk_Disk)).bind fun (x13, x14) => some (x13, x14))) : Option (Int × disk_Disk)).bind fun (x4, x5) => some (x4, x5))
set_option maxHeartbeats 4000000 in
set_option maxRecDepth 20000 in
theorem disk_Disk_Write_ok {w0 w : World} {ps : List PF} {fs : List SF} {a0 : disk_Disk} {g0_ : Nat} {a1 : Int} {a2 : List Int} {A2_ : Option Addr} {c2_ : Nat} {r0 : Int} {s0 : disk_Disk} (H : Hp w0 (rd kByte A2_ c2_ a2 :: ps) (obj_disk_Disk g0_ a0 :: fs) w) (h : disk_Disk_Write_f a0 a1 a2 = some (r0, s0)) :
    Calls Try.prog 21 [.pointer (some ⟨g0_, 0, none⟩), .int .i64 a1, .slice A2_ a2.length c2_].toArray w fun e w' => ∃ v, e = .returned v ∧ v = .int .i64 r0 ∧ Hp w0 ps (obj_disk_Disk g0_ s0 :: fs) w' := by
  refine enter [.pointer (some ⟨g0_, 0, none⟩), .int .i64 a1, .slice A2_ a2.length c2_] 10 Try.func21 fun Q a NP RET NRM F => ?_
  replace NP : ∀ c a w, ¬ Q (.panic c) a w := fun c a w h => by rcases NP c a w h with h | ⟨w, v, h, _⟩ <;> cases h
  unfold disk_Disk_Write_f at h
  refine rg ?_
  refine ls (lbox F H rfl (cs := [.pointer (some ⟨g0_, 0, none⟩)]) rfl fun g1 w a H F => ?_)
  refine ls (lbox F H rfl (cs := [.int .i64 a1]) rfl fun g2 w a H F => ?_)
  refine ls (lbox F H rfl (cs := [.slice A2_ a2.length c2_]) rfl fun g3 w a H F => ?_)
  refine as_ F (v := .int .i64 0) rfl fun a F => ?_
  refine rgend ?_
  replace F := F.only [5, 4, 3] (l' := [(5, .pointer (some ⟨g3, 0, none⟩)), (4, .pointer (some ⟨g2, 0, none⟩)), (3, .pointer (some ⟨g1, 0, none⟩))]) rfl
  refine rg ?_
  refine ls (qv F (r_ld (F.ev (x := .tmp 3) rfl) (cel_cell (o := 0) (H.cell 2 rfl) rfl) one28) fun a F => ?_)
  refine ls (qv F (r_mf (f' := #[]) (c' := #[.pointer (some ⟨g3, 0, none⟩), .pointer (some ⟨g1, 0, none⟩), .pointer (some ⟨g2, 0, none⟩)]) (by simp) (by rw [List.map_toArray]; exact congrArg _ (F.evs rfl))) fun a F => ?_)
  obtain ⟨o_5, k_5, h⟩ := Option.bind_eq_some_iff.1 h
  refine ls (call F Try.func45 (R := fun v w => ∃ (x4 : Int) (x5 : disk_Disk), (x4, x5) = o_5 ∧ v = .int .i64 x4 ∧ Hp w0 (rd kByte A2_ c2_ a2 :: ps) (cel g2 [.int .i64 a1] 3 :: obj_disk_Disk g0_ x5 :: cel g1 [.pointer (some ⟨g0_, 0, none⟩)] 28 :: cel g3 [.slice A2_ a2.length c2_] 23 :: fs) w) (args := [.pointer (some ⟨g0_, 0, none⟩), .func (.func 46) #[] #[.pointer (some ⟨g3, 0, none⟩), .pointer (some ⟨g1, 0, none⟩), .pointer (some ⟨g2, 0, none⟩)]]) (cap := []) ?_ rfl rfl ?_)
  · refine enter [.pointer (some ⟨g0_, 0, none⟩), .func (.func 46) #[] #[.pointer (some ⟨g3, 0, none⟩), .pointer (some ⟨g1, 0, none⟩), .pointer (some ⟨g2, 0, none⟩)]] 21 Try.func45 fun Q a NP RET NRM F => ?_
    replace NP : ∀ c a w, ¬ Q (.panic c) a w := fun c a w h => by rcases NP c a w h with h | ⟨w, v, h, _⟩ <;> cases h
    refine rg ?_
    refine as_ F (v := .int .i64 0) rfl fun a F => ?_
    refine rgend ?_
    refine wp_seq ?_
    refine rg ?_
    refine mv F rfl fun a F => ?_
    refine ls (qv F (r_nc (F.ev (x := .tmp 5) rfl)) fun a F => ?_)
    refine ls (qv F (r_fa (off := 3) (F.ev (x := .tmp 6) rfl) fa76_3) fun a F => ?_)
    obtain ⟨A7, c8, A10, c11, g9, H⟩ := Hp.openO_disk_Disk (H.f2.f2.f2.f3)
    refine ls (qv F (r_ld (F.ev (x := .tmp 7) rfl) (cel_cell (o := 3) (H.cell 0 rfl) rfl) one3) fun a F => ?_)
    refine ls (qv F (r_eq (F.ev (x := .tmp 8) rfl) (F.ev (x := .const (.int .i64 0)) rfl)) fun a F => ?_)
    refine rgend ?_
    replace F := F.only [9, 0, 1] (l' := [(9, .bool (decide (a0.fuse = 0))), (0, .pointer (some ⟨g0_, 0, none⟩)), (1, .func (.func 46) #[] #[.pointer (some ⟨g3, 0, none⟩), .pointer (some ⟨g1, 0, none⟩), .pointer (some ⟨g2, 0, none⟩)])]) rfl
    by_cases c12 : a0.fuse = 0
    · rw [if_pos c12] at k_5
      rw [decide_eq_true c12] at F
      refine wp_cond_true (F.ev rfl) ?_
      refine rg ?_
      refine as_ F (v := .int .i64 42) rfl fun a F => ?_
      refine rgend ?_
      refine wp_ret ?_
      replace H := Hp.closeO_disk_Disk (x := a0) (H)
      try dsimp only at k_5
      obtain rfl := Option.some.inj k_5
      exact RET _ _ (ret1 F rfl rfl ⟨_, rfl, _, _, rfl, rfl, H.f1.f3.f2.f3⟩)
    · rw [if_neg c12] at k_5
      rw [decide_eq_false c12] at F
      refine wp_cond_false (F.ev rfl) ?_
      refine wp_skip ?_
      refine rg ?_
      refine mv F rfl fun a F => ?_
      refine mv F rfl fun a F => ?_
      refine ls (qv F (r_nc (F.ev (x := .tmp 11) rfl)) fun a F => ?_)
      refine ls (qv F (r_fa (off := 3) (F.ev (x := .tmp 12) rfl) fa76_3) fun a F => ?_)
      refine ls (qv F (r_ld (F.ev (x := .tmp 13) rfl) (cel_cell (o := 3) (H.cell 0 rfl) rfl) one3) fun a F => ?_)
      refine ls (qv F (r_sub (F.ev (x := .tmp 14) rfl) (F.ev (x := .const (.int .i64 1)) rfl)) fun a F => ?_)
      refine ls (qv F (r_max (F.ev (x := .tmp 15) rfl) (F.ev (x := .const (.int .i64 (-1))) rfl)) fun a F => ?_)
      refine ls (qv F (r_nc (F.ev (x := .tmp 10) rfl)) fun a F => ?_)
      refine ls (qv F (r_fa (off := 3) (F.ev (x := .tmp 17) rfl) fa76_3) fun a F => ?_)
      obtain ⟨_, hr, H⟩ := Hp.store (t := 3) (o := 3) (n := 1) (vs := [.int .i64 (max (IntKind.i64.wrap (a0.fuse - 1)) (-1))]) (cs' := [.slice A7 a0.sectors.length c8, .map (some g9), .slice A10 a0.pending.length c11, .int .i64 (max (IntKind.i64.wrap (a0.fuse - 1)) (-1))]) (H) (F.ev (x := .tmp 18) rfl) (F.ev (x := .tmp 16) rfl) rfl sz3 rfl (Nat.le_of_ble_eq_true rfl) rfl rfl
      refine ls (qn F (.inl rfl) (hr _ _ _ _) fun a F => ?_)
      refine rgend ?_
      replace F := F.only [1] (l' := [(1, .func (.func 46) #[] #[.pointer (some ⟨g3, 0, none⟩), .pointer (some ⟨g1, 0, none⟩), .pointer (some ⟨g2, 0, none⟩)])]) rfl
      refine rg ?_
      refine mv F rfl fun a F => ?_
      obtain ⟨o_14, k_14, k_5⟩ := Option.bind_eq_some_iff.1 k_5
      refine ls (call F Try.func46 (R := fun v w => ∃ (x13 : Int) (x14 : disk_Disk), (x13, x14) = o_14 ∧ v = .int .i64 x13 ∧ Hp w0 (rd kByte A2_ c2_ a2 :: ps) (cel g2 [.int .i64 a1] 3 :: obj_disk_Disk g0_ x14 :: cel g1 [.pointer (some ⟨g0_, 0, none⟩)] 28 :: cel g3 [.slice A2_ a2.length c2_] 23 :: fs) w) (args := [.pointer (some ⟨g3, 0, none⟩), .pointer (some ⟨g1, 0, none⟩), .pointer (some ⟨g2, 0, none⟩)]) (cap := [.pointer (some ⟨g3, 0, none⟩), .pointer (some ⟨g1, 0, none⟩), .pointer (some ⟨g2, 0, none⟩)]) ?_ rfl rfl ?_)
      · refine enter [.pointer (some ⟨g3, 0, none⟩), .pointer (some ⟨g1, 0, none⟩), .pointer (some ⟨g2, 0, none⟩)] 27 Try.func46 fun Q a NP RET NRM F => ?_
        replace NP : ∀ c a w, ¬ Q (.panic c) a w := fun c a w h => by rcases NP c a w h with h | ⟨w, v, h, _⟩ <;> cases h
        refine rg ?_
        refine as_ F (v := .int .i64 0) rfl fun a F => ?_
        refine rgend ?_
        refine wp_seq ?_
        refine wp_block ?_
        refine rg ?_
        refine ls (qv F (r_ld (F.ev (x := .tmp 0) rfl) (cel_cell (o := 0) (H.cell 4 rfl) rfl) one23) fun a F => ?_)
        refine ls (qv F (r_len (F.ev (x := .tmp 5) rfl) Try.underlying23) fun a F => ?_)
        refine ls (qv F (r_ne (F.ev (x := .tmp 6) rfl) (F.ev (x := .const (.int .i64 64)) rfl)) fun a F => ?_)
        refine as_ F rfl fun a F => ?_
        refine rgend ?_
        replace F := F.only [4, 0, 1, 2] (l' := [(4, .bool (decide ((a2.length : Int) ≠ 64))), (0, .pointer (some ⟨g3, 0, none⟩)), (1, .pointer (some ⟨g1, 0, none⟩)), (2, .pointer (some ⟨g2, 0, none⟩))]) rfl
        by_cases c16 : (a2.length : Int) ≠ 64
        · rw [if_pos c16] at k_14
          rw [decide_eq_true c16] at F
          refine wp_cond_true (F.ev rfl) ?_
          refine rg ?_
          refine as_ F (v := .int .i64 1) rfl fun a F => ?_
          refine rgend ?_
          replace F := F.only [3] (l' := [(3, .int .i64 1)]) rfl
          refine wp_ret ?_
          replace H := Hp.closeO_disk_Disk (x := (⟨a0.sectors, a0.torn, a0.pending, max (IntKind.i64.wrap (a0.fuse - 1)) (-1)⟩ : disk_Disk)) (H)
          try dsimp only at k_14
          obtain rfl := Option.some.inj k_14
          exact RET _ _ (ret1 F rfl rfl ⟨_, rfl, _, _, rfl, rfl, H.f1.f3.f2.f3⟩)
        · rw [if_neg c16] at k_14
          rw [decide_eq_false c16] at F
          refine wp_cond_false (F.ev rfl) ?_
          refine rg ?_
          refine ls (qv F (r_ld (F.ev (x := .tmp 1) rfl) (cel_cell (o := 0) (H.cell 6 rfl) rfl) one28) fun a F => ?_)
          refine ls (qv F (r_ld (F.ev (x := .tmp 2) rfl) (cel_cell (o := 0) (H.cell 5 rfl) rfl) one3) fun a F => ?_)
          replace H := Hp.closeO_disk_Disk (x := (⟨a0.sectors, a0.torn, a0.pending, max (IntKind.i64.wrap (a0.fuse - 1)) (-1)⟩ : disk_Disk)) (H)
          obtain ⟨x17, e18, k_14⟩ := Option.bind_eq_some_iff.1 k_14
          try dsimp only at k_14
          refine ls (call F Try.func47 (disk_Disk_there_ok (H) e18) rfl rfl fun v w hR a F => ?_)
          obtain ⟨rfl, H⟩ := hR
          refine ls (qv F (r_not (F.ev (x := .tmp 11) rfl)) fun a F => ?_)
          refine as_ F rfl fun a F => ?_
          refine rgend ?_
          replace F := F.only [8, 0, 1, 2] (l' := [(8, .bool (!x17)), (0, .pointer (some ⟨g3, 0, none⟩)), (1, .pointer (some ⟨g1, 0, none⟩)), (2, .pointer (some ⟨g2, 0, none⟩))]) rfl
          by_cases c19 : x17 = true
          · rw [if_pos c19] at k_14
            rw [c19] at F
            refine wp_cond_false (F.ev rfl) ?_
            refine wp_skip ?_
            refine wp_seq ?_
            obtain ⟨A20, c21, A23, c24, g22, H⟩ := Hp.openO_disk_Disk (H)
            replace H := H.drew
            have HS := H.fx2.fx1
            refine dr (fun w => Hp w0 (rd kByte A2_ c2_ a2 :: ps) (cel g0_ [.slice A20 (((⟨a0.sectors, a0.torn, a0.pending, max (IntKind.i64.wrap (a0.fuse - 1)) (-1)⟩ : disk_Disk)).sectors).length c21, .map (some g22), .slice A23 (((⟨a0.sectors, a0.torn, a0.pending, max (IntKind.i64.wrap (a0.fuse - 1)) (-1)⟩ : disk_Disk)).pending).length c24, .int .i64 (((⟨a0.sectors, a0.torn, a0.pending, max (IntKind.i64.wrap (a0.fuse - 1)) (-1)⟩ : disk_Disk)).fuse)] 76 :: imap g22 (((⟨a0.sectors, a0.torn, a0.pending, max (IntKind.i64.wrap (a0.fuse - 1)) (-1)⟩ : disk_Disk)).torn) :: cel g3 [.slice A2_ a2.length c2_] 23 :: cel g2 [.int .i64 a1] 3 :: cel g1 [.pointer (some ⟨g0_, 0, none⟩)] 28 :: fs) w) _ (by kernel_rfl) ?_ (n := 15)
            refine dq 0 F rfl (by kernel_rfl) NP HS (fun w S => (r_ld (F.ev (x := .tmp 1) rfl) (cel_cell (o := 0) (S.cell 4 rfl) rfl) one28)) fun a F => ?_
            refine dq 1 F rfl (by kernel_rfl) NP HS (fun w S => (r_ld (F.ev (x := .tmp 1) rfl) (cel_cell (o := 0) (S.cell 4 rfl) rfl) one28)) fun a F => ?_
            refine dq 2 F rfl (by kernel_rfl) NP HS (fun w S => (r_nc (F.ev (x := .tmp 14) rfl))) fun a F => ?_
            refine dq 3 F rfl (by kernel_rfl) NP HS (fun w S => (r_fa (off := 2) (F.ev (x := .tmp 15) rfl) fa76_2)) fun a F => ?_
            refine dq 4 F rfl (by kernel_rfl) NP HS (fun w S => (r_ld (F.ev (x := .tmp 16) rfl) (cel_cell (o := 2) (S.cell 0 rfl) rfl) one74)) fun a F => ?_
            refine dq 5 F rfl (by kernel_rfl) NP HS (fun w S => (r_ld (F.ev (x := .tmp 2) rfl) (cel_cell (o := 0) (S.cell 3 rfl) rfl) one3)) fun a F => ?_
            refine dq 6 F rfl (by kernel_rfl) NP HS (fun w S => (r_ld (F.ev (x := .tmp 0) rfl) (cel_cell (o := 0) (S.cell 2 rfl) rfl) one23)) fun a F => ?_
            obtain ⟨c25, k_14⟩ := guardO k_14
            obtain ⟨g26, o27, hr, H⟩ := H.sarrA (n := 64) 0 rfl (F.ev (x := .tmp 19) rfl) Try.underlying83 c25 (by decide)
            have HS := H.fx2.fx1
            refine dmoreH HS (fun w S => S.px0) ?_
            refine dq 7 F rfl (by kernel_rfl) NP HS (fun w S => (hr _ _ _ _ _ _)) fun a F => ?_
            refine dq 8 F rfl (by kernel_rfl) NP HS (fun w S => (r_ldA (F.ev (x := .tmp 20) rfl) (S.range 0 rfl) agg83 (arr_len ((Arr.of 64 (a2.take 64)))))) fun a F => ?_
            refine dq 9 F rfl (by kernel_rfl) NP HS (fun w S => (r_bd F (vs := [(0, .int .i64 a1), (1, .agg (arrOf ((Arr.of 64 (a2.take 64))).l).toArray)]) (cs := (.int .i64 a1 :: arrOf ((Arr.of 64 (a2.take 64))).l)) rfl (fun w => by exact bdW ti85 rfl Try.underlying85 (fun w => by kernel_rfl)))) fun a F => ?_
            refine d1 10 rfl (by kernel_rfl) (lbs F H (e := 85) (vs := [(0, .agg (.int .i64 a1 :: arrOf ((Arr.of 64 (a2.take 64))).l).toArray)]) (cs := (.int .i64 a1 :: arrOf ((Arr.of 64 (a2.take 64))).l)) rfl (fun w => by exact bsA (cs := (.int .i64 a1 :: arrOf ((Arr.of 64 (a2.take 64))).l)) Try.underlying74 ti85 rfl (by decide) (len_cons (arr_len ((Arr.of 64 (a2.take 64)))))) fun g28 w a H F => ?_)
            have HS := H.fx3.fx2.fx0
            refine kg _ HS (fun w S => S) ?_
            obtain ⟨c29, k_14⟩ := guardO k_14
            obtain ⟨A30, c31, _, hr, H⟩ := Hp.appendCelL (kd := k_disk_write) (xs := ((⟨a0.sectors, a0.torn, a0.pending, max (IntKind.i64.wrap (a0.fuse - 1)) (-1)⟩ : disk_Disk)).pending) (ys := [(⟨a1, (Arr.of 64 (a2.take 64))⟩ : disk_write)]) (H.f7.f7.f7.f7.f6.f6.f6.f7) (F.ev (x := .tmp 17) rfl) (F.ev (x := .tmp 23) rfl) Try.underlying74 ti85 rfl (by decide) (by decide) (all_cons rfl (arr_all _)) ((SayL.one (kd := k_disk_write) (c1 := (.int .i64 a1 :: arrOf ((Arr.of 64 (a2.take 64))).l)) (y := (⟨a1, (Arr.of 64 (a2.take 64))⟩ : disk_write)) (fun Z hp => rfl))) c29
            refine d1 11 rfl (by kernel_rfl) (qv F (hr _ _ _ _ _) fun a F => ?_)
            have HS := H.fx2.fx0
            refine kg _ HS (fun w S => S) ?_
            refine dq 12 F rfl (by kernel_rfl) NP HS (fun w S => (r_nc (F.ev (x := .tmp 13) rfl))) fun a F => ?_
            refine dq 13 F rfl (by kernel_rfl) NP HS (fun w S => (r_fa (off := 2) (F.ev (x := .tmp 25) rfl) fa76_2)) fun a F => ?_
            obtain ⟨_, hr, H⟩ := Hp.store (t := 74) (o := 2) (n := 1) (vs := [.slice A30 (((((⟨a0.sectors, a0.torn, a0.pending, max (IntKind.i64.wrap (a0.fuse - 1)) (-1)⟩ : disk_Disk)).pending) ++ ([(⟨a1, (Arr.of 64 (a2.take 64))⟩ : disk_write)]))).length c31]) (cs' := [.slice A20 (((⟨a0.sectors, a0.torn, a0.pending, max (IntKind.i64.wrap (a0.fuse - 1)) (-1)⟩ : disk_Disk)).sectors).length c21, .map (some g22), .slice A30 (((((⟨a0.sectors, a0.torn, a0.pending, max (IntKind.i64.wrap (a0.fuse - 1)) (-1)⟩ : disk_Disk)).pending) ++ ([(⟨a1, (Arr.of 64 (a2.take 64))⟩ : disk_write)]))).length c31, .int .i64 (((⟨a0.sectors, a0.torn, a0.pending, max (IntKind.i64.wrap (a0.fuse - 1)) (-1)⟩ : disk_Disk)).fuse)]) (H.f6.f6.f6.f6.f6.f5.f6) (F.ev (x := .tmp 26) rfl) (F.ev (x := .tmp 24) rfl) rfl sz74 rfl (Nat.le_of_ble_eq_true rfl) rfl rfl
            refine d1 14 rfl (by kernel_rfl) (qn F (.inl rfl) (hr _ _ _ _) fun a F => ?_)
            have HS := H.fx2.fx1
            refine kga (by kernel_rfl) HS ?_
            refine ddone (by kernel_rfl) ?_
            replace F := F.only [] (l' := []) rfl
            refine rg ?_
            refine as_ F (v := .int .i64 0) rfl fun a F => ?_
            refine rgend ?_
            refine wp_ret ?_
            replace H := Hp.closeO_disk_Disk (x := (⟨((⟨a0.sectors, a0.torn, a0.pending, max (IntKind.i64.wrap (a0.fuse - 1)) (-1)⟩ : disk_Disk)).sectors, ((⟨a0.sectors, a0.torn, a0.pending, max (IntKind.i64.wrap (a0.fuse - 1)) (-1)⟩ : disk_Disk)).torn, ((((⟨a0.sectors, a0.torn, a0.pending, max (IntKind.i64.wrap (a0.fuse - 1)) (-1)⟩ : disk_Disk)).pending) ++ ([(⟨a1, (Arr.of 64 (a2.take 64))⟩ : disk_write)])), ((⟨a0.sectors, a0.torn, a0.pending, max (IntKind.i64.wrap (a0.fuse - 1)) (-1)⟩ : disk_Disk)).fuse⟩ : disk_Disk)) (H.f6.f6.f6.f6.f5.f6.f6)
            try dsimp only at k_14
            obtain rfl := Option.some.inj k_14
            exact RET _ _ (ret1 F rfl rfl ⟨_, rfl, _, _, rfl, rfl, H.px0.f1.f3.f2.f3⟩)
          · rw [if_neg c19] at k_14
            rw [Bool.eq_false_iff.2 c19] at F
            refine wp_cond_true (F.ev rfl) ?_
            refine rg ?_
            refine as_ F (v := .int .i64 3) rfl fun a F => ?_
            refine rgend ?_
            replace F := F.only [3] (l' := [(3, .int .i64 3)]) rfl
            refine wp_ret ?_
            try dsimp only at k_14
            obtain rfl := Option.some.inj k_14
            exact RET _ _ (ret1 F rfl rfl ⟨_, rfl, _, _, rfl, rfl, H.f1.f3.f2.f3⟩)
      · rintro v w ⟨x13, x14, rfl, rfl, H⟩ a F
        try dsimp only at k_5 F H
        refine as_ F rfl fun a F => ?_
        refine rgend ?_
        refine wp_ret ?_
        try dsimp only at k_5
        obtain rfl := Option.some.inj k_5
        exact RET _ _ (ret1 F rfl rfl ⟨_, rfl, _, _, rfl, rfl, H⟩)
  · rintro v w ⟨x4, x5, rfl, rfl, H⟩ a F
    try dsimp only at h F H
    refine as_ F rfl fun a F => ?_
    refine rgend ?_
    replace F := F.only [6] (l' := [(6, .int .i64 x4)]) rfl
    refine wp_ret ?_
    try dsimp only at h
    obtain ⟨rfl, rfl⟩ := Prod.mk.inj (Option.some.inj h)
    exact RET _ _ (ret1 F rfl rfl ⟨_, rfl, rfl, H.px0.fx3.fx2.fx0⟩)
end Go.Proofs.Ytdkdaggpfgajlaa
