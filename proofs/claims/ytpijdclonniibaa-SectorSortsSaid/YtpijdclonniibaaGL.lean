/- What the functions compute. Printed by wip/gen. -/
import Derived.Test.YtpijdclonniibaaG0
set_option linter.unusedVariables false
set_option linter.unusedSimpArgs false
namespace Go.Proofs.Ytpijdclonniibaa
open Go Go.RowKit
def sector_Put_f (a0 : api_Sector) : Option (List Int) :=
  ((sector_Right_f a0).bind fun x2 => (if x2 = true then ((sector_bytes_f a0).bind fun x5 => some x5.l) else some []))
set_option maxHeartbeats 4000000 in
set_option maxRecDepth 20000 in
theorem sector_Put_ok {w0 w : World} {ps : List PF} {fs : List SF} {a0 : api_Sector} {A0_4 : Option Addr} {c0_4 : Nat} {r0 : List Int} (H : Hp w0 (rd kByte A0_4 c0_4 a0.Body :: ps) fs w) (h : sector_Put_f a0 = some r0) :
    Calls Try.prog 14 [.agg #[.int .i64 a0.Gen, .int .i64 a0.Place, .int .i64 a0.Parts, .int .i64 a0.Kept, .slice A0_4 a0.Body.length c0_4]].toArray w fun e w' => ∃ v, e = .returned v ∧ ∃ (A0 : Option Addr) (c0 : Nat), v = .slice A0 r0.length c0 ∧ Hp w0 (rd kByte A0 c0 r0 :: ps) fs w' := by
  refine enter [.agg #[.int .i64 a0.Gen, .int .i64 a0.Place, .int .i64 a0.Parts, .int .i64 a0.Kept, .slice A0_4 a0.Body.length c0_4]] 10 Try.func14 fun Q a NP RET NRM F => ?_
  replace NP : ∀ c a w, ¬ Q (.panic c) a w := fun c a w h => by rcases NP c a w h with h | ⟨w, v, h, _⟩ <;> cases h
  unfold sector_Put_f at h
  refine rg ?_
  refine ls (lbox F H rfl (cs := [.int .i64 a0.Gen, .int .i64 a0.Place, .int .i64 a0.Parts, .int .i64 a0.Kept, .slice A0_4 a0.Body.length c0_4]) rfl fun g1 w a H F => ?_)
  refine as_ F (v := .slice none 0 0) rfl fun a F => ?_
  refine rgend ?_
  refine wp_seq ?_
  refine rg ?_
  refine ls (qv F (r_ldA (F.ev (x := .tmp 1) rfl) (cel_range (o := 0) (n := 5) (vs := [.int .i64 a0.Gen, .int .i64 a0.Place, .int .i64 a0.Parts, .int .i64 a0.Kept, .slice A0_4 a0.Body.length c0_4]) (H.cell 0 rfl) rfl) agg24 rfl) fun a F => ?_)
  obtain ⟨x2, e3, h⟩ := Option.bind_eq_some_iff.1 h
  try dsimp only at h
  refine ls (call F Try.func12 (sector_Right_ok (a0 := a0) (H.p0) e3) rfl rfl fun v w hR a F => ?_)
  obtain ⟨rfl, H⟩ := hR
  refine ls (qv F (r_not (F.ev (x := .tmp 5) rfl)) fun a F => ?_)
  refine rgend ?_
  replace F := F.only [6, 1] (l' := [(6, .bool (!x2)), (1, .pointer (some ⟨g1, 0, none⟩))]) rfl
  by_cases c4 : x2 = true
  · rw [if_pos c4] at h
    rw [c4] at F
    refine wp_cond_false (F.ev rfl) ?_
    refine wp_skip ?_
    refine rg ?_
    refine ls (qv F (r_ldA (F.ev (x := .tmp 1) rfl) (cel_range (o := 0) (n := 5) (vs := [.int .i64 a0.Gen, .int .i64 a0.Place, .int .i64 a0.Parts, .int .i64 a0.Kept, .slice A0_4 a0.Body.length c0_4]) (H.cell 0 rfl) rfl) agg24 rfl) fun a F => ?_)
    obtain ⟨x5, e6, h⟩ := Option.bind_eq_some_iff.1 h
    try dsimp only at h
    refine ls (call F Try.func18 (sector_bytes_ok (a0 := a0) (H.p0) e6) rfl rfl fun v w hR a F => ?_)
    obtain ⟨rfl, H⟩ := hR
    refine ls (lal F H ti36 (cs := (arrOf (Arr.zero 64).l)) rfl fun g7 w a H F => ?_)
    obtain ⟨_, hr, H⟩ := Hp.store (t := 36) (o := 0) (n := 64) (vs := (arrOf x5.l)) (cs' := (arrOf x5.l)) (H) (F.ev (x := .tmp 3) rfl) (F.ev (x := .tmp 8) rfl) rfl sz36 (arr_len x5) (Nat.le_of_eq ((Nat.zero_add _).trans (arr_len (Arr.zero 64)).symm)) (arr_all _) (putAt_all ((arr_len x5).trans (arr_len (Arr.zero 64)).symm))
    refine ls (qn F (.inl rfl) (hr _ _ _ _) fun a F => ?_)
    refine rgend ?_
    replace F := F.only [3] (l' := [(3, .pointer (some ⟨g7, 0, none⟩))]) rfl
    refine rg ?_
    refine ls (qv F (r_slB (o := 0) (l := 0) (h := 64) (o' := 0) (n' := x5.l.length) (c' := 64) (F.ev (x := .tmp 3) rfl) Try.underlying36 sz5 (.inl ⟨rfl, rfl⟩) (.inl ⟨rfl, rfl⟩) (by decide) (by decide) (by decide) rfl x5.h rfl) fun a F => ?_)
    refine as_ F rfl fun a F => ?_
    refine rgend ?_
    refine wp_ret ?_
    replace H := Hp.celRd (o := 0) (c := 64) (ys := x5.l) (H) (arr_take' x5) x5.b (Nat.le_of_eq x5.h) (by decide)
    try dsimp only at h
    obtain rfl := Option.some.inj h
    exact RET _ _ (ret1 F rfl rfl ⟨_, rfl, (some ⟨g7, 0, none⟩), 64, rfl, H.px1.fx0⟩)
  · rw [if_neg c4] at h
    rw [Bool.eq_false_iff.2 c4] at F
    refine wp_cond_true (F.ev rfl) ?_
    refine rg ?_
    refine as_ F (v := .slice none 0 0) rfl fun a F => ?_
    refine rgend ?_
    refine wp_ret ?_
    replace H := H.nilRd kByte
    try dsimp only at h
    obtain rfl := Option.some.inj h
    exact RET _ _ (ret1 F rfl rfl ⟨_, rfl, none, 0, rfl, H.px1.fx0⟩)
def sector_Get_b4 (a0 : List Int) : (Int × Int × Int) → Option (Int × Int × Int ⊕ Int × Int)
  | (x68, x69, x70) => (if x69 < 1 then (if 0 ≤ x70 ∧ x70 < (a0.length : Int) then some (.inl (orI .i64 (IntKind.i64.wrap (x68 * 2 ^ (8))) (IntKind.i64.wrap (a0.getD (x70 : Int).toNat 0)), IntKind.i64.wrap (x69 + 1), IntKind.i64.wrap (x70 + 1))) else none) else some (.inr (x68, x70)))
def sector_Get_b3 (a0 : List Int) : (Int × Int × Int) → Option (Int × Int × Int ⊕ Int × Int)
  | (x52, x53, x54) => (if x53 < 2 then (if 0 ≤ x54 ∧ x54 < (a0.length : Int) then some (.inl (orI .i64 (IntKind.i64.wrap (x52 * 2 ^ (8))) (IntKind.i64.wrap (a0.getD (x54 : Int).toNat 0)), IntKind.i64.wrap (x53 + 1), IntKind.i64.wrap (x54 + 1))) else none) else some (.inr (x52, x54)))
def sector_Get_b2 (a0 : List Int) : (Int × Int × Int) → Option (Int × Int × Int ⊕ Int × Int)
  | (x37, x38, x39) => (if x38 < 1 then (if 0 ≤ x39 ∧ x39 < (a0.length : Int) then some (.inl (orI .i64 (IntKind.i64.wrap (x37 * 2 ^ (8))) (IntKind.i64.wrap (a0.getD (x39 : Int).toNat 0)), IntKind.i64.wrap (x38 + 1), IntKind.i64.wrap (x39 + 1))) else none) else some (.inr (x37, x39)))
def sector_Get_b1 (a0 : List Int) : (Int × Int × Int) → Option (Int × Int × Int ⊕ Int × Int)
  | (x22, x23, x24) => (if x23 < 2 then (if 0 ≤ x24 ∧ x24 < (a0.length : Int) then some (.inl (orI .i64 (IntKind.i64.wrap (x22 * 2 ^ (8))) (IntKind.i64.wrap (a0.getD (x24 : Int).toNat 0)), IntKind.i64.wrap (x23 + 1), IntKind.i64.wrap (x24 + 1))) else none) else some (.inr (x22, x24)))
def sector_Get_b0 (a0 : List Int) : (Int × Int) → Option (Int × Int ⊕ Int × Int)
  | (x8, x9) => (if x9 < 8 then (if 0 ≤ x9 ∧ x9 < (a0.length : Int) then some (.inl (orI .i64 (IntKind.i64.wrap (x8 * 2 ^ (8))) (IntKind.i64.wrap (a0.getD (x9 : Int).toNat 0)), IntKind.i64.wrap (x9 + 1))) else none) else some (.inr (x8, x9)))
def sector_Get_f (a0 : List Int) : Option (api_Sector × Bool) :=
  (if (a0.length : Int) ≠ 64 then some (((⟨0, 0, 0, 0, []⟩ : api_Sector), false)) else ((((lp (sector_Get_b0 a0) (0, 0)).bind fun (x10, x11) => some (x10, x11)) : Option (Int × Int)).bind fun (x5, x6) => ((((lp (sector_Get_b1 a0) (0, 0, x6)).bind fun (x25, x26) => some (x25, x26)) : Option (Int × Int)).bind fun (x19, x20) => ((((lp (sector_Get_b2 a0) (0, 0, x20)).bind fun (x40, x41) => some (x40, x41)) : Option (Int × Int)).bind fun (x34, x35) => ((((lp (sector_Get_b3 a0) (0, 0, x35)).bind fun (x55, x56) => some (x55, x56)) : Option (Int × Int)).bind fun (x49, x50) => ((((lp (sector_Get_b4 a0) (0, 0, x50)).bind fun (x71, x72) => some (x71, x72)) : Option (Int × Int)).bind fun (x65, x66) => (if 0 ≤ (14 : Int) ∧ (14 : Int) ≤ IntKind.i64.wrap (14 + (min x65 50)) ∧ IntKind.i64.wrap (14 + (min x65 50)) ≤ (a0.length : Int) then (if (0 + (((a0.take (IntKind.i64.wrap (14 + (min x65 50))).toNat).drop ((14 : Int)).toNat)).length) * 1 ≤ 140737488355328 then ((((sector_Right_f ((⟨x5, x19, x34, x49, ((a0.take (IntKind.i64.wrap (14 + (min x65 50))).toNat).drop ((14 : Int)).toNat)⟩ : api_Sector))).bind fun x88 => (if x88 = true then (if 64 ≤ a0.length then ((sector_bytes_f ((⟨x5, x19, x34, x49, ((a0.take (IntKind.i64.wrap (14 + (min x65 50))).toNat).drop ((14 : Int)).toNat)⟩ : api_Sector))).bind fun x94 => some ((decide (x94.l ≠ ((Arr.of 64 (a0.take 64))).l)))) else none) else some true)) : Option (Bool)).bind fun x86 => (if x86 = true then some (((⟨0, 0, 0, 0, []⟩ : api_Sector), false)) else some (((⟨x5, x19, x34, x49, ((a0.take (IntKind.i64.wrap (14 + (min x65 50))).toNat).drop ((14 : Int)).toNat)⟩ : api_Sector), true)))) else none) else none)))))))
set_option maxHeartbeats 4000000 in
set_option maxRecDepth 20000 in
theorem sector_Get_ok {w0 w : World} {ps : List PF} {fs : List SF} {a0 : List Int} {A0_ : Option Addr} {c0_ : Nat} {r0 : api_Sector} {r1 : Bool} (H : Hp w0 (rd kByte A0_ c0_ a0 :: ps) fs w) (h : sector_Get_f a0 = some (r0, r1)) :
    Calls Try.prog 10 [.slice A0_ a0.length c0_].toArray w fun e w' => ∃ v, e = .returned v ∧ ∃ (A0_4 : Option Addr) (c0_4 : Nat), v = .tuple #[.agg #[.int .i64 r0.Gen, .int .i64 r0.Place, .int .i64 r0.Parts, .int .i64 r0.Kept, .slice A0_4 r0.Body.length c0_4], .bool r1] ∧ Hp w0 (rd kByte A0_4 c0_4 r0.Body :: ps) fs w' := by
  refine enter [.slice A0_ a0.length c0_] 44 Try.func10 fun Q a NP RET NRM F => ?_
  replace NP : ∀ c a w, ¬ Q (.panic c) a w := fun c a w h => by rcases NP c a w h with h | ⟨w, v, h, _⟩ <;> cases h
  unfold sector_Get_f at h
  refine rg ?_
  refine ls (lbox F H rfl (cs := [.slice A0_ a0.length c0_]) rfl fun g1 w a H F => ?_)
  refine ls (lal F H ti24 (cs := [.int .i64 0, .int .i64 0, .int .i64 0, .int .i64 0, .slice none 0 0]) rfl fun g2 w a H F => ?_)
  refine as_ F (v := .bool false) rfl fun a F => ?_
  refine rgend ?_
  refine wp_seq ?_
  refine rg ?_
  refine ls (qv F (r_ld (F.ev (x := .tmp 1) rfl) (cel_cell (o := 0) (H.cell 1 rfl) rfl) one22) fun a F => ?_)
  refine ls (qv F (r_len (F.ev (x := .tmp 7) rfl) Try.underlying22) fun a F => ?_)
  refine ls (qv F (r_ne (F.ev (x := .tmp 8) rfl) (F.ev (x := .const (.int .i64 64)) rfl)) fun a F => ?_)
  refine rgend ?_
  replace F := F.only [9, 2, 1] (l' := [(9, .bool (decide ((a0.length : Int) ≠ 64))), (2, .pointer (some ⟨g2, 0, none⟩)), (1, .pointer (some ⟨g1, 0, none⟩))]) rfl
  by_cases c3 : (a0.length : Int) ≠ 64
  · rw [if_pos c3] at h
    rw [decide_eq_true c3] at F
    refine wp_cond_true (F.ev rfl) ?_
    refine rg ?_
    refine ls (lbd F (vs := []) (cs := [.int .i64 0, .int .i64 0, .int .i64 0, .int .i64 0, .slice none 0 0]) rfl (fun w => by kernel_rfl) fun a F => ?_)
    obtain ⟨_, hr, H⟩ := Hp.store (t := 24) (o := 0) (n := 5) (vs := [.int .i64 0, .int .i64 0, .int .i64 0, .int .i64 0, .slice none 0 0]) (cs' := [.int .i64 0, .int .i64 0, .int .i64 0, .int .i64 0, .slice none 0 0]) (H) (F.ev (x := .tmp 2) rfl) (F.ev (x := .tmp 10) rfl) rfl sz24 rfl (Nat.le_of_ble_eq_true rfl) rfl rfl
    refine ls (qn F (.inl rfl) (hr _ _ _ _) fun a F => ?_)
    refine as_ F (v := .bool false) rfl fun a F => ?_
    refine rgend ?_
    refine wp_ret ?_
    replace H := H.nilRd kByte
    try dsimp only at h
    obtain ⟨rfl, rfl⟩ := Prod.mk.inj (Option.some.inj h)
    exact RET _ _ (retC2 F rfl rfl rfl (ldvA (cel_range (o := 0) (n := 5) (vs := [.int .i64 0, .int .i64 0, .int .i64 0, .int .i64 0, .slice none 0 0]) (H.cell 0 rfl) rfl) agg24 rfl) ⟨_, rfl, none, 0, rfl, H.px1.fx1.fx0⟩)
  · rw [if_neg c3] at h
    rw [decide_eq_false c3] at F
    refine wp_cond_false (F.ev rfl) ?_
    refine wp_skip ?_
    refine rg ?_
    refine ls (lal F H ti3 (cs := [.int .i64 0]) rfl fun g4 w a H F => ?_)
    obtain ⟨_, hr, H⟩ := Hp.store (t := 3) (o := 0) (n := 1) (vs := [.int .i64 0]) (cs' := [.int .i64 0]) (H) (F.ev (x := .tmp 4) rfl) (F.ev (x := .const (.int .i64 0)) rfl) rfl sz3 rfl (Nat.le_of_ble_eq_true rfl) rfl rfl
    refine ls (qn F (.inl rfl) (hr _ _ _ _) fun a F => ?_)
    refine rgend ?_
    refine rg ?_
    refine ls (qv F (r_mf (f' := #[]) (c' := #[.pointer (some ⟨g1, 0, none⟩), .pointer (some ⟨g4, 0, none⟩)]) (by simp) (by rw [List.map_toArray]; exact congrArg _ (F.evs rfl))) fun a F => ?_)
    refine as_ F rfl fun a F => ?_
    refine rgend ?_
    refine rg ?_
    refine mv F rfl fun a F => ?_
    obtain ⟨o_6, k_6, h⟩ := Option.bind_eq_some_iff.1 h
    refine ls (call F Try.func17 (R := fun v w => ∃ (x5 : Int) (x6 : Int), (x5, x6) = o_6 ∧ v = .int .i64 x5 ∧ Hp w0 (rd kByte A0_ c0_ a0 :: ps) (cel g4 [.int .i64 x6] 3 :: cel g2 [.int .i64 0, .int .i64 0, .int .i64 0, .int .i64 0, .slice none 0 0] 24 :: cel g1 [.slice A0_ a0.length c0_] 22 :: fs) w) (args := [.int .i64 8, .pointer (some ⟨g1, 0, none⟩), .pointer (some ⟨g4, 0, none⟩)]) (cap := [.pointer (some ⟨g1, 0, none⟩), .pointer (some ⟨g4, 0, none⟩)]) ?_ rfl rfl ?_)
    · refine enter [.int .i64 8, .pointer (some ⟨g1, 0, none⟩), .pointer (some ⟨g4, 0, none⟩)] 21 Try.func17 fun Q a NP RET NRM F => ?_
      replace NP : ∀ c a w, ¬ Q (.panic c) a w := fun c a w h => by rcases NP c a w h with h | ⟨w, v, h, _⟩ <;> cases h
      refine rg ?_
      refine as_ F (v := .int .i64 0) rfl fun a F => ?_
      refine rgend ?_
      refine rg ?_
      refine as_ F (v := .int .i64 0) rfl fun a F => ?_
      refine rgend ?_
      refine wp_seq ?_
      refine rg ?_
      refine mv F rfl fun a F => ?_
      refine mv F (v := .int .i64 0) rfl fun a F => ?_
      refine rgend ?_
      obtain ⟨o_11, k_11, k_6⟩ := Option.bind_eq_some_iff.1 k_6
      refine cut (fun a w => ∃ (x10 : Int) (x11 : Int), (x10, x11) = o_11 ∧ Fr 21 [] [(5, .int .i64 x10)] a ∧ Hp w0 (rd kByte A0_ c0_ a0 :: ps) (cel g4 [.int .i64 x11] 3 :: cel g2 [.int .i64 0, .int .i64 0, .int .i64 0, .int .i64 0, .slice none 0 0] 24 :: cel g1 [.slice A0_ a0.length c0_] 22 :: fs) w) (wp_block ?_) ?_
      · refine wloop (sector_Get_b0 a0) (fun (s : Int × Int) a w => Fr 21 [] [(1, .pointer (some ⟨g1, 0, none⟩)), (2, .pointer (some ⟨g4, 0, none⟩)), (5, .int .i64 s.1), (6, .int .i64 8), (7, .int .i64 s.2)] a ∧ Hp w0 (rd kByte A0_ c0_ a0 :: ps) (cel g4 [.int .i64 s.2] 3 :: cel g2 [.int .i64 0, .int .i64 0, .int .i64 0, .int .i64 0, .slice none 0 0] 24 :: cel g1 [.slice A0_ a0.length c0_] 22 :: fs) w) k_11 ⟨F.only [1, 2, 5, 6, 7] rfl, H⟩ ?_
        rintro ⟨x8, x9⟩ a w q_11 j_11 u_11 ⟨F, H⟩
        unfold sector_Get_b0 at j_11
        try dsimp only at j_11 F H
        refine rg ?_
        refine ls (qv F (r_lt (F.ev (x := .tmp 7) rfl) (F.ev (x := .tmp 6) rfl)) fun a F => ?_)
        refine rgend ?_
        refine wp_seq ?_
        by_cases c13 : x9 < 8
        · rw [if_pos c13] at j_11
          rw [decide_eq_true c13] at F
          refine wp_cond_true (F.ev rfl) ?_
          refine wp_skip ?_
          refine wp_seq ?_
          refine wp_block ?_
          refine rg ?_
          refine mv F rfl fun a F => ?_
          refine ls (qv F (r_shl (F.ev (x := .tmp 9) rfl) (F.ev (x := .const (.int .u64 8)) rfl) (by decide)) fun a F => ?_)
          refine ls (qv F (r_ld (F.ev (x := .tmp 1) rfl) (cel_cell (o := 0) (H.cell 2 rfl) rfl) one22) fun a F => ?_)
          refine ls (qv F (r_ld (F.ev (x := .tmp 2) rfl) (cel_cell (o := 0) (H.cell 0 rfl) rfl) one3) fun a F => ?_)
          obtain ⟨c14, j_11⟩ := guardO j_11
          obtain ⟨g15, o16, s17, hr, H⟩ := H.ix 0 0 rfl (F.ev (x := .tmp 11) rfl) (F.ev (x := .tmp 12) rfl) Try.underlying22 sz5 (by decide) c14.1 c14.2
          obtain ⟨rfl, hr18⟩ := H.says_byte 1 rfl
          refine ls (qv F (hr _ _ _ _ _ _) fun a F => ?_)
          refine ls (qv F (r_ld (F.ev (x := .tmp 13) rfl) (range_cell (j := 0) (H.range 0 rfl) rfl) one5) fun a F => ?_)
          refine ls (qv F (r_ci (F.ev (x := .tmp 14) rfl) Try.underlying2 Try.underlying5) fun a F => ?_)
          refine ls (qv F (r_or (F.ev (x := .tmp 10) rfl) (F.ev (x := .tmp 15) rfl)) fun a F => ?_)
          refine as_ F rfl fun a F => ?_
          refine rgend ?_
          replace F := F.only [5, 1, 2, 6, 7] (l' := [(5, .int .i64 (orI .i64 (IntKind.i64.wrap (x8 * 2 ^ (8))) (IntKind.i64.wrap (a0.getD (x9 : Int).toNat 0)))), (1, .pointer (some ⟨g1, 0, none⟩)), (2, .pointer (some ⟨g4, 0, none⟩)), (6, .int .i64 8), (7, .int .i64 x9)]) rfl
          refine wp_region_lit ?_
          refine ls (qv F (r_ld (F.ev (x := .tmp 2) rfl) (cel_cell (o := 0) (H.cell 0 rfl) rfl) one3) fun a F => ?_)
          refine ls (qv F (r_add (F.ev (x := .tmp 17) rfl) (F.ev (x := .const (.int .i64 1)) rfl)) fun a F => ?_)
          obtain ⟨_, hr, H⟩ := Hp.store (t := 3) (o := 0) (n := 1) (vs := [.int .i64 (IntKind.i64.wrap (x9 + 1))]) (cs' := [.int .i64 (IntKind.i64.wrap (x9 + 1))]) (H) (F.ev (x := .tmp 2) rfl) (F.ev (x := .tmp 18) rfl) rfl sz3 rfl (Nat.le_of_ble_eq_true rfl) rfl rfl
          refine ls (qn F (.inl rfl) (hr _ _ _ _) fun a F => ?_)
          refine wpList_nil ?_
          refine wp_region_lit ?_
          refine ls (qv F (r_add (F.ev (x := .tmp 7) rfl) (F.ev (x := .const (.int .i64 1)) rfl)) fun a F => ?_)
          refine mv F rfl fun a F => ?_
          refine wpList_nil ?_
          replace F := F.only [7, 5, 1, 2, 6] (l' := [(7, .int .i64 (IntKind.i64.wrap (x9 + 1))), (5, .int .i64 (orI .i64 (IntKind.i64.wrap (x8 * 2 ^ (8))) (IntKind.i64.wrap (a0.getD (x9 : Int).toNat 0)))), (1, .pointer (some ⟨g1, 0, none⟩)), (2, .pointer (some ⟨g4, 0, none⟩)), (6, .int .i64 8)]) rfl
          try dsimp only at j_11
          obtain rfl := Option.some.inj j_11
          exact ⟨_, rfl, F.only [1, 2, 5, 6, 7] rfl, H.px1.px0⟩
        · rw [if_neg c13] at j_11
          rw [decide_eq_false c13] at F
          refine wp_cond_false (F.ev rfl) ?_
          refine wp_exit ?_
          try dsimp only at j_11
          obtain rfl := Option.some.inj j_11
          obtain rfl := u_11 _ rfl
          repeat (with_reducible refine exT ?_)
          with_reducible refine exB ?_
          exact ⟨_, _, rfl, F.only [5] rfl, H⟩
      · rintro a w ⟨x10, x11, rfl, F, H⟩
        try dsimp only at k_6 F H
        refine rg ?_
        refine mv F rfl fun a F => ?_
        refine as_ F rfl fun a F => ?_
        refine rgend ?_
        refine wp_ret ?_
        try dsimp only at k_6
        obtain rfl := Option.some.inj k_6
        exact RET _ _ (ret1 F rfl rfl ⟨_, rfl, _, _, rfl, rfl, H⟩)
    · rintro v w ⟨x5, x6, rfl, rfl, H⟩ a F
      try dsimp only at h F H
      refine mv F rfl fun a F => ?_
      obtain ⟨o_20, k_20, h⟩ := Option.bind_eq_some_iff.1 h
      refine ls (call F Try.func17 (R := fun v w => ∃ (x19 : Int) (x20 : Int), (x19, x20) = o_20 ∧ v = .int .i64 x19 ∧ Hp w0 (rd kByte A0_ c0_ a0 :: ps) (cel g4 [.int .i64 x20] 3 :: cel g2 [.int .i64 0, .int .i64 0, .int .i64 0, .int .i64 0, .slice none 0 0] 24 :: cel g1 [.slice A0_ a0.length c0_] 22 :: fs) w) (args := [.int .i64 2, .pointer (some ⟨g1, 0, none⟩), .pointer (some ⟨g4, 0, none⟩)]) (cap := [.pointer (some ⟨g1, 0, none⟩), .pointer (some ⟨g4, 0, none⟩)]) ?_ rfl rfl ?_)
      · refine enter [.int .i64 2, .pointer (some ⟨g1, 0, none⟩), .pointer (some ⟨g4, 0, none⟩)] 21 Try.func17 fun Q a NP RET NRM F => ?_
        replace NP : ∀ c a w, ¬ Q (.panic c) a w := fun c a w h => by rcases NP c a w h with h | ⟨w, v, h, _⟩ <;> cases h
        refine rg ?_
        refine as_ F (v := .int .i64 0) rfl fun a F => ?_
        refine rgend ?_
        refine rg ?_
        refine as_ F (v := .int .i64 0) rfl fun a F => ?_
        refine rgend ?_
        refine wp_seq ?_
        refine rg ?_
        refine mv F rfl fun a F => ?_
        refine mv F (v := .int .i64 0) rfl fun a F => ?_
        refine rgend ?_
        obtain ⟨o_26, k_26, k_20⟩ := Option.bind_eq_some_iff.1 k_20
        refine cut (fun a w => ∃ (x25 : Int) (x26 : Int), (x25, x26) = o_26 ∧ Fr 21 [] [(5, .int .i64 x25)] a ∧ Hp w0 (rd kByte A0_ c0_ a0 :: ps) (cel g4 [.int .i64 x26] 3 :: cel g2 [.int .i64 0, .int .i64 0, .int .i64 0, .int .i64 0, .slice none 0 0] 24 :: cel g1 [.slice A0_ a0.length c0_] 22 :: fs) w) (wp_block ?_) ?_
        · refine wloop (sector_Get_b1 a0) (fun (s : Int × Int × Int) a w => Fr 21 [] [(1, .pointer (some ⟨g1, 0, none⟩)), (2, .pointer (some ⟨g4, 0, none⟩)), (5, .int .i64 s.1), (6, .int .i64 2), (7, .int .i64 s.2.1)] a ∧ Hp w0 (rd kByte A0_ c0_ a0 :: ps) (cel g4 [.int .i64 s.2.2] 3 :: cel g2 [.int .i64 0, .int .i64 0, .int .i64 0, .int .i64 0, .slice none 0 0] 24 :: cel g1 [.slice A0_ a0.length c0_] 22 :: fs) w) k_26 ⟨F.only [1, 2, 5, 6, 7] rfl, H⟩ ?_
          rintro ⟨x22, x23, x24⟩ a w q_26 j_26 u_26 ⟨F, H⟩
          unfold sector_Get_b1 at j_26
          try dsimp only at j_26 F H
          refine rg ?_
          refine ls (qv F (r_lt (F.ev (x := .tmp 7) rfl) (F.ev (x := .tmp 6) rfl)) fun a F => ?_)
          refine rgend ?_
          refine wp_seq ?_
          by_cases c28 : x23 < 2
          · rw [if_pos c28] at j_26
            rw [decide_eq_true c28] at F
            refine wp_cond_true (F.ev rfl) ?_
            refine wp_skip ?_
            refine wp_seq ?_
            refine wp_block ?_
            refine rg ?_
            refine mv F rfl fun a F => ?_
            refine ls (qv F (r_shl (F.ev (x := .tmp 9) rfl) (F.ev (x := .const (.int .u64 8)) rfl) (by decide)) fun a F => ?_)
            refine ls (qv F (r_ld (F.ev (x := .tmp 1) rfl) (cel_cell (o := 0) (H.cell 2 rfl) rfl) one22) fun a F => ?_)
            refine ls (qv F (r_ld (F.ev (x := .tmp 2) rfl) (cel_cell (o := 0) (H.cell 0 rfl) rfl) one3) fun a F => ?_)
            obtain ⟨c29, j_26⟩ := guardO j_26
            obtain ⟨g30, o31, s32, hr, H⟩ := H.ix 0 0 rfl (F.ev (x := .tmp 11) rfl) (F.ev (x := .tmp 12) rfl) Try.underlying22 sz5 (by decide) c29.1 c29.2
            obtain ⟨rfl, hr33⟩ := H.says_byte 1 rfl
            refine ls (qv F (hr _ _ _ _ _ _) fun a F => ?_)
            refine ls (qv F (r_ld (F.ev (x := .tmp 13) rfl) (range_cell (j := 0) (H.range 0 rfl) rfl) one5) fun a F => ?_)
            refine ls (qv F (r_ci (F.ev (x := .tmp 14) rfl) Try.underlying2 Try.underlying5) fun a F => ?_)
            refine ls (qv F (r_or (F.ev (x := .tmp 10) rfl) (F.ev (x := .tmp 15) rfl)) fun a F => ?_)
            refine as_ F rfl fun a F => ?_
            refine rgend ?_
            replace F := F.only [5, 1, 2, 6, 7] (l' := [(5, .int .i64 (orI .i64 (IntKind.i64.wrap (x22 * 2 ^ (8))) (IntKind.i64.wrap (a0.getD (x24 : Int).toNat 0)))), (1, .pointer (some ⟨g1, 0, none⟩)), (2, .pointer (some ⟨g4, 0, none⟩)), (6, .int .i64 2), (7, .int .i64 x23)]) rfl
            refine wp_region_lit ?_
            refine ls (qv F (r_ld (F.ev (x := .tmp 2) rfl) (cel_cell (o := 0) (H.cell 0 rfl) rfl) one3) fun a F => ?_)
            refine ls (qv F (r_add (F.ev (x := .tmp 17) rfl) (F.ev (x := .const (.int .i64 1)) rfl)) fun a F => ?_)
            obtain ⟨_, hr, H⟩ := Hp.store (t := 3) (o := 0) (n := 1) (vs := [.int .i64 (IntKind.i64.wrap (x24 + 1))]) (cs' := [.int .i64 (IntKind.i64.wrap (x24 + 1))]) (H) (F.ev (x := .tmp 2) rfl) (F.ev (x := .tmp 18) rfl) rfl sz3 rfl (Nat.le_of_ble_eq_true rfl) rfl rfl
            refine ls (qn F (.inl rfl) (hr _ _ _ _) fun a F => ?_)
            refine wpList_nil ?_
            refine wp_region_lit ?_
            refine ls (qv F (r_add (F.ev (x := .tmp 7) rfl) (F.ev (x := .const (.int .i64 1)) rfl)) fun a F => ?_)
            refine mv F rfl fun a F => ?_
            refine wpList_nil ?_
            replace F := F.only [7, 5, 1, 2, 6] (l' := [(7, .int .i64 (IntKind.i64.wrap (x23 + 1))), (5, .int .i64 (orI .i64 (IntKind.i64.wrap (x22 * 2 ^ (8))) (IntKind.i64.wrap (a0.getD (x24 : Int).toNat 0)))), (1, .pointer (some ⟨g1, 0, none⟩)), (2, .pointer (some ⟨g4, 0, none⟩)), (6, .int .i64 2)]) rfl
            try dsimp only at j_26
            obtain rfl := Option.some.inj j_26
            exact ⟨_, rfl, F.only [1, 2, 5, 6, 7] rfl, H.px1.px0⟩
          · rw [if_neg c28] at j_26
            rw [decide_eq_false c28] at F
            refine wp_cond_false (F.ev rfl) ?_
            refine wp_exit ?_
            try dsimp only at j_26
            obtain rfl := Option.some.inj j_26
            obtain rfl := u_26 _ rfl
            repeat (with_reducible refine exT ?_)
            with_reducible refine exB ?_
            exact ⟨_, _, rfl, F.only [5] rfl, H⟩
        · rintro a w ⟨x25, x26, rfl, F, H⟩
          try dsimp only at k_20 F H
          refine rg ?_
          refine mv F rfl fun a F => ?_
          refine as_ F rfl fun a F => ?_
          refine rgend ?_
          refine wp_ret ?_
          try dsimp only at k_20
          obtain rfl := Option.some.inj k_20
          exact RET _ _ (ret1 F rfl rfl ⟨_, rfl, _, _, rfl, rfl, H⟩)
      · rintro v w ⟨x19, x20, rfl, rfl, H⟩ a F
        try dsimp only at h F H
        refine mv F rfl fun a F => ?_
        obtain ⟨o_35, k_35, h⟩ := Option.bind_eq_some_iff.1 h
        refine ls (call F Try.func17 (R := fun v w => ∃ (x34 : Int) (x35 : Int), (x34, x35) = o_35 ∧ v = .int .i64 x34 ∧ Hp w0 (rd kByte A0_ c0_ a0 :: ps) (cel g4 [.int .i64 x35] 3 :: cel g2 [.int .i64 0, .int .i64 0, .int .i64 0, .int .i64 0, .slice none 0 0] 24 :: cel g1 [.slice A0_ a0.length c0_] 22 :: fs) w) (args := [.int .i64 1, .pointer (some ⟨g1, 0, none⟩), .pointer (some ⟨g4, 0, none⟩)]) (cap := [.pointer (some ⟨g1, 0, none⟩), .pointer (some ⟨g4, 0, none⟩)]) ?_ rfl rfl ?_)
        · refine enter [.int .i64 1, .pointer (some ⟨g1, 0, none⟩), .pointer (some ⟨g4, 0, none⟩)] 21 Try.func17 fun Q a NP RET NRM F => ?_
          replace NP : ∀ c a w, ¬ Q (.panic c) a w := fun c a w h => by rcases NP c a w h with h | ⟨w, v, h, _⟩ <;> cases h
          refine rg ?_
          refine as_ F (v := .int .i64 0) rfl fun a F => ?_
          refine rgend ?_
          refine rg ?_
          refine as_ F (v := .int .i64 0) rfl fun a F => ?_
          refine rgend ?_
          refine wp_seq ?_
          refine rg ?_
          refine mv F rfl fun a F => ?_
          refine mv F (v := .int .i64 0) rfl fun a F => ?_
          refine rgend ?_
          obtain ⟨o_41, k_41, k_35⟩ := Option.bind_eq_some_iff.1 k_35
          refine cut (fun a w => ∃ (x40 : Int) (x41 : Int), (x40, x41) = o_41 ∧ Fr 21 [] [(5, .int .i64 x40)] a ∧ Hp w0 (rd kByte A0_ c0_ a0 :: ps) (cel g4 [.int .i64 x41] 3 :: cel g2 [.int .i64 0, .int .i64 0, .int .i64 0, .int .i64 0, .slice none 0 0] 24 :: cel g1 [.slice A0_ a0.length c0_] 22 :: fs) w) (wp_block ?_) ?_
          · refine wloop (sector_Get_b2 a0) (fun (s : Int × Int × Int) a w => Fr 21 [] [(1, .pointer (some ⟨g1, 0, none⟩)), (2, .pointer (some ⟨g4, 0, none⟩)), (5, .int .i64 s.1), (6, .int .i64 1), (7, .int .i64 s.2.1)] a ∧ Hp w0 (rd kByte A0_ c0_ a0 :: ps) (cel g4 [.int .i64 s.2.2] 3 :: cel g2 [.int .i64 0, .int .i64 0, .int .i64 0, .int .i64 0, .slice none 0 0] 24 :: cel g1 [.slice A0_ a0.length c0_] 22 :: fs) w) k_41 ⟨F.only [1, 2, 5, 6, 7] rfl, H⟩ ?_
            rintro ⟨x37, x38, x39⟩ a w q_41 j_41 u_41 ⟨F, H⟩
            unfold sector_Get_b2 at j_41
            try dsimp only at j_41 F H
            refine rg ?_
            refine ls (qv F (r_lt (F.ev (x := .tmp 7) rfl) (F.ev (x := .tmp 6) rfl)) fun a F => ?_)
            refine rgend ?_
            refine wp_seq ?_
            by_cases c43 : x38 < 1
            · rw [if_pos c43] at j_41
              rw [decide_eq_true c43] at F
              refine wp_cond_true (F.ev rfl) ?_
              refine wp_skip ?_
              refine wp_seq ?_
              refine wp_block ?_
              refine rg ?_
              refine mv F rfl fun a F => ?_
              refine ls (qv F (r_shl (F.ev (x := .tmp 9) rfl) (F.ev (x := .const (.int .u64 8)) rfl) (by decide)) fun a F => ?_)
              refine ls (qv F (r_ld (F.ev (x := .tmp 1) rfl) (cel_cell (o := 0) (H.cell 2 rfl) rfl) one22) fun a F => ?_)
              refine ls (qv F (r_ld (F.ev (x := .tmp 2) rfl) (cel_cell (o := 0) (H.cell 0 rfl) rfl) one3) fun a F => ?_)
              obtain ⟨c44, j_41⟩ := guardO j_41
              obtain ⟨g45, o46, s47, hr, H⟩ := H.ix 0 0 rfl (F.ev (x := .tmp 11) rfl) (F.ev (x := .tmp 12) rfl) Try.underlying22 sz5 (by decide) c44.1 c44.2
              obtain ⟨rfl, hr48⟩ := H.says_byte 1 rfl
              refine ls (qv F (hr _ _ _ _ _ _) fun a F => ?_)
              refine ls (qv F (r_ld (F.ev (x := .tmp 13) rfl) (range_cell (j := 0) (H.range 0 rfl) rfl) one5) fun a F => ?_)
              refine ls (qv F (r_ci (F.ev (x := .tmp 14) rfl) Try.underlying2 Try.underlying5) fun a F => ?_)
              refine ls (qv F (r_or (F.ev (x := .tmp 10) rfl) (F.ev (x := .tmp 15) rfl)) fun a F => ?_)
              refine as_ F rfl fun a F => ?_
              refine rgend ?_
              replace F := F.only [5, 1, 2, 6, 7] (l' := [(5, .int .i64 (orI .i64 (IntKind.i64.wrap (x37 * 2 ^ (8))) (IntKind.i64.wrap (a0.getD (x39 : Int).toNat 0)))), (1, .pointer (some ⟨g1, 0, none⟩)), (2, .pointer (some ⟨g4, 0, none⟩)), (6, .int .i64 1), (7, .int .i64 x38)]) rfl
              refine wp_region_lit ?_
              refine ls (qv F (r_ld (F.ev (x := .tmp 2) rfl) (cel_cell (o := 0) (H.cell 0 rfl) rfl) one3) fun a F => ?_)
              refine ls (qv F (r_add (F.ev (x := .tmp 17) rfl) (F.ev (x := .const (.int .i64 1)) rfl)) fun a F => ?_)
              obtain ⟨_, hr, H⟩ := Hp.store (t := 3) (o := 0) (n := 1) (vs := [.int .i64 (IntKind.i64.wrap (x39 + 1))]) (cs' := [.int .i64 (IntKind.i64.wrap (x39 + 1))]) (H) (F.ev (x := .tmp 2) rfl) (F.ev (x := .tmp 18) rfl) rfl sz3 rfl (Nat.le_of_ble_eq_true rfl) rfl rfl
              refine ls (qn F (.inl rfl) (hr _ _ _ _) fun a F => ?_)
              refine wpList_nil ?_
              refine wp_region_lit ?_
              refine ls (qv F (r_add (F.ev (x := .tmp 7) rfl) (F.ev (x := .const (.int .i64 1)) rfl)) fun a F => ?_)
              refine mv F rfl fun a F => ?_
              refine wpList_nil ?_
              replace F := F.only [7, 5, 1, 2, 6] (l' := [(7, .int .i64 (IntKind.i64.wrap (x38 + 1))), (5, .int .i64 (orI .i64 (IntKind.i64.wrap (x37 * 2 ^ (8))) (IntKind.i64.wrap (a0.getD (x39 : Int).toNat 0)))), (1, .pointer (some ⟨g1, 0, none⟩)), (2, .pointer (some ⟨g4, 0, none⟩)), (6, .int .i64 1)]) rfl
              try dsimp only at j_41
              obtain rfl := Option.some.inj j_41
              exact ⟨_, rfl, F.only [1, 2, 5, 6, 7] rfl, H.px1.px0⟩
            · rw [if_neg c43] at j_41
              rw [decide_eq_false c43] at F
              refine wp_cond_false (F.ev rfl) ?_
              refine wp_exit ?_
              try dsimp only at j_41
              obtain rfl := Option.some.inj j_41
              obtain rfl := u_41 _ rfl
              repeat (with_reducible refine exT ?_)
              with_reducible refine exB ?_
              exact ⟨_, _, rfl, F.only [5] rfl, H⟩
          · rintro a w ⟨x40, x41, rfl, F, H⟩
            try dsimp only at k_35 F H
            refine rg ?_
            refine mv F rfl fun a F => ?_
            refine as_ F rfl fun a F => ?_
            refine rgend ?_
            refine wp_ret ?_
            try dsimp only at k_35
            obtain rfl := Option.some.inj k_35
            exact RET _ _ (ret1 F rfl rfl ⟨_, rfl, _, _, rfl, rfl, H⟩)
        · rintro v w ⟨x34, x35, rfl, rfl, H⟩ a F
          try dsimp only at h F H
          refine mv F rfl fun a F => ?_
          obtain ⟨o_50, k_50, h⟩ := Option.bind_eq_some_iff.1 h
          refine ls (call F Try.func17 (R := fun v w => ∃ (x49 : Int) (x50 : Int), (x49, x50) = o_50 ∧ v = .int .i64 x49 ∧ Hp w0 (rd kByte A0_ c0_ a0 :: ps) (cel g4 [.int .i64 x50] 3 :: cel g2 [.int .i64 0, .int .i64 0, .int .i64 0, .int .i64 0, .slice none 0 0] 24 :: cel g1 [.slice A0_ a0.length c0_] 22 :: fs) w) (args := [.int .i64 2, .pointer (some ⟨g1, 0, none⟩), .pointer (some ⟨g4, 0, none⟩)]) (cap := [.pointer (some ⟨g1, 0, none⟩), .pointer (some ⟨g4, 0, none⟩)]) ?_ rfl rfl ?_)
          · refine enter [.int .i64 2, .pointer (some ⟨g1, 0, none⟩), .pointer (some ⟨g4, 0, none⟩)] 21 Try.func17 fun Q a NP RET NRM F => ?_
            replace NP : ∀ c a w, ¬ Q (.panic c) a w := fun c a w h => by rcases NP c a w h with h | ⟨w, v, h, _⟩ <;> cases h
            refine rg ?_
            refine as_ F (v := .int .i64 0) rfl fun a F => ?_
            refine rgend ?_
            refine rg ?_
            refine as_ F (v := .int .i64 0) rfl fun a F => ?_
            refine rgend ?_
            refine wp_seq ?_
            refine rg ?_
            refine mv F rfl fun a F => ?_
            refine mv F (v := .int .i64 0) rfl fun a F => ?_
            refine rgend ?_
            obtain ⟨o_56, k_56, k_50⟩ := Option.bind_eq_some_iff.1 k_50
            refine cut (fun a w => ∃ (x55 : Int) (x56 : Int), (x55, x56) = o_56 ∧ Fr 21 [] [(5, .int .i64 x55)] a ∧ Hp w0 (rd kByte A0_ c0_ a0 :: ps) (cel g4 [.int .i64 x56] 3 :: cel g2 [.int .i64 0, .int .i64 0, .int .i64 0, .int .i64 0, .slice none 0 0] 24 :: cel g1 [.slice A0_ a0.length c0_] 22 :: fs) w) (wp_block ?_) ?_
            · refine wloop (sector_Get_b3 a0) (fun (s : Int × Int × Int) a w => Fr 21 [] [(1, .pointer (some ⟨g1, 0, none⟩)), (2, .pointer (some ⟨g4, 0, none⟩)), (5, .int .i64 s.1), (6, .int .i64 2), (7, .int .i64 s.2.1)] a ∧ Hp w0 (rd kByte A0_ c0_ a0 :: ps) (cel g4 [.int .i64 s.2.2] 3 :: cel g2 [.int .i64 0, .int .i64 0, .int .i64 0, .int .i64 0, .slice none 0 0] 24 :: cel g1 [.slice A0_ a0.length c0_] 22 :: fs) w) k_56 ⟨F.only [1, 2, 5, 6, 7] rfl, H⟩ ?_
              rintro ⟨x52, x53, x54⟩ a w q_56 j_56 u_56 ⟨F, H⟩
              unfold sector_Get_b3 at j_56
              try dsimp only at j_56 F H
              refine rg ?_
              refine ls (qv F (r_lt (F.ev (x := .tmp 7) rfl) (F.ev (x := .tmp 6) rfl)) fun a F => ?_)
              refine rgend ?_
              refine wp_seq ?_
              by_cases c58 : x53 < 2
              · rw [if_pos c58] at j_56
                rw [decide_eq_true c58] at F
                refine wp_cond_true (F.ev rfl) ?_
                refine wp_skip ?_
                refine wp_seq ?_
                refine wp_block ?_
                refine rg ?_
                refine mv F rfl fun a F => ?_
                refine ls (qv F (r_shl (F.ev (x := .tmp 9) rfl) (F.ev (x := .const (.int .u64 8)) rfl) (by decide)) fun a F => ?_)
                refine ls (qv F (r_ld (F.ev (x := .tmp 1) rfl) (cel_cell (o := 0) (H.cell 2 rfl) rfl) one22) fun a F => ?_)
                refine ls (qv F (r_ld (F.ev (x := .tmp 2) rfl) (cel_cell (o := 0) (H.cell 0 rfl) rfl) one3) fun a F => ?_)
                obtain ⟨c59, j_56⟩ := guardO j_56
                obtain ⟨g60, o61, s62, hr, H⟩ := H.ix 0 0 rfl (F.ev (x := .tmp 11) rfl) (F.ev (x := .tmp 12) rfl) Try.underlying22 sz5 (by decide) c59.1 c59.2
                obtain ⟨rfl, hr63⟩ := H.says_byte 1 rfl
                refine ls (qv F (hr _ _ _ _ _ _) fun a F => ?_)
                refine ls (qv F (r_ld (F.ev (x := .tmp 13) rfl) (range_cell (j := 0) (H.range 0 rfl) rfl) one5) fun a F => ?_)
                refine ls (qv F (r_ci (F.ev (x := .tmp 14) rfl) Try.underlying2 Try.underlying5) fun a F => ?_)
                refine ls (qv F (r_or (F.ev (x := .tmp 10) rfl) (F.ev (x := .tmp 15) rfl)) fun a F => ?_)
                refine as_ F rfl fun a F => ?_
                refine rgend ?_
                replace F := F.only [5, 1, 2, 6, 7] (l' := [(5, .int .i64 (orI .i64 (IntKind.i64.wrap (x52 * 2 ^ (8))) (IntKind.i64.wrap (a0.getD (x54 : Int).toNat 0)))), (1, .pointer (some ⟨g1, 0, none⟩)), (2, .pointer (some ⟨g4, 0, none⟩)), (6, .int .i64 2), (7, .int .i64 x53)]) rfl
                refine wp_region_lit ?_
                refine ls (qv F (r_ld (F.ev (x := .tmp 2) rfl) (cel_cell (o := 0) (H.cell 0 rfl) rfl) one3) fun a F => ?_)
                refine ls (qv F (r_add (F.ev (x := .tmp 17) rfl) (F.ev (x := .const (.int .i64 1)) rfl)) fun a F => ?_)
                obtain ⟨_, hr, H⟩ := Hp.store (t := 3) (o := 0) (n := 1) (vs := [.int .i64 (IntKind.i64.wrap (x54 + 1))]) (cs' := [.int .i64 (IntKind.i64.wrap (x54 + 1))]) (H) (F.ev (x := .tmp 2) rfl) (F.ev (x := .tmp 18) rfl) rfl sz3 rfl (Nat.le_of_ble_eq_true rfl) rfl rfl
                refine ls (qn F (.inl rfl) (hr _ _ _ _) fun a F => ?_)
                refine wpList_nil ?_
                refine wp_region_lit ?_
                refine ls (qv F (r_add (F.ev (x := .tmp 7) rfl) (F.ev (x := .const (.int .i64 1)) rfl)) fun a F => ?_)
                refine mv F rfl fun a F => ?_
                refine wpList_nil ?_
                replace F := F.only [7, 5, 1, 2, 6] (l' := [(7, .int .i64 (IntKind.i64.wrap (x53 + 1))), (5, .int .i64 (orI .i64 (IntKind.i64.wrap (x52 * 2 ^ (8))) (IntKind.i64.wrap (a0.getD (x54 : Int).toNat 0)))), (1, .pointer (some ⟨g1, 0, none⟩)), (2, .pointer (some ⟨g4, 0, none⟩)), (6, .int .i64 2)]) rfl
                try dsimp only at j_56
                obtain rfl := Option.some.inj j_56
                exact ⟨_, rfl, F.only [1, 2, 5, 6, 7] rfl, H.px1.px0⟩
              · rw [if_neg c58] at j_56
                rw [decide_eq_false c58] at F
                refine wp_cond_false (F.ev rfl) ?_
                refine wp_exit ?_
                try dsimp only at j_56
                obtain rfl := Option.some.inj j_56
                obtain rfl := u_56 _ rfl
                repeat (with_reducible refine exT ?_)
                with_reducible refine exB ?_
                exact ⟨_, _, rfl, F.only [5] rfl, H⟩
            · rintro a w ⟨x55, x56, rfl, F, H⟩
              try dsimp only at k_50 F H
              refine rg ?_
              refine mv F rfl fun a F => ?_
              refine as_ F rfl fun a F => ?_
              refine rgend ?_
              refine wp_ret ?_
              try dsimp only at k_50
              obtain rfl := Option.some.inj k_50
              exact RET _ _ (ret1 F rfl rfl ⟨_, rfl, _, _, rfl, rfl, H⟩)
          · rintro v w ⟨x49, x50, rfl, rfl, H⟩ a F
            try dsimp only at h F H
            refine ls (lbd F (vs := [(0, .int .i64 x5), (1, .int .i64 x19), (2, .int .i64 x34), (3, .int .i64 x49)]) (cs := [.int .i64 x5, .int .i64 x19, .int .i64 x34, .int .i64 x49, .slice none 0 0]) rfl (fun w => by kernel_rfl) fun a F => ?_)
            refine ls (lal F H ti24 (cs := [.int .i64 0, .int .i64 0, .int .i64 0, .int .i64 0, .slice none 0 0]) rfl fun g64 w a H F => ?_)
            obtain ⟨_, hr, H⟩ := Hp.store (t := 24) (o := 0) (n := 5) (vs := [.int .i64 x5, .int .i64 x19, .int .i64 x34, .int .i64 x49, .slice none 0 0]) (cs' := [.int .i64 x5, .int .i64 x19, .int .i64 x34, .int .i64 x49, .slice none 0 0]) (H) (F.ev (x := .tmp 6) rfl) (F.ev (x := .tmp 20) rfl) rfl sz24 rfl (Nat.le_of_ble_eq_true rfl) rfl rfl
            refine ls (qn F (.inl rfl) (hr _ _ _ _) fun a F => ?_)
            refine rgend ?_
            replace F := F.only [6, 5, 2, 1] (l' := [(6, .pointer (some ⟨g64, 0, none⟩)), (5, .func (.func 17) #[] #[.pointer (some ⟨g1, 0, none⟩), .pointer (some ⟨g4, 0, none⟩)]), (2, .pointer (some ⟨g2, 0, none⟩)), (1, .pointer (some ⟨g1, 0, none⟩))]) rfl
            refine wp_seq ?_
            replace H := H.drew
            have HS := H.fx1
            refine dr (fun w => Hp w0 (rd kByte A0_ c0_ a0 :: ps) (cel g64 [.int .i64 x5, .int .i64 x19, .int .i64 x34, .int .i64 x49, .slice none 0 0] 24 :: cel g2 [.int .i64 0, .int .i64 0, .int .i64 0, .int .i64 0, .slice none 0 0] 24 :: cel g1 [.slice A0_ a0.length c0_] 22 :: fs) w) _ (by kernel_rfl) ?_ (n := 11)
            refine dq 0 F rfl (by kernel_rfl) NP HS (fun w S => (r_fa (off := 4) (F.ev (x := .tmp 6) rfl) fa24_4)) fun a F => ?_
            refine dq 1 F rfl (by kernel_rfl) NP HS (fun w S => (r_ld (F.ev (x := .tmp 21) rfl) (cel_cell (o := 4) (S.cell 0 rfl) rfl) one22)) fun a F => ?_
            refine dq 2 F rfl (by kernel_rfl) NP HS (fun w S => (r_ld (F.ev (x := .tmp 1) rfl) (cel_cell (o := 0) (S.cell 2 rfl) rfl) one22)) fun a F => ?_
            refine dq 3 F rfl (by kernel_rfl) NP HS (fun w S => (r_mv (F.ev (x := .tmp 5) rfl))) fun a F => ?_
            obtain ⟨o_66, k_66, h⟩ := Option.bind_eq_some_iff.1 h
            refine d1 4 rfl (by kernel_rfl) (call F Try.func17 (R := fun v w => ∃ (x65 : Int) (x66 : Int), (x65, x66) = o_66 ∧ v = .int .i64 x65 ∧ Hp w0 (rd kByte A0_ c0_ a0 :: ps) (cel g4 [.int .i64 x66] 3 :: cel g2 [.int .i64 0, .int .i64 0, .int .i64 0, .int .i64 0, .slice none 0 0] 24 :: cel g1 [.slice A0_ a0.length c0_] 22 :: cel g64 [.int .i64 x5, .int .i64 x19, .int .i64 x34, .int .i64 x49, .slice none 0 0] 24 :: fs) w) (args := [.int .i64 1, .pointer (some ⟨g1, 0, none⟩), .pointer (some ⟨g4, 0, none⟩)]) (cap := [.pointer (some ⟨g1, 0, none⟩), .pointer (some ⟨g4, 0, none⟩)]) ?_ rfl rfl ?_)
            · refine enter [.int .i64 1, .pointer (some ⟨g1, 0, none⟩), .pointer (some ⟨g4, 0, none⟩)] 21 Try.func17 fun Q a NP RET NRM F => ?_
              replace NP : ∀ c a w, ¬ Q (.panic c) a w := fun c a w h => by rcases NP c a w h with h | ⟨w, v, h, _⟩ <;> cases h
              refine rg ?_
              refine as_ F (v := .int .i64 0) rfl fun a F => ?_
              refine rgend ?_
              refine rg ?_
              refine as_ F (v := .int .i64 0) rfl fun a F => ?_
              refine rgend ?_
              refine wp_seq ?_
              refine rg ?_
              refine mv F rfl fun a F => ?_
              refine mv F (v := .int .i64 0) rfl fun a F => ?_
              refine rgend ?_
              obtain ⟨o_72, k_72, k_66⟩ := Option.bind_eq_some_iff.1 k_66
              refine cut (fun a w => ∃ (x71 : Int) (x72 : Int), (x71, x72) = o_72 ∧ Fr 21 [] [(5, .int .i64 x71)] a ∧ Hp w0 (rd kByte A0_ c0_ a0 :: ps) (cel g4 [.int .i64 x72] 3 :: cel g2 [.int .i64 0, .int .i64 0, .int .i64 0, .int .i64 0, .slice none 0 0] 24 :: cel g1 [.slice A0_ a0.length c0_] 22 :: cel g64 [.int .i64 x5, .int .i64 x19, .int .i64 x34, .int .i64 x49, .slice none 0 0] 24 :: fs) w) (wp_block ?_) ?_
              · refine wloop (sector_Get_b4 a0) (fun (s : Int × Int × Int) a w => Fr 21 [] [(1, .pointer (some ⟨g1, 0, none⟩)), (2, .pointer (some ⟨g4, 0, none⟩)), (5, .int .i64 s.1), (6, .int .i64 1), (7, .int .i64 s.2.1)] a ∧ Hp w0 (rd kByte A0_ c0_ a0 :: ps) (cel g4 [.int .i64 s.2.2] 3 :: cel g2 [.int .i64 0, .int .i64 0, .int .i64 0, .int .i64 0, .slice none 0 0] 24 :: cel g1 [.slice A0_ a0.length c0_] 22 :: cel g64 [.int .i64 x5, .int .i64 x19, .int .i64 x34, .int .i64 x49, .slice none 0 0] 24 :: fs) w) k_72 ⟨F.only [1, 2, 5, 6, 7] rfl, H.f3.f3.f3⟩ ?_
                rintro ⟨x68, x69, x70⟩ a w q_72 j_72 u_72 ⟨F, H⟩
                unfold sector_Get_b4 at j_72
                try dsimp only at j_72 F H
                refine rg ?_
                refine ls (qv F (r_lt (F.ev (x := .tmp 7) rfl) (F.ev (x := .tmp 6) rfl)) fun a F => ?_)
                refine rgend ?_
                refine wp_seq ?_
                by_cases c74 : x69 < 1
                · rw [if_pos c74] at j_72
                  rw [decide_eq_true c74] at F
                  refine wp_cond_true (F.ev rfl) ?_
                  refine wp_skip ?_
                  refine wp_seq ?_
                  refine wp_block ?_
                  refine rg ?_
                  refine mv F rfl fun a F => ?_
                  refine ls (qv F (r_shl (F.ev (x := .tmp 9) rfl) (F.ev (x := .const (.int .u64 8)) rfl) (by decide)) fun a F => ?_)
                  refine ls (qv F (r_ld (F.ev (x := .tmp 1) rfl) (cel_cell (o := 0) (H.cell 2 rfl) rfl) one22) fun a F => ?_)
                  refine ls (qv F (r_ld (F.ev (x := .tmp 2) rfl) (cel_cell (o := 0) (H.cell 0 rfl) rfl) one3) fun a F => ?_)
                  obtain ⟨c75, j_72⟩ := guardO j_72
                  obtain ⟨g76, o77, s78, hr, H⟩ := H.ix 0 0 rfl (F.ev (x := .tmp 11) rfl) (F.ev (x := .tmp 12) rfl) Try.underlying22 sz5 (by decide) c75.1 c75.2
                  obtain ⟨rfl, hr79⟩ := H.says_byte 1 rfl
                  refine ls (qv F (hr _ _ _ _ _ _) fun a F => ?_)
                  refine ls (qv F (r_ld (F.ev (x := .tmp 13) rfl) (range_cell (j := 0) (H.range 0 rfl) rfl) one5) fun a F => ?_)
                  refine ls (qv F (r_ci (F.ev (x := .tmp 14) rfl) Try.underlying2 Try.underlying5) fun a F => ?_)
                  refine ls (qv F (r_or (F.ev (x := .tmp 10) rfl) (F.ev (x := .tmp 15) rfl)) fun a F => ?_)
                  refine as_ F rfl fun a F => ?_
                  refine rgend ?_
                  replace F := F.only [5, 1, 2, 6, 7] (l' := [(5, .int .i64 (orI .i64 (IntKind.i64.wrap (x68 * 2 ^ (8))) (IntKind.i64.wrap (a0.getD (x70 : Int).toNat 0)))), (1, .pointer (some ⟨g1, 0, none⟩)), (2, .pointer (some ⟨g4, 0, none⟩)), (6, .int .i64 1), (7, .int .i64 x69)]) rfl
                  refine wp_region_lit ?_
                  refine ls (qv F (r_ld (F.ev (x := .tmp 2) rfl) (cel_cell (o := 0) (H.cell 0 rfl) rfl) one3) fun a F => ?_)
                  refine ls (qv F (r_add (F.ev (x := .tmp 17) rfl) (F.ev (x := .const (.int .i64 1)) rfl)) fun a F => ?_)
                  obtain ⟨_, hr, H⟩ := Hp.store (t := 3) (o := 0) (n := 1) (vs := [.int .i64 (IntKind.i64.wrap (x70 + 1))]) (cs' := [.int .i64 (IntKind.i64.wrap (x70 + 1))]) (H) (F.ev (x := .tmp 2) rfl) (F.ev (x := .tmp 18) rfl) rfl sz3 rfl (Nat.le_of_ble_eq_true rfl) rfl rfl
                  refine ls (qn F (.inl rfl) (hr _ _ _ _) fun a F => ?_)
                  refine wpList_nil ?_
                  refine wp_region_lit ?_
                  refine ls (qv F (r_add (F.ev (x := .tmp 7) rfl) (F.ev (x := .const (.int .i64 1)) rfl)) fun a F => ?_)
                  refine mv F rfl fun a F => ?_
                  refine wpList_nil ?_
                  replace F := F.only [7, 5, 1, 2, 6] (l' := [(7, .int .i64 (IntKind.i64.wrap (x69 + 1))), (5, .int .i64 (orI .i64 (IntKind.i64.wrap (x68 * 2 ^ (8))) (IntKind.i64.wrap (a0.getD (x70 : Int).toNat 0)))), (1, .pointer (some ⟨g1, 0, none⟩)), (2, .pointer (some ⟨g4, 0, none⟩)), (6, .int .i64 1)]) rfl
                  try dsimp only at j_72
                  obtain rfl := Option.some.inj j_72
                  exact ⟨_, rfl, F.only [1, 2, 5, 6, 7] rfl, H.px1.px0⟩
                · rw [if_neg c74] at j_72
                  rw [decide_eq_false c74] at F
                  refine wp_cond_false (F.ev rfl) ?_
                  refine wp_exit ?_
                  try dsimp only at j_72
                  obtain rfl := Option.some.inj j_72
                  obtain rfl := u_72 _ rfl
                  repeat (with_reducible refine exT ?_)
                  with_reducible refine exB ?_
                  exact ⟨_, _, rfl, F.only [5] rfl, H⟩
              · rintro a w ⟨x71, x72, rfl, F, H⟩
                try dsimp only at k_66 F H
                refine rg ?_
                refine mv F rfl fun a F => ?_
                refine as_ F rfl fun a F => ?_
                refine rgend ?_
                refine wp_ret ?_
                try dsimp only at k_66
                obtain rfl := Option.some.inj k_66
                exact RET _ _ (ret1 F rfl rfl ⟨_, rfl, _, _, rfl, rfl, H⟩)
            · rintro v w ⟨x65, x66, rfl, rfl, H⟩ a F
              try dsimp only at h F H
              have HS := H.f2.f2.f3.fx3
              refine kg _ HS (fun w S => S) ?_
              refine dq 5 F rfl (by kernel_rfl) NP HS (fun w S => (r_min (F.ev (x := .tmp 25) rfl) (F.ev (x := .const (.int .i64 50)) rfl))) fun a F => ?_
              refine dq 6 F rfl (by kernel_rfl) NP HS (fun w S => (r_add (F.ev (x := .const (.int .i64 14)) rfl) (F.ev (x := .tmp 26) rfl))) fun a F => ?_
              obtain ⟨c80, h⟩ := guardO h
              obtain ⟨A81, c82, hr, H⟩ := Hp.sl (kd := kByte) (jl := (14 : Int)) (jh := IntKind.i64.wrap (14 + (min x65 50))) H 0 rfl (F.ev (x := .tmp 23) rfl) Try.underlying22 sz5 (.inr ⟨_, _, rfl, (F.ev (x := .const (.int .i64 14)) rfl)⟩) (.inr ⟨_, _, rfl, (F.ev (x := .tmp 27) rfl)⟩) c80
              have HS := H.f2.f2.f3.fx3
              refine dmoreH HS (fun w S => S.px0) ?_
              refine dq 7 F rfl (by kernel_rfl) NP HS (fun w S => (hr _ _ _ _ _ _)) fun a F => ?_
              replace H := H.nilOwn kByte 5
              obtain ⟨c83, h⟩ := guardO h
              obtain ⟨A84, c85, _, hr, H⟩ := Hp.appendRd (kd := kByte) (xs := []) (ys := ((a0.take (IntKind.i64.wrap (14 + (min x65 50))).toNat).drop ((14 : Int)).toNat)) (H) 0 rfl (F.ev (x := .tmp 22) rfl) (F.ev (x := .tmp 28) rfl) Try.underlying22 ti5 rfl (by decide) (by decide) c83
              rw [List.nil_append] at hr H
              refine d1 8 rfl (by kernel_rfl) (qv F (hr _ _ _ _ _) fun a F => ?_)
              have HS := H.f3.f3.f4.fx4.fx3
              refine kg _ HS (fun w S => S) ?_
              refine dq 9 F rfl (by kernel_rfl) NP HS (fun w S => (r_fa (off := 4) (F.ev (x := .tmp 6) rfl) fa24_4)) fun a F => ?_
              obtain ⟨_, hr, H⟩ := Hp.store (t := 22) (o := 4) (n := 1) (vs := [.slice A84 (((a0.take (IntKind.i64.wrap (14 + (min x65 50))).toNat).drop ((14 : Int)).toNat)).length c85]) (cs' := [.int .i64 x5, .int .i64 x19, .int .i64 x34, .int .i64 x49, .slice A84 (((a0.take (IntKind.i64.wrap (14 + (min x65 50))).toNat).drop ((14 : Int)).toNat)).length c85]) (H.f3.f3.f3.f3.f4) (F.ev (x := .tmp 30) rfl) (F.ev (x := .tmp 29) rfl) rfl sz22 rfl (Nat.le_of_ble_eq_true rfl) rfl rfl
              refine d1 10 rfl (by kernel_rfl) (qn F (.inl rfl) (hr _ _ _ _) fun a F => ?_)
              have HS := H.fx1
              refine kga (by kernel_rfl) HS ?_
              refine ddone (by kernel_rfl) ?_
              replace F := F.only [6, 2, 1] (l' := [(6, .pointer (some ⟨g64, 0, none⟩)), (2, .pointer (some ⟨g2, 0, none⟩)), (1, .pointer (some ⟨g1, 0, none⟩))]) rfl
              refine wp_seq ?_
              refine wp_seq ?_
              obtain ⟨o_86, k_86, h⟩ := Option.bind_eq_some_iff.1 h
              refine cut (fun a w => ∃ (x86 : Bool), x86 = o_86 ∧ Fr 44 [] [(2, .pointer (some ⟨g2, 0, none⟩)), (6, .pointer (some ⟨g64, 0, none⟩)), (41, .bool x86)] a ∧ Hp w0 (rd kByte A84 c85 (((a0.take (IntKind.i64.wrap (14 + (min x65 50))).toNat).drop ((14 : Int)).toNat)) :: ps) (cel g2 [.int .i64 0, .int .i64 0, .int .i64 0, .int .i64 0, .slice none 0 0] 24 :: cel g64 [.int .i64 x5, .int .i64 x19, .int .i64 x34, .int .i64 x49, .slice A84 (((a0.take (IntKind.i64.wrap (14 + (min x65 50))).toNat).drop ((14 : Int)).toNat)).length c85] 24 :: fs) w) ?_ ?_
              · skip
                replace H := H.drew
                have HS := H.fx1
                refine dr (fun w => Hp w0 (rd kByte A81 c82 (((a0.take (IntKind.i64.wrap (14 + (min x65 50))).toNat).drop ((14 : Int)).toNat)) :: rd kByte A0_ c0_ a0 :: ps) (cel g64 [.int .i64 x5, .int .i64 x19, .int .i64 x34, .int .i64 x49, .slice A84 (((a0.take (IntKind.i64.wrap (14 + (min x65 50))).toNat).drop ((14 : Int)).toNat)).length c85] 24 :: cel g4 [.int .i64 x66] 3 :: cel g2 [.int .i64 0, .int .i64 0, .int .i64 0, .int .i64 0, .slice none 0 0] 24 :: cel g1 [.slice A0_ a0.length c0_] 22 :: fs) w) _ (by kernel_rfl) ?_ (n := 11)
                refine dq 0 F rfl (by kernel_rfl) NP HS (fun w S => (r_ldA (F.ev (x := .tmp 6) rfl) (cel_range (o := 0) (n := 5) (vs := [.int .i64 x5, .int .i64 x19, .int .i64 x34, .int .i64 x49, .slice A84 (((a0.take (IntKind.i64.wrap (14 + (min x65 50))).toNat).drop ((14 : Int)).toNat)).length c85]) (S.cell 0 rfl) rfl) agg24 rfl)) fun a F => ?_
                replace H := (H.f4.f4.f4.f3.f4).freeze
                obtain ⟨x88, e89, k_86⟩ := Option.bind_eq_some_iff.1 k_86
                try dsimp only at k_86
                refine d1 1 rfl (by kernel_rfl) (call F Try.func12 (sector_Right_ok (a0 := (⟨x5, x19, x34, x49, ((a0.take (IntKind.i64.wrap (14 + (min x65 50))).toNat).drop ((14 : Int)).toNat)⟩ : api_Sector)) (H.p0) e89) rfl rfl fun v w hR a F => ?_)
                obtain ⟨rfl, H⟩ := hR
                have HS := H
                refine kg _ HS (fun w S => S.px0) ?_
                refine dq 2 F rfl (by kernel_rfl) NP HS (fun w S => (r_not (F.ev (x := .tmp 32) rfl))) fun a F => ?_
                refine dq 3 F rfl (by kernel_rfl) NP HS (fun w S => (r_mv (F.ev (x := .tmp 33) rfl))) fun a F => ?_
                by_cases c90 : x88 = true
                · rw [if_pos c90] at k_86
                  rw [c90] at F
                  refine dq 4 F rfl (by kernel_rfl) NP HS (fun w S => (r_ldA (F.ev (x := .tmp 6) rfl) (cel_range (o := 0) (n := 5) (vs := [.int .i64 x5, .int .i64 x19, .int .i64 x34, .int .i64 x49, .slice A84 (((a0.take (IntKind.i64.wrap (14 + (min x65 50))).toNat).drop ((14 : Int)).toNat)).length c85]) (S.cell 0 rfl) rfl) agg24 rfl)) fun a F => ?_
                  refine dq 6 F rfl (by kernel_rfl) NP HS (fun w S => (r_ld (F.ev (x := .tmp 1) rfl) (cel_cell (o := 0) (S.cell 3 rfl) rfl) one22)) fun a F => ?_
                  obtain ⟨c91, k_86⟩ := guardO k_86
                  obtain ⟨g92, o93, hr, H⟩ := H.sarrA (n := 64) 2 rfl (F.ev (x := .tmp 37) rfl) Try.underlying36 c91 (by decide)
                  have HS := H
                  refine dmoreH HS (fun w S => S.px0) ?_
                  refine dq 7 F rfl (by kernel_rfl) NP HS (fun w S => (hr _ _ _ _ _ _)) fun a F => ?_
                  refine dq 8 F rfl (by kernel_rfl) NP HS (fun w S => (r_ldA (F.ev (x := .tmp 38) rfl) (S.range 0 rfl) agg36 (arr_len ((Arr.of 64 (a0.take 64)))))) fun a F => ?_
                  obtain ⟨x94, e95, k_86⟩ := Option.bind_eq_some_iff.1 k_86
                  try dsimp only at k_86
                  refine d1 5 rfl (by kernel_rfl) (call F Try.func18 (sector_bytes_ok (a0 := (⟨x5, x19, x34, x49, ((a0.take (IntKind.i64.wrap (14 + (min x65 50))).toNat).drop ((14 : Int)).toNat)⟩ : api_Sector)) (H.p1) e95) rfl rfl fun v w hR a F => ?_)
                  obtain ⟨rfl, H⟩ := hR
                  have HS := H
                  refine kg _ HS (fun w S => S) ?_
                  refine dq 9 F rfl (by kernel_rfl) NP HS (fun w S => (r_ane (F.ev (x := .tmp 36) rfl) (F.ev (x := .tmp 39) rfl) Try.underlying36 Try.underlying5 sz5 (by kernel_rfl) (by kernel_rfl) x94.h ((Arr.of 64 (a0.take 64))).h)) fun a F => ?_
                  refine dq 10 F rfl (by kernel_rfl) NP HS (fun w S => (r_pickF (F.ev (x := .tmp 34) rfl) (F.ev (x := .tmp 40) rfl))) fun a F => ?_
                  refine ddone (by kernel_rfl) ?_
                  replace F := F.only [41, 6, 2] (l' := [(41, .bool (decide (x94.l ≠ ((Arr.of 64 (a0.take 64))).l))), (6, .pointer (some ⟨g64, 0, none⟩)), (2, .pointer (some ⟨g2, 0, none⟩))]) rfl
                  try dsimp only at k_86
                  obtain rfl := Option.some.inj k_86
                  exact ⟨_, rfl, F.only [2, 6, 41] rfl, H.px3.px2.px0.f2.fx3.fx2⟩
                · rw [if_neg c90] at k_86
                  rw [Bool.eq_false_iff.2 c90] at F
                  refine doff 4 F rfl (by kernel_rfl) NP HS fun a F => ?_
                  refine doff 5 F rfl (by kernel_rfl) NP HS fun a F => ?_
                  refine doff 6 F rfl (by kernel_rfl) NP HS fun a F => ?_
                  refine doff 7 F rfl (by kernel_rfl) NP HS fun a F => ?_
                  refine doff 8 F rfl (by kernel_rfl) NP HS fun a F => ?_
                  refine doff 9 F rfl (by kernel_rfl) NP HS fun a F => ?_
                  refine dq 10 F rfl (by kernel_rfl) NP HS (fun w S => (r_pickT (F.ev (x := .tmp 34) rfl) (F.ev (x := .const (.bool true)) rfl))) fun a F => ?_
                  refine ddone (by kernel_rfl) ?_
                  replace F := F.only [41, 6, 2] (l' := [(41, .bool true), (6, .pointer (some ⟨g64, 0, none⟩)), (2, .pointer (some ⟨g2, 0, none⟩))]) rfl
                  try dsimp only at k_86
                  obtain rfl := Option.some.inj k_86
                  exact ⟨_, rfl, F.only [2, 6, 41] rfl, H.px2.px1.f2.fx3.fx2⟩
              · rintro a w ⟨x86, rfl, F, H⟩
                try dsimp only at h F H
                by_cases c96 : x86 = true
                · rw [if_pos c96] at h
                  rw [c96] at F
                  refine wp_cond_true (F.ev rfl) ?_
                  refine rg ?_
                  refine ls (lbd F (vs := []) (cs := [.int .i64 0, .int .i64 0, .int .i64 0, .int .i64 0, .slice none 0 0]) rfl (fun w => by kernel_rfl) fun a F => ?_)
                  obtain ⟨_, hr, H⟩ := Hp.store (t := 24) (o := 0) (n := 5) (vs := [.int .i64 0, .int .i64 0, .int .i64 0, .int .i64 0, .slice none 0 0]) (cs' := [.int .i64 0, .int .i64 0, .int .i64 0, .int .i64 0, .slice none 0 0]) (H) (F.ev (x := .tmp 2) rfl) (F.ev (x := .tmp 42) rfl) rfl sz24 rfl (Nat.le_of_ble_eq_true rfl) rfl rfl
                  refine ls (qn F (.inl rfl) (hr _ _ _ _) fun a F => ?_)
                  refine as_ F (v := .bool false) rfl fun a F => ?_
                  refine rgend ?_
                  refine wp_ret ?_
                  replace H := H.nilRd kByte
                  try dsimp only at h
                  obtain ⟨rfl, rfl⟩ := Prod.mk.inj (Option.some.inj h)
                  exact RET _ _ (retC2 F rfl rfl rfl (ldvA (cel_range (o := 0) (n := 5) (vs := [.int .i64 0, .int .i64 0, .int .i64 0, .int .i64 0, .slice none 0 0]) (H.cell 0 rfl) rfl) agg24 rfl) ⟨_, rfl, none, 0, rfl, H.px1.fx1.fx0⟩)
                · rw [if_neg c96] at h
                  rw [Bool.eq_false_iff.2 c96] at F
                  refine wp_cond_false (F.ev rfl) ?_
                  refine wp_skip ?_
                  refine rg ?_
                  refine ls (qv F (r_ldA (F.ev (x := .tmp 6) rfl) (cel_range (o := 0) (n := 5) (vs := [.int .i64 x5, .int .i64 x19, .int .i64 x34, .int .i64 x49, .slice A84 (((a0.take (IntKind.i64.wrap (14 + (min x65 50))).toNat).drop ((14 : Int)).toNat)).length c85]) (H.cell 1 rfl) rfl) agg24 rfl) fun a F => ?_)
                  obtain ⟨_, hr, H⟩ := Hp.store (t := 24) (o := 0) (n := 5) (vs := [.int .i64 x5, .int .i64 x19, .int .i64 x34, .int .i64 x49, .slice A84 (((a0.take (IntKind.i64.wrap (14 + (min x65 50))).toNat).drop ((14 : Int)).toNat)).length c85]) (cs' := [.int .i64 x5, .int .i64 x19, .int .i64 x34, .int .i64 x49, .slice A84 (((a0.take (IntKind.i64.wrap (14 + (min x65 50))).toNat).drop ((14 : Int)).toNat)).length c85]) (H) (F.ev (x := .tmp 2) rfl) (F.ev (x := .tmp 43) rfl) rfl sz24 rfl (Nat.le_of_ble_eq_true rfl) rfl rfl
                  refine ls (qn F (.inl rfl) (hr _ _ _ _) fun a F => ?_)
                  refine as_ F (v := .bool true) rfl fun a F => ?_
                  refine rgend ?_
                  refine wp_ret ?_
                  try dsimp only at h
                  obtain ⟨rfl, rfl⟩ := Prod.mk.inj (Option.some.inj h)
                  exact RET _ _ (retC2 F rfl rfl rfl (ldvA (cel_range (o := 0) (n := 5) (vs := [.int .i64 x5, .int .i64 x19, .int .i64 x34, .int .i64 x49, .slice A84 (((a0.take (IntKind.i64.wrap (14 + (min x65 50))).toNat).drop ((14 : Int)).toNat)).length c85]) (H.cell 0 rfl) rfl) agg24 rfl) ⟨_, rfl, A84, c85, rfl, H.fx1.fx0⟩)
def law16_head_f : Option (Bool) :=
  ((sector_Put_f (⟨258, 3, 2, 259, [97, 98]⟩ : api_Sector)).bind fun x3 => (if (x3.length : Int) ≠ 64 then some false else ((sector_Get_f x3).bind fun (x8, x9) => (if 0 ≤ (64 : Int) ∧ 1 * (64 : Int) ≤ 281474976710656 then ((sector_Get_f (List.replicate (64 : Int).toNat (0 : Int))).bind fun (x16, x17) => (if (0 + x3.length) * 1 ≤ 140737488355328 then (if 0 ≤ (63 : Int) ∧ (63 : Int) < (x3.length : Int) then ((sector_Get_f ((x3.set (63 : Int).toNat 1))).bind fun (x32, x33) => (((if 0 ≤ (0 : Int) ∧ (0 : Int) ≤ (16 : Int) ∧ (16 : Int) ≤ (x3.length : Int) then (if ((x3.take ((16 : Int)).toNat).drop ((0 : Int)).toNat) = [0, 0, 0, 0, 0, 0, 1, 2, 0, 3, 2, 1, 3, 2, 97, 98] then ((ref16_Same_f x8 (⟨258, 3, 2, 259, [97, 98]⟩ : api_Sector)).bind fun x45 => (if x45 = true then (if x9 = true then (if x17 = true then some false else (if x33 = true then some false else ((sector_Right_f (⟨258, 3, 2, 259, [97, 98]⟩ : api_Sector)).bind fun x51 => (if x51 = true then ((sector_Right_f (⟨0, 0, 0, 0, []⟩ : api_Sector)).bind fun x54 => (if x54 = true then some false else ((sector_Put_f (⟨1, 0, 1, 0, []⟩ : api_Sector)).bind fun x57 => some ((decide ((x57.length : Int) = 0)))))) else some false)))) else some false) else some false)) else some false) else none) : Option (Bool)).bind fun x38 => some x38)) else none) else none)) else none))))
set_option maxHeartbeats 4000000 in
set_option maxRecDepth 20000 in
theorem law16_head_ok {w0 w : World} {ps : List PF} {fs : List SF}  {r0 : Bool} (H : Hp w0 ps fs w) (h : law16_head_f = some r0) :
    Calls Try.prog 9 [].toArray w fun e w' => ∃ v, e = .returned v ∧ v = .bool r0 ∧ Hp w0 ps fs w' := by
  refine enter [] 73 Try.func9 fun Q a NP RET NRM F => ?_
  replace NP : ∀ c a w, ¬ Q (.panic c) a w := fun c a w h => by rcases NP c a w h with h | ⟨w, v, h, _⟩ <;> cases h
  unfold law16_head_f at h
  refine rg ?_
  refine as_ F (v := .bool false) rfl fun a F => ?_
  refine rgend ?_
  refine rg ?_
  refine ls (lbs F H (e := 5) (vs := [(0, .int .u8 97), (1, .int .u8 98)]) (cs := [.int .u8 97, .int .u8 98]) rfl (fun w => by kernel_rfl) fun g1 w a H F => ?_)
  obtain ⟨_, hr, H⟩ := Hp.mark (kd := kByte) (xs := [97, 98]) (H) (F.ev (x := .tmp 10) rfl) Try.underlying22 Try.underlying5 ((SayL.cons (kd := kByte) (c1 := [.int .u8 97]) (y := 97) (fun Z hp => ⟨rfl, (by decide)⟩) (SayL.cons (kd := kByte) (c1 := [.int .u8 98]) (y := 98) (fun Z hp => ⟨rfl, (by decide)⟩) SayL.nil))) (Nat.le_of_ble_eq_true rfl)
  refine ls (qv F (hr _ _ _ _ _) fun a F => ?_)
  refine ls (lbd F (vs := [(0, .int .i64 258), (1, .int .i64 3), (2, .int .i64 2), (3, .int .i64 259), (4, .slice (some ⟨g1, 0, none⟩) 2 2)]) (cs := [.int .i64 258, .int .i64 3, .int .i64 2, .int .i64 259, .slice (some ⟨g1, 0, none⟩) 2 2]) rfl (fun w => by kernel_rfl) fun a F => ?_)
  refine ls (lal F H ti24 (cs := [.int .i64 0, .int .i64 0, .int .i64 0, .int .i64 0, .slice none 0 0]) rfl fun g2 w a H F => ?_)
  obtain ⟨_, hr, H⟩ := Hp.store (t := 24) (o := 0) (n := 5) (vs := [.int .i64 258, .int .i64 3, .int .i64 2, .int .i64 259, .slice (some ⟨g1, 0, none⟩) 2 2]) (cs' := [.int .i64 258, .int .i64 3, .int .i64 2, .int .i64 259, .slice (some ⟨g1, 0, none⟩) 2 2]) (H) (F.ev (x := .tmp 1) rfl) (F.ev (x := .tmp 12) rfl) rfl sz24 rfl (Nat.le_of_ble_eq_true rfl) rfl rfl
  refine ls (qn F (.inl rfl) (hr _ _ _ _) fun a F => ?_)
  refine rgend ?_
  replace F := F.only [1] (l' := [(1, .pointer (some ⟨g2, 0, none⟩))]) rfl
  refine rg ?_
  refine ls (qv F (r_ldA (F.ev (x := .tmp 1) rfl) (cel_range (o := 0) (n := 5) (vs := [.int .i64 258, .int .i64 3, .int .i64 2, .int .i64 259, .slice (some ⟨g1, 0, none⟩) 2 2]) (H.cell 0 rfl) rfl) agg24 rfl) fun a F => ?_)
  obtain ⟨x3, e4, h⟩ := Option.bind_eq_some_iff.1 h
  try dsimp only at h
  refine ls (call F Try.func14 (sector_Put_ok (a0 := (⟨258, 3, 2, 259, [97, 98]⟩ : api_Sector)) (H.p0) e4) rfl rfl fun v w hR a F => ?_)
  obtain ⟨A5, c6, rfl, H⟩ := hR
  refine as_ F rfl fun a F => ?_
  refine rgend ?_
  refine wp_seq ?_
  refine rg ?_
  refine mv F rfl fun a F => ?_
  refine ls (qv F (r_len (F.ev (x := .tmp 15) rfl) Try.underlying22) fun a F => ?_)
  refine ls (qv F (r_ne (F.ev (x := .tmp 16) rfl) (F.ev (x := .const (.int .i64 64)) rfl)) fun a F => ?_)
  refine rgend ?_
  replace F := F.only [17, 2, 1] (l' := [(17, .bool (decide ((x3.length : Int) ≠ 64))), (2, .slice A5 x3.length c6), (1, .pointer (some ⟨g2, 0, none⟩))]) rfl
  by_cases c7 : (x3.length : Int) ≠ 64
  · rw [if_pos c7] at h
    rw [decide_eq_true c7] at F
    refine wp_cond_true (F.ev rfl) ?_
    refine rg ?_
    refine as_ F (v := .bool false) rfl fun a F => ?_
    refine rgend ?_
    refine wp_ret ?_
    try dsimp only at h
    obtain rfl := Option.some.inj h
    exact RET _ _ (ret1 F rfl rfl ⟨_, rfl, rfl, H.px1.px0.fx0⟩)
  · rw [if_neg c7] at h
    rw [decide_eq_false c7] at F
    refine wp_cond_false (F.ev rfl) ?_
    refine wp_skip ?_
    refine rg ?_
    refine mv F rfl fun a F => ?_
    obtain ⟨⟨x8, x9⟩, e10, h⟩ := Option.bind_eq_some_iff.1 h
    try dsimp only at h
    refine ls (call F Try.func10 (sector_Get_ok (H.p0) e10) rfl rfl fun v w hR a F => ?_)
    obtain ⟨A11, c12, rfl, H⟩ := hR
    refine mv F rfl fun a F => ?_
    refine ls (qv F (r_ex (F.ev (x := .tmp 18) rfl) rfl) fun a F => ?_)
    refine ls (qv F (r_ex (F.ev (x := .tmp 18) rfl) rfl) fun a F => ?_)
    refine ls (lal F H ti24 (cs := [.int .i64 0, .int .i64 0, .int .i64 0, .int .i64 0, .slice none 0 0]) rfl fun g13 w a H F => ?_)
    obtain ⟨_, hr, H⟩ := Hp.store (t := 24) (o := 0) (n := 5) (vs := [.int .i64 x8.Gen, .int .i64 x8.Place, .int .i64 x8.Parts, .int .i64 x8.Kept, .slice A11 x8.Body.length c12]) (cs' := [.int .i64 x8.Gen, .int .i64 x8.Place, .int .i64 x8.Parts, .int .i64 x8.Kept, .slice A11 x8.Body.length c12]) (H) (F.ev (x := .tmp 3) rfl) (F.ev (x := .tmp 21) rfl) rfl sz24 rfl (Nat.le_of_ble_eq_true rfl) rfl rfl
    refine ls (qn F (.inl rfl) (hr _ _ _ _) fun a F => ?_)
    refine as_ F rfl fun a F => ?_
    refine rgend ?_
    replace F := F.only [4, 3, 2, 1] (l' := [(4, .bool x9), (3, .pointer (some ⟨g13, 0, none⟩)), (2, .slice A5 x3.length c6), (1, .pointer (some ⟨g2, 0, none⟩))]) rfl
    refine rg ?_
    obtain ⟨c15, h⟩ := guardO h
    obtain ⟨g14, _, hr, H⟩ := Hp.make (kd := kByte) (zx := (0 : Int)) H (F.ev (x := .const (.int .i64 64)) rfl) (F.ev (x := .const (.int .i64 64)) rfl) Try.underlying22 ti5 rfl rfl (by decide) c15.1 c15.2 (fun Z w => ⟨rfl, by decide⟩) rfl
    refine ls (qv F (hr _ _ _ _ _) fun a F => ?_)
    replace H := (H).freeze
    obtain ⟨⟨x16, x17⟩, e18, h⟩ := Option.bind_eq_some_iff.1 h
    try dsimp only at h
    refine ls (call F Try.func10 (sector_Get_ok (H.p0) e18) rfl rfl fun v w hR a F => ?_)
    obtain ⟨A19, c20, rfl, H⟩ := hR
    refine mv F rfl fun a F => ?_
    refine ls (qv F (r_ex (F.ev (x := .tmp 23) rfl) rfl) fun a F => ?_)
    refine ls (qv F (r_ex (F.ev (x := .tmp 23) rfl) rfl) fun a F => ?_)
    refine ls (lal F H ti24 (cs := [.int .i64 0, .int .i64 0, .int .i64 0, .int .i64 0, .slice none 0 0]) rfl fun g21 w a H F => ?_)
    obtain ⟨_, hr, H⟩ := Hp.store (t := 24) (o := 0) (n := 5) (vs := [.int .i64 x16.Gen, .int .i64 x16.Place, .int .i64 x16.Parts, .int .i64 x16.Kept, .slice A19 x16.Body.length c20]) (cs' := [.int .i64 x16.Gen, .int .i64 x16.Place, .int .i64 x16.Parts, .int .i64 x16.Kept, .slice A19 x16.Body.length c20]) (H) (F.ev (x := .tmp 5) rfl) (F.ev (x := .tmp 26) rfl) rfl sz24 rfl (Nat.le_of_ble_eq_true rfl) rfl rfl
    refine ls (qn F (.inl rfl) (hr _ _ _ _) fun a F => ?_)
    refine as_ F rfl fun a F => ?_
    refine rgend ?_
    replace F := F.only [6, 4, 3, 2, 1] (l' := [(6, .bool x17), (4, .bool x9), (3, .pointer (some ⟨g13, 0, none⟩)), (2, .slice A5 x3.length c6), (1, .pointer (some ⟨g2, 0, none⟩))]) rfl
    refine rg ?_
    refine ls (lbs F H (e := 5) (vs := []) (cs := []) rfl (fun w => by kernel_rfl) fun g22 w a H F => ?_)
    refine mv F rfl fun a F => ?_
    replace H := Hp.litOwn (kd := kByte) (xs := []) (H) (SayL.nil) (Nat.le_of_ble_eq_true rfl)
    obtain ⟨c23, h⟩ := guardO h
    obtain ⟨A24, c25, _, hr, H⟩ := Hp.appendRd (kd := kByte) (xs := []) (ys := x3) (H) 3 rfl (F.ev (x := .tmp 28) rfl) (F.ev (x := .tmp 29) rfl) Try.underlying22 ti5 rfl (by decide) (by decide) c23
    rw [List.nil_append] at hr H
    refine ls (qv F (hr _ _ _ _ _) fun a F => ?_)
    refine as_ F rfl fun a F => ?_
    refine rgend ?_
    refine rg ?_
    refine mv F rfl fun a F => ?_
    obtain ⟨c26, h⟩ := guardO h
    obtain ⟨g27, s28, hA, hq30, hl29, H⟩ := H.ixOwn2 0 0 rfl (F.ev (x := .tmp 31) rfl) (F.ev (x := .const (.int .i64 63)) rfl) Try.underlying22 sz5 (by decide) c26.1 c26.2
    cases hA
    obtain ⟨rfl, hr31⟩ := H.says_byte 0 rfl
    refine ls (qv F (hq30 _ _ _ _ _ _) fun a F => ?_)
    obtain ⟨_, hr, H⟩ := Hp.setOwn (kd := kByte) (xs := x3) (j := (63 : Int).toNat) (x1 := 1) (H) (F.ev (x := .tmp 32) rfl) (F.ev (x := .const (.int .u8 1)) rfl) rfl sz5 (by have := c26; omega) (fun Z hp => ⟨rfl, (by decide)⟩)
    refine ls (qn F (.inl rfl) (hr _ _ _ _) fun a F => ?_)
    replace F := F.only [32, 31, 7, 30, 29, 28, 6, 4, 3, 2, 1] (l' := [(32, .pointer (some ⟨g27, (63 : Int).toNat * kByte.sz, none⟩)), (31, .slice (some ⟨g27, 0, none⟩) ((x3.set (63 : Int).toNat 1)).length c25), (7, .slice (some ⟨g27, 0, none⟩) ((x3.set (63 : Int).toNat 1)).length c25), (30, .slice (some ⟨g27, 0, none⟩) ((x3.set (63 : Int).toNat 1)).length c25), (29, .slice A5 x3.length c6), (28, .slice (some ⟨g22, 0, none⟩) 0 0), (6, .bool x17), (4, .bool x9), (3, .pointer (some ⟨g13, 0, none⟩)), (2, .slice A5 x3.length c6), (1, .pointer (some ⟨g2, 0, none⟩))]) (by (try simp only [List.length_set]); rfl)
    refine rgend ?_
    replace F := F.only [7, 6, 4, 3, 2, 1] (l' := [(7, .slice (some ⟨g27, 0, none⟩) ((x3.set (63 : Int).toNat 1)).length c25), (6, .bool x17), (4, .bool x9), (3, .pointer (some ⟨g13, 0, none⟩)), (2, .slice A5 x3.length c6), (1, .pointer (some ⟨g2, 0, none⟩))]) rfl
    refine rg ?_
    refine mv F rfl fun a F => ?_
    replace H := (H).freeze
    obtain ⟨⟨x32, x33⟩, e34, h⟩ := Option.bind_eq_some_iff.1 h
    try dsimp only at h
    refine ls (call F Try.func10 (sector_Get_ok (H.p0) e34) rfl rfl fun v w hR a F => ?_)
    obtain ⟨A35, c36, rfl, H⟩ := hR
    refine mv F rfl fun a F => ?_
    refine ls (qv F (r_ex (F.ev (x := .tmp 33) rfl) rfl) fun a F => ?_)
    refine ls (qv F (r_ex (F.ev (x := .tmp 33) rfl) rfl) fun a F => ?_)
    refine ls (lal F H ti24 (cs := [.int .i64 0, .int .i64 0, .int .i64 0, .int .i64 0, .slice none 0 0]) rfl fun g37 w a H F => ?_)
    obtain ⟨_, hr, H⟩ := Hp.store (t := 24) (o := 0) (n := 5) (vs := [.int .i64 x32.Gen, .int .i64 x32.Place, .int .i64 x32.Parts, .int .i64 x32.Kept, .slice A35 x32.Body.length c36]) (cs' := [.int .i64 x32.Gen, .int .i64 x32.Place, .int .i64 x32.Parts, .int .i64 x32.Kept, .slice A35 x32.Body.length c36]) (H) (F.ev (x := .tmp 8) rfl) (F.ev (x := .tmp 36) rfl) rfl sz24 rfl (Nat.le_of_ble_eq_true rfl) rfl rfl
    refine ls (qn F (.inl rfl) (hr _ _ _ _) fun a F => ?_)
    refine as_ F rfl fun a F => ?_
    refine rgend ?_
    replace F := F.only [9, 6, 4, 3, 2, 1] (l' := [(9, .bool x33), (6, .bool x17), (4, .bool x9), (3, .pointer (some ⟨g13, 0, none⟩)), (2, .slice A5 x3.length c6), (1, .pointer (some ⟨g2, 0, none⟩))]) rfl
    refine wp_seq ?_
    obtain ⟨o_38, k_38, h⟩ := Option.bind_eq_some_iff.1 h
    refine cut (fun a w => ∃ (x38 : Bool), x38 = o_38 ∧ Fr 73 [] [(0, .bool x38)] a ∧ Hp w0 ps fs w) ?_ ?_
    · skip
      refine wp_region_lit ?_
      refine mv F rfl fun a F => ?_
      obtain ⟨c40, k_38⟩ := guardO k_38
      obtain ⟨A41, c42, hr, H⟩ := Hp.sl (kd := kByte) (jl := (0 : Int)) (jh := (16 : Int)) H 6 rfl (F.ev (x := .tmp 38) rfl) Try.underlying22 sz5 (.inl ⟨rfl, rfl⟩) (.inr ⟨_, _, rfl, (F.ev (x := .const (.int .i64 16)) rfl)⟩) c40
      refine ls (qv F (hr _ _ _ _ _ _) fun a F => ?_)
      have hb43 := H.bytes 0 rfl
      refine ls (qv F (H.str 0 rfl (F.ev (x := .tmp 39) rfl) Try.underlying22 Try.underlying5 Try.underlying9) fun a F => ?_)
      refine ls (qv F (r_seq (F.ev (x := .tmp 40) rfl) (F.ev (x := .const (.string (strOf ([0, 0, 0, 0, 0, 0, 1, 2, 0, 3, 2, 1, 3, 2, 97, 98])))) rfl) hb43 (by unfold Bytes; decide)) fun a F => ?_)
      refine mv F rfl fun a F => ?_
      by_cases c44 : ((x3.take ((16 : Int)).toNat).drop ((0 : Int)).toNat) = [0, 0, 0, 0, 0, 0, 1, 2, 0, 3, 2, 1, 3, 2, 97, 98]
      · rw [if_pos c44] at k_38
        rw [decide_eq_true c44] at F
        refine ls (qv F (r_ldA (F.ev (x := .tmp 3) rfl) (cel_range (o := 0) (n := 5) (vs := [.int .i64 x8.Gen, .int .i64 x8.Place, .int .i64 x8.Parts, .int .i64 x8.Kept, .slice A11 x8.Body.length c12]) (H.cell 2 rfl) rfl) agg24 rfl) fun a F => ?_)
        refine ls (qv F (r_ldA (F.ev (x := .tmp 1) rfl) (cel_range (o := 0) (n := 5) (vs := [.int .i64 258, .int .i64 3, .int .i64 2, .int .i64 259, .slice (some ⟨g1, 0, none⟩) 2 2]) (H.cell 3 rfl) rfl) agg24 rfl) fun a F => ?_)
        obtain ⟨x45, e46, k_38⟩ := Option.bind_eq_some_iff.1 k_38
        try dsimp only at k_38
        refine ls (call F Try.func16 (ref16_Same_ok (a0 := x8) (a1 := (⟨258, 3, 2, 259, [97, 98]⟩ : api_Sector)) (H.p8.p7) e46) rfl rfl fun v w hR a F => ?_)
        obtain ⟨rfl, H⟩ := hR
        refine ls (qv F (r_pickT (F.ev (x := .tmp 42) rfl) (F.ev (x := .tmp 45) rfl)) fun a F => ?_)
        refine mv F rfl fun a F => ?_
        by_cases c47 : x45 = true
        · rw [if_pos c47] at k_38
          rw [c47] at F
          refine mv F rfl fun a F => ?_
          refine ls (qv F (r_pickT (F.ev (x := .tmp 47) rfl) (F.ev (x := .tmp 48) rfl)) fun a F => ?_)
          refine mv F rfl fun a F => ?_
          by_cases c48 : x9 = true
          · rw [if_pos c48] at k_38
            rw [c48] at F
            refine mv F rfl fun a F => ?_
            refine ls (qv F (r_not (F.ev (x := .tmp 51) rfl)) fun a F => ?_)
            refine ls (qv F (r_pickT (F.ev (x := .tmp 50) rfl) (F.ev (x := .tmp 52) rfl)) fun a F => ?_)
            refine mv F rfl fun a F => ?_
            by_cases c49 : x17 = true
            · rw [if_pos c49] at k_38
              rw [c49] at F
              refine ls (off F fun a F => ?_)
              refine ls (off F fun a F => ?_)
              refine ls (qv F (r_pickF (F.ev (x := .tmp 54) rfl) (F.ev (x := .const (.bool false)) rfl)) fun a F => ?_)
              refine mv F rfl fun a F => ?_
              refine ls (off F fun a F => ?_)
              refine ls (off F fun a F => ?_)
              refine ls (qv F (r_pickF (F.ev (x := .tmp 58) rfl) (F.ev (x := .const (.bool false)) rfl)) fun a F => ?_)
              refine mv F rfl fun a F => ?_
              refine ls (off F fun a F => ?_)
              refine ls (off F fun a F => ?_)
              refine ls (off F fun a F => ?_)
              refine ls (qv F (r_pickF (F.ev (x := .tmp 62) rfl) (F.ev (x := .const (.bool false)) rfl)) fun a F => ?_)
              refine mv F rfl fun a F => ?_
              refine ls (off F fun a F => ?_)
              refine ls (off F fun a F => ?_)
              refine ls (off F fun a F => ?_)
              refine ls (off F fun a F => ?_)
              refine ls (qv F (r_pickF (F.ev (x := .tmp 67) rfl) (F.ev (x := .const (.bool false)) rfl)) fun a F => ?_)
              refine as_ F rfl fun a F => ?_
              refine wpList_nil ?_
              replace F := F.only [0] (l' := [(0, .bool false)]) rfl
              try dsimp only at k_38
              obtain rfl := Option.some.inj k_38
              exact ⟨_, rfl, F.only [0] rfl, H.px8.px7.px6.px5.px4.px3.px2.px1.px0.fx3.fx2.fx1.fx0⟩
            · rw [if_neg c49] at k_38
              rw [Bool.eq_false_iff.2 c49] at F
              refine mv F rfl fun a F => ?_
              refine ls (qv F (r_not (F.ev (x := .tmp 55) rfl)) fun a F => ?_)
              refine ls (qv F (r_pickT (F.ev (x := .tmp 54) rfl) (F.ev (x := .tmp 56) rfl)) fun a F => ?_)
              refine mv F rfl fun a F => ?_
              by_cases c50 : x33 = true
              · rw [if_pos c50] at k_38
                rw [c50] at F
                refine ls (off F fun a F => ?_)
                refine ls (off F fun a F => ?_)
                refine ls (qv F (r_pickF (F.ev (x := .tmp 58) rfl) (F.ev (x := .const (.bool false)) rfl)) fun a F => ?_)
                refine mv F rfl fun a F => ?_
                refine ls (off F fun a F => ?_)
                refine ls (off F fun a F => ?_)
                refine ls (off F fun a F => ?_)
                refine ls (qv F (r_pickF (F.ev (x := .tmp 62) rfl) (F.ev (x := .const (.bool false)) rfl)) fun a F => ?_)
                refine mv F rfl fun a F => ?_
                refine ls (off F fun a F => ?_)
                refine ls (off F fun a F => ?_)
                refine ls (off F fun a F => ?_)
                refine ls (off F fun a F => ?_)
                refine ls (qv F (r_pickF (F.ev (x := .tmp 67) rfl) (F.ev (x := .const (.bool false)) rfl)) fun a F => ?_)
                refine as_ F rfl fun a F => ?_
                refine wpList_nil ?_
                replace F := F.only [0] (l' := [(0, .bool false)]) rfl
                try dsimp only at k_38
                obtain rfl := Option.some.inj k_38
                exact ⟨_, rfl, F.only [0] rfl, H.px8.px7.px6.px5.px4.px3.px2.px1.px0.fx3.fx2.fx1.fx0⟩
              · rw [if_neg c50] at k_38
                rw [Bool.eq_false_iff.2 c50] at F
                refine ls (qv F (r_ldA (F.ev (x := .tmp 1) rfl) (cel_range (o := 0) (n := 5) (vs := [.int .i64 258, .int .i64 3, .int .i64 2, .int .i64 259, .slice (some ⟨g1, 0, none⟩) 2 2]) (H.cell 3 rfl) rfl) agg24 rfl) fun a F => ?_)
                obtain ⟨x51, e52, k_38⟩ := Option.bind_eq_some_iff.1 k_38
                try dsimp only at k_38
                refine ls (call F Try.func12 (sector_Right_ok (a0 := (⟨258, 3, 2, 259, [97, 98]⟩ : api_Sector)) (H.p8) e52) rfl rfl fun v w hR a F => ?_)
                obtain ⟨rfl, H⟩ := hR
                refine ls (qv F (r_pickT (F.ev (x := .tmp 58) rfl) (F.ev (x := .tmp 60) rfl)) fun a F => ?_)
                refine mv F rfl fun a F => ?_
                by_cases c53 : x51 = true
                · rw [if_pos c53] at k_38
                  rw [c53] at F
                  refine ls (lbd F (vs := []) (cs := [.int .i64 0, .int .i64 0, .int .i64 0, .int .i64 0, .slice none 0 0]) rfl (fun w => by kernel_rfl) fun a F => ?_)
                  replace H := H.nilRd kByte
                  obtain ⟨x54, e55, k_38⟩ := Option.bind_eq_some_iff.1 k_38
                  try dsimp only at k_38
                  refine ls (call F Try.func12 (sector_Right_ok (a0 := (⟨0, 0, 0, 0, []⟩ : api_Sector)) (H.p0) e55) rfl rfl fun v w hR a F => ?_)
                  obtain ⟨rfl, H⟩ := hR
                  refine ls (qv F (r_not (F.ev (x := .tmp 64) rfl)) fun a F => ?_)
                  refine ls (qv F (r_pickT (F.ev (x := .tmp 62) rfl) (F.ev (x := .tmp 65) rfl)) fun a F => ?_)
                  refine mv F rfl fun a F => ?_
                  by_cases c56 : x54 = true
                  · rw [if_pos c56] at k_38
                    rw [c56] at F
                    refine ls (off F fun a F => ?_)
                    refine ls (off F fun a F => ?_)
                    refine ls (off F fun a F => ?_)
                    refine ls (off F fun a F => ?_)
                    refine ls (qv F (r_pickF (F.ev (x := .tmp 67) rfl) (F.ev (x := .const (.bool false)) rfl)) fun a F => ?_)
                    refine as_ F rfl fun a F => ?_
                    refine wpList_nil ?_
                    replace F := F.only [0] (l' := [(0, .bool false)]) rfl
                    try dsimp only at k_38
                    obtain rfl := Option.some.inj k_38
                    exact ⟨_, rfl, F.only [0] rfl, H.px9.px8.px7.px6.px5.px4.px3.px2.px1.px0.fx3.fx2.fx1.fx0⟩
                  · rw [if_neg c56] at k_38
                    rw [Bool.eq_false_iff.2 c56] at F
                    refine ls (lbd F (vs := [(0, .int .i64 1), (2, .int .i64 1)]) (cs := [.int .i64 1, .int .i64 0, .int .i64 1, .int .i64 0, .slice none 0 0]) rfl (fun w => by kernel_rfl) fun a F => ?_)
                    obtain ⟨x57, e58, k_38⟩ := Option.bind_eq_some_iff.1 k_38
                    try dsimp only at k_38
                    refine ls (call F Try.func14 (sector_Put_ok (a0 := (⟨1, 0, 1, 0, []⟩ : api_Sector)) (H.p0) e58) rfl rfl fun v w hR a F => ?_)
                    obtain ⟨A59, c60, rfl, H⟩ := hR
                    refine ls (qv F (r_len (F.ev (x := .tmp 69) rfl) Try.underlying22) fun a F => ?_)
                    refine ls (qv F (r_eq (F.ev (x := .tmp 70) rfl) (F.ev (x := .const (.int .i64 0)) rfl)) fun a F => ?_)
                    refine ls (qv F (r_pickT (F.ev (x := .tmp 67) rfl) (F.ev (x := .tmp 71) rfl)) fun a F => ?_)
                    refine as_ F rfl fun a F => ?_
                    refine wpList_nil ?_
                    replace F := F.only [0] (l' := [(0, .bool (decide ((x57.length : Int) = 0)))]) rfl
                    try dsimp only at k_38
                    obtain rfl := Option.some.inj k_38
                    exact ⟨_, rfl, F.only [0] rfl, H.px10.px9.px8.px7.px6.px5.px4.px3.px2.px1.px0.fx3.fx2.fx1.fx0⟩
                · rw [if_neg c53] at k_38
                  rw [Bool.eq_false_iff.2 c53] at F
                  refine ls (off F fun a F => ?_)
                  refine ls (off F fun a F => ?_)
                  refine ls (off F fun a F => ?_)
                  refine ls (qv F (r_pickF (F.ev (x := .tmp 62) rfl) (F.ev (x := .const (.bool false)) rfl)) fun a F => ?_)
                  refine mv F rfl fun a F => ?_
                  refine ls (off F fun a F => ?_)
                  refine ls (off F fun a F => ?_)
                  refine ls (off F fun a F => ?_)
                  refine ls (off F fun a F => ?_)
                  refine ls (qv F (r_pickF (F.ev (x := .tmp 67) rfl) (F.ev (x := .const (.bool false)) rfl)) fun a F => ?_)
                  refine as_ F rfl fun a F => ?_
                  refine wpList_nil ?_
                  replace F := F.only [0] (l' := [(0, .bool false)]) rfl
                  try dsimp only at k_38
                  obtain rfl := Option.some.inj k_38
                  exact ⟨_, rfl, F.only [0] rfl, H.px8.px7.px6.px5.px4.px3.px2.px1.px0.fx3.fx2.fx1.fx0⟩
          · rw [if_neg c48] at k_38
            rw [Bool.eq_false_iff.2 c48] at F
            refine ls (off F fun a F => ?_)
            refine ls (off F fun a F => ?_)
            refine ls (qv F (r_pickF (F.ev (x := .tmp 50) rfl) (F.ev (x := .const (.bool false)) rfl)) fun a F => ?_)
            refine mv F rfl fun a F => ?_
            refine ls (off F fun a F => ?_)
            refine ls (off F fun a F => ?_)
            refine ls (qv F (r_pickF (F.ev (x := .tmp 54) rfl) (F.ev (x := .const (.bool false)) rfl)) fun a F => ?_)
            refine mv F rfl fun a F => ?_
            refine ls (off F fun a F => ?_)
            refine ls (off F fun a F => ?_)
            refine ls (qv F (r_pickF (F.ev (x := .tmp 58) rfl) (F.ev (x := .const (.bool false)) rfl)) fun a F => ?_)
            refine mv F rfl fun a F => ?_
            refine ls (off F fun a F => ?_)
            refine ls (off F fun a F => ?_)
            refine ls (off F fun a F => ?_)
            refine ls (qv F (r_pickF (F.ev (x := .tmp 62) rfl) (F.ev (x := .const (.bool false)) rfl)) fun a F => ?_)
            refine mv F rfl fun a F => ?_
            refine ls (off F fun a F => ?_)
            refine ls (off F fun a F => ?_)
            refine ls (off F fun a F => ?_)
            refine ls (off F fun a F => ?_)
            refine ls (qv F (r_pickF (F.ev (x := .tmp 67) rfl) (F.ev (x := .const (.bool false)) rfl)) fun a F => ?_)
            refine as_ F rfl fun a F => ?_
            refine wpList_nil ?_
            replace F := F.only [0] (l' := [(0, .bool false)]) rfl
            try dsimp only at k_38
            obtain rfl := Option.some.inj k_38
            exact ⟨_, rfl, F.only [0] rfl, H.px8.px7.px6.px5.px4.px3.px2.px1.px0.fx3.fx2.fx1.fx0⟩
        · rw [if_neg c47] at k_38
          rw [Bool.eq_false_iff.2 c47] at F
          refine ls (off F fun a F => ?_)
          refine ls (qv F (r_pickF (F.ev (x := .tmp 47) rfl) (F.ev (x := .const (.bool false)) rfl)) fun a F => ?_)
          refine mv F rfl fun a F => ?_
          refine ls (off F fun a F => ?_)
          refine ls (off F fun a F => ?_)
          refine ls (qv F (r_pickF (F.ev (x := .tmp 50) rfl) (F.ev (x := .const (.bool false)) rfl)) fun a F => ?_)
          refine mv F rfl fun a F => ?_
          refine ls (off F fun a F => ?_)
          refine ls (off F fun a F => ?_)
          refine ls (qv F (r_pickF (F.ev (x := .tmp 54) rfl) (F.ev (x := .const (.bool false)) rfl)) fun a F => ?_)
          refine mv F rfl fun a F => ?_
          refine ls (off F fun a F => ?_)
          refine ls (off F fun a F => ?_)
          refine ls (qv F (r_pickF (F.ev (x := .tmp 58) rfl) (F.ev (x := .const (.bool false)) rfl)) fun a F => ?_)
          refine mv F rfl fun a F => ?_
          refine ls (off F fun a F => ?_)
          refine ls (off F fun a F => ?_)
          refine ls (off F fun a F => ?_)
          refine ls (qv F (r_pickF (F.ev (x := .tmp 62) rfl) (F.ev (x := .const (.bool false)) rfl)) fun a F => ?_)
          refine mv F rfl fun a F => ?_
          refine ls (off F fun a F => ?_)
          refine ls (off F fun a F => ?_)
          refine ls (off F fun a F => ?_)
          refine ls (off F fun a F => ?_)
          refine ls (qv F (r_pickF (F.ev (x := .tmp 67) rfl) (F.ev (x := .const (.bool false)) rfl)) fun a F => ?_)
          refine as_ F rfl fun a F => ?_
          refine wpList_nil ?_
          replace F := F.only [0] (l' := [(0, .bool false)]) rfl
          try dsimp only at k_38
          obtain rfl := Option.some.inj k_38
          exact ⟨_, rfl, F.only [0] rfl, H.px8.px7.px6.px5.px4.px3.px2.px1.px0.fx3.fx2.fx1.fx0⟩
      · rw [if_neg c44] at k_38
        rw [decide_eq_false c44] at F
        refine ls (off F fun a F => ?_)
        refine ls (off F fun a F => ?_)
        refine ls (off F fun a F => ?_)
        refine ls (qv F (r_pickF (F.ev (x := .tmp 42) rfl) (F.ev (x := .const (.bool false)) rfl)) fun a F => ?_)
        refine mv F rfl fun a F => ?_
        refine ls (off F fun a F => ?_)
        refine ls (qv F (r_pickF (F.ev (x := .tmp 47) rfl) (F.ev (x := .const (.bool false)) rfl)) fun a F => ?_)
        refine mv F rfl fun a F => ?_
        refine ls (off F fun a F => ?_)
        refine ls (off F fun a F => ?_)
        refine ls (qv F (r_pickF (F.ev (x := .tmp 50) rfl) (F.ev (x := .const (.bool false)) rfl)) fun a F => ?_)
        refine mv F rfl fun a F => ?_
        refine ls (off F fun a F => ?_)
        refine ls (off F fun a F => ?_)
        refine ls (qv F (r_pickF (F.ev (x := .tmp 54) rfl) (F.ev (x := .const (.bool false)) rfl)) fun a F => ?_)
        refine mv F rfl fun a F => ?_
        refine ls (off F fun a F => ?_)
        refine ls (off F fun a F => ?_)
        refine ls (qv F (r_pickF (F.ev (x := .tmp 58) rfl) (F.ev (x := .const (.bool false)) rfl)) fun a F => ?_)
        refine mv F rfl fun a F => ?_
        refine ls (off F fun a F => ?_)
        refine ls (off F fun a F => ?_)
        refine ls (off F fun a F => ?_)
        refine ls (qv F (r_pickF (F.ev (x := .tmp 62) rfl) (F.ev (x := .const (.bool false)) rfl)) fun a F => ?_)
        refine mv F rfl fun a F => ?_
        refine ls (off F fun a F => ?_)
        refine ls (off F fun a F => ?_)
        refine ls (off F fun a F => ?_)
        refine ls (off F fun a F => ?_)
        refine ls (qv F (r_pickF (F.ev (x := .tmp 67) rfl) (F.ev (x := .const (.bool false)) rfl)) fun a F => ?_)
        refine as_ F rfl fun a F => ?_
        refine wpList_nil ?_
        replace F := F.only [0] (l' := [(0, .bool false)]) rfl
        try dsimp only at k_38
        obtain rfl := Option.some.inj k_38
        exact ⟨_, rfl, F.only [0] rfl, H.px8.px7.px6.px5.px4.px3.px2.px1.px0.fx3.fx2.fx1.fx0⟩
    · rintro a w ⟨x38, rfl, F, H⟩
      try dsimp only at h F H
      refine wp_ret ?_
      try dsimp only at h
      obtain rfl := Option.some.inj h
      exact RET _ _ (ret1 F rfl rfl ⟨_, rfl, rfl, H⟩)
end Go.Proofs.Ytpijdclonniibaa
