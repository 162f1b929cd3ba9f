/- What the functions compute. Printed by wip/gen. -/
import Derived.Test.YtpijdclonniibaaGL
set_option linter.unusedVariables false
set_option linter.unusedSimpArgs false
namespace Go.Proofs.Ytpijdclonniibaa
open Go Go.RowKit
def law16_SectorFields_f (a0 : api_Sector) (a1 : Int) (a2 : Int) (a3 : Int) (a4 : Int) : Option (Bool) :=
  ((law16_head_f).bind fun x2 => (if (a0.Body.length : Int) > 900 then some x2 else ((sector_Right_f a0).bind fun x5 => (if x5 = true then (((if x2 = true then ((sector_Right_f (⟨a1, a0.Place, a0.Parts, a0.Kept, a0.Body⟩ : api_Sector)).bind fun x15 => (if a1 ≥ 1 then (if ((x15 == (decide (a1 ≤ 281474976710656)))) = true then ((sector_Right_f (⟨a0.Gen, a2, a0.Parts, a0.Kept, a0.Body⟩ : api_Sector)).bind fun x19 => (if a2 ≥ 0 then (if ((x19 == (decide (a2 ≤ 4096)))) = true then ((sector_Right_f (⟨a0.Gen, a0.Place, a3, a0.Kept, a0.Body⟩ : api_Sector)).bind fun x23 => (if a3 ≥ 1 then (if ((x23 == (decide (a3 ≤ 32)))) = true then ((sector_Right_f (⟨a0.Gen, a0.Place, a0.Parts, a4, a0.Body⟩ : api_Sector)).bind fun x27 => (if a4 ≥ 0 then (if ((x27 == (decide (a4 ≤ 1000)))) = true then (if (a0.Body.length : Int) ≥ 1 then some ((decide ((a0.Body.length : Int) ≤ 50))) else some false) else some false) else (if (x27 == false) = true then (if (a0.Body.length : Int) ≥ 1 then some ((decide ((a0.Body.length : Int) ≤ 50))) else some false) else some false))) else some false) else (if (x23 == false) = true then ((sector_Right_f (⟨a0.Gen, a0.Place, a0.Parts, a4, a0.Body⟩ : api_Sector)).bind fun x35 => (if a4 ≥ 0 then (if ((x35 == (decide (a4 ≤ 1000)))) = true then (if (a0.Body.length : Int) ≥ 1 then some ((decide ((a0.Body.length : Int) ≤ 50))) else some false) else some false) else (if (x35 == false) = true then (if (a0.Body.length : Int) ≥ 1 then some ((decide ((a0.Body.length : Int) ≤ 50))) else some false) else some false))) else some false))) else some false) else (if (x19 == false) = true then ((sector_Right_f (⟨a0.Gen, a0.Place, a3, a0.Kept, a0.Body⟩ : api_Sector)).bind fun x43 => (if a3 ≥ 1 then (if ((x43 == (decide (a3 ≤ 32)))) = true then ((sector_Right_f (⟨a0.Gen, a0.Place, a0.Parts, a4, a0.Body⟩ : api_Sector)).bind fun x47 => (if a4 ≥ 0 then (if ((x47 == (decide (a4 ≤ 1000)))) = true then (if (a0.Body.length : Int) ≥ 1 then some ((decide ((a0.Body.length : Int) ≤ 50))) else some false) else some false) else (if (x47 == false) = true then (if (a0.Body.length : Int) ≥ 1 then some ((decide ((a0.Body.length : Int) ≤ 50))) else some false) else some false))) else some false) else (if (x43 == false) = true then ((sector_Right_f (⟨a0.Gen, a0.Place, a0.Parts, a4, a0.Body⟩ : api_Sector)).bind fun x55 => (if a4 ≥ 0 then (if ((x55 == (decide (a4 ≤ 1000)))) = true then (if (a0.Body.length : Int) ≥ 1 then some ((decide ((a0.Body.length : Int) ≤ 50))) else some false) else some false) else (if (x55 == false) = true then (if (a0.Body.length : Int) ≥ 1 then some ((decide ((a0.Body.length : Int) ≤ 50))) else some false) else some false))) else some false))) else some false))) else some false) else (if (x15 == false) = true then ((sector_Right_f (⟨a0.Gen, a2, a0.Parts, a0.Kept, a0.Body⟩ : api_Sector)).bind fun x63 => (if a2 ≥ 0 then (if ((x63 == (decide (a2 ≤ 4096)))) = true then ((sector_Right_f (⟨a0.Gen, a0.Place, a3, a0.Kept, a0.Body⟩ : api_Sector)).bind fun x67 => (if a3 ≥ 1 then (if ((x67 == (decide (a3 ≤ 32)))) = true then ((sector_Right_f (⟨a0.Gen, a0.Place, a0.Parts, a4, a0.Body⟩ : api_Sector)).bind fun x71 => (if a4 ≥ 0 then (if ((x71 == (decide (a4 ≤ 1000)))) = true then (if (a0.Body.length : Int) ≥ 1 then some ((decide ((a0.Body.length : Int) ≤ 50))) else some false) else some false) else (if (x71 == false) = true then (if (a0.Body.length : Int) ≥ 1 then some ((decide ((a0.Body.length : Int) ≤ 50))) else some false) else some false))) else some false) else (if (x67 == false) = true then ((sector_Right_f (⟨a0.Gen, a0.Place, a0.Parts, a4, a0.Body⟩ : api_Sector)).bind fun x79 => (if a4 ≥ 0 then (if ((x79 == (decide (a4 ≤ 1000)))) = true then (if (a0.Body.length : Int) ≥ 1 then some ((decide ((a0.Body.length : Int) ≤ 50))) else some false) else some false) else (if (x79 == false) = true then (if (a0.Body.length : Int) ≥ 1 then some ((decide ((a0.Body.length : Int) ≤ 50))) else some false) else some false))) else some false))) else some false) else (if (x63 == false) = true then ((sector_Right_f (⟨a0.Gen, a0.Place, a3, a0.Kept, a0.Body⟩ : api_Sector)).bind fun x87 => (if a3 ≥ 1 then (if ((x87 == (decide (a3 ≤ 32)))) = true then ((sector_Right_f (⟨a0.Gen, a0.Place, a0.Parts, a4, a0.Body⟩ : api_Sector)).bind fun x91 => (if a4 ≥ 0 then (if ((x91 == (decide (a4 ≤ 1000)))) = true then (if (a0.Body.length : Int) ≥ 1 then some ((decide ((a0.Body.length : Int) ≤ 50))) else some false) else some false) else (if (x91 == false) = true then (if (a0.Body.length : Int) ≥ 1 then some ((decide ((a0.Body.length : Int) ≤ 50))) else some false) else some false))) else some false) else (if (x87 == false) = true then ((sector_Right_f (⟨a0.Gen, a0.Place, a0.Parts, a4, a0.Body⟩ : api_Sector)).bind fun x99 => (if a4 ≥ 0 then (if ((x99 == (decide (a4 ≤ 1000)))) = true then (if (a0.Body.length : Int) ≥ 1 then some ((decide ((a0.Body.length : Int) ≤ 50))) else some false) else some false) else (if (x99 == false) = true then (if (a0.Body.length : Int) ≥ 1 then some ((decide ((a0.Body.length : Int) ≤ 50))) else some false) else some false))) else some false))) else some false))) else some false))) else some false) : Option (Bool)).bind fun x12 => some x12) else some x2))))
set_option maxHeartbeats 4000000 in
set_option maxRecDepth 20000 in
theorem law16_SectorFields_ok {w0 w : World} {ps : List PF} {fs : List SF} {a0 : api_Sector} {A0_4 : Option Addr} {c0_4 : Nat} {a1 : Int} {a2 : Int} {a3 : Int} {a4 : Int} {r0 : Bool} (H : Hp w0 (rd kByte A0_4 c0_4 a0.Body :: ps) fs w) (h : law16_SectorFields_f a0 a1 a2 a3 a4 = some r0) :
    Calls Try.prog 7 [.agg #[.int .i64 a0.Gen, .int .i64 a0.Place, .int .i64 a0.Parts, .int .i64 a0.Kept, .slice A0_4 a0.Body.length c0_4], .int .i64 a1, .int .i64 a2, .int .i64 a3, .int .i64 a4].toArray w fun e w' => ∃ v, e = .returned v ∧ v = .bool r0 ∧ Hp w0 ps fs w' := by
  refine enter [.agg #[.int .i64 a0.Gen, .int .i64 a0.Place, .int .i64 a0.Parts, .int .i64 a0.Kept, .slice A0_4 a0.Body.length c0_4], .int .i64 a1, .int .i64 a2, .int .i64 a3, .int .i64 a4] 96 Try.func7 fun Q a NP RET NRM F => ?_
  replace NP : ∀ c a w, ¬ Q (.panic c) a w := fun c a w h => by rcases NP c a w h with h | ⟨w, v, h, _⟩ <;> cases h
  unfold law16_SectorFields_f at h
  refine rg ?_
  refine ls (lbox F H rfl (cs := [.int .i64 a0.Gen, .int .i64 a0.Place, .int .i64 a0.Parts, .int .i64 a0.Kept, .slice A0_4 a0.Body.length c0_4]) rfl fun g1 w a H F => ?_)
  refine as_ F (v := .bool false) rfl fun a F => ?_
  refine rgend ?_
  refine rg ?_
  obtain ⟨x2, e3, h⟩ := Option.bind_eq_some_iff.1 h
  try dsimp only at h
  refine ls (call F Try.func9 (law16_head_ok (H) e3) rfl rfl fun v w hR a F => ?_)
  obtain ⟨rfl, H⟩ := hR
  refine as_ F rfl fun a F => ?_
  refine rgend ?_
  refine wp_seq ?_
  refine rg ?_
  refine ls (qv F (r_fa (off := 4) (F.ev (x := .tmp 5) rfl) fa24_4) fun a F => ?_)
  refine ls (qv F (r_ld (F.ev (x := .tmp 17) rfl) (cel_cell (o := 4) (H.cell 0 rfl) rfl) one22) fun a F => ?_)
  refine ls (qv F (r_len (F.ev (x := .tmp 18) rfl) Try.underlying22) fun a F => ?_)
  refine ls (qv F (r_gt (F.ev (x := .tmp 19) rfl) (F.ev (x := .const (.int .i64 900)) rfl)) fun a F => ?_)
  refine mv F rfl fun a F => ?_
  by_cases c4 : (a0.Body.length : Int) > 900
  · rw [if_pos c4] at h
    rw [decide_eq_true c4] at F
    refine ls (off F fun a F => ?_)
    refine ls (off F fun a F => ?_)
    refine ls (off F fun a F => ?_)
    refine ls (qv F (r_pickT (F.ev (x := .tmp 21) rfl) (F.ev (x := .const (.bool true)) rfl)) fun a F => ?_)
    refine rgend ?_
    replace F := F.only [25, 11, 5, 1, 2, 3, 4] (l' := [(25, .bool true), (11, .bool x2), (5, .pointer (some ⟨g1, 0, none⟩)), (1, .int .i64 a1), (2, .int .i64 a2), (3, .int .i64 a3), (4, .int .i64 a4)]) rfl
    refine wp_cond_true (F.ev rfl) ?_
    refine rg ?_
    refine mv F rfl fun a F => ?_
    refine as_ F rfl fun a F => ?_
    refine rgend ?_
    replace F := F.only [10] (l' := [(10, .bool x2)]) rfl
    refine wp_ret ?_
    try dsimp only at h
    obtain rfl := Option.some.inj h
    exact RET _ _ (ret1 F rfl rfl ⟨_, rfl, rfl, H.px0.fx0⟩)
  · rw [if_neg c4] at h
    rw [decide_eq_false c4] at F
    refine ls (qv F (r_ldA (F.ev (x := .tmp 5) rfl) (cel_range (o := 0) (n := 5) (vs := [.int .i64 a0.Gen, .int .i64 a0.Place, .int .i64 a0.Parts, .int .i64 a0.Kept, .slice A0_4 a0.Body.length c0_4]) (H.cell 0 rfl) rfl) agg24 rfl) fun a F => ?_)
    obtain ⟨x5, e6, h⟩ := Option.bind_eq_some_iff.1 h
    try dsimp only at h
    refine ls (call F Try.func12 (sector_Right_ok (a0 := a0) (H.p0) e6) rfl rfl fun v w hR a F => ?_)
    obtain ⟨rfl, H⟩ := hR
    refine ls (qv F (r_not (F.ev (x := .tmp 23) rfl)) fun a F => ?_)
    refine ls (qv F (r_pickF (F.ev (x := .tmp 21) rfl) (F.ev (x := .tmp 24) rfl)) fun a F => ?_)
    refine rgend ?_
    replace F := F.only [25, 11, 5, 1, 2, 3, 4] (l' := [(25, .bool (!x5)), (11, .bool x2), (5, .pointer (some ⟨g1, 0, none⟩)), (1, .int .i64 a1), (2, .int .i64 a2), (3, .int .i64 a3), (4, .int .i64 a4)]) rfl
    by_cases c7 : x5 = true
    · rw [if_pos c7] at h
      rw [c7] at F
      refine wp_cond_false (F.ev rfl) ?_
      refine wp_skip ?_
      refine rg ?_
      refine ls (qv F (r_ldA (F.ev (x := .tmp 5) rfl) (cel_range (o := 0) (n := 5) (vs := [.int .i64 a0.Gen, .int .i64 a0.Place, .int .i64 a0.Parts, .int .i64 a0.Kept, .slice A0_4 a0.Body.length c0_4]) (H.cell 0 rfl) rfl) agg24 rfl) fun a F => ?_)
      refine ls (lal F H ti24 (cs := [.int .i64 0, .int .i64 0, .int .i64 0, .int .i64 0, .slice none 0 0]) rfl fun g8 w a H F => ?_)
      obtain ⟨_, hr, H⟩ := Hp.store (t := 24) (o := 0) (n := 5) (vs := [.int .i64 a0.Gen, .int .i64 a0.Place, .int .i64 a0.Parts, .int .i64 a0.Kept, .slice A0_4 a0.Body.length c0_4]) (cs' := [.int .i64 a0.Gen, .int .i64 a0.Place, .int .i64 a0.Parts, .int .i64 a0.Kept, .slice A0_4 a0.Body.length c0_4]) (H) (F.ev (x := .tmp 12) rfl) (F.ev (x := .tmp 27) rfl) rfl sz24 rfl (Nat.le_of_ble_eq_true rfl) rfl rfl
      refine ls (qn F (.inl rfl) (hr _ _ _ _) fun a F => ?_)
      refine rgend ?_
      refine rg ?_
      refine mv F rfl fun a F => ?_
      refine ls (qv F (r_fa (off := 0) (F.ev (x := .tmp 12) rfl) fa24_0) fun a F => ?_)
      obtain ⟨_, hr, H⟩ := Hp.store (t := 2) (o := 0) (n := 1) (vs := [.int .i64 a1]) (cs' := [.int .i64 a1, .int .i64 a0.Place, .int .i64 a0.Parts, .int .i64 a0.Kept, .slice A0_4 a0.Body.length c0_4]) (H) (F.ev (x := .tmp 29) rfl) (F.ev (x := .tmp 28) rfl) rfl sz2 rfl (Nat.le_of_ble_eq_true rfl) rfl rfl
      refine ls (qn F (.inl rfl) (hr _ _ _ _) fun a F => ?_)
      refine rgend ?_
      replace F := F.only [12, 11, 5, 1, 2, 3, 4] (l' := [(12, .pointer (some ⟨g8, 0, none⟩)), (11, .bool x2), (5, .pointer (some ⟨g1, 0, none⟩)), (1, .int .i64 a1), (2, .int .i64 a2), (3, .int .i64 a3), (4, .int .i64 a4)]) rfl
      refine rg ?_
      refine ls (qv F (r_ldA (F.ev (x := .tmp 5) rfl) (cel_range (o := 0) (n := 5) (vs := [.int .i64 a0.Gen, .int .i64 a0.Place, .int .i64 a0.Parts, .int .i64 a0.Kept, .slice A0_4 a0.Body.length c0_4]) (H.cell 1 rfl) rfl) agg24 rfl) fun a F => ?_)
      refine ls (lal F H ti24 (cs := [.int .i64 0, .int .i64 0, .int .i64 0, .int .i64 0, .slice none 0 0]) rfl fun g9 w a H F => ?_)
      obtain ⟨_, hr, H⟩ := Hp.store (t := 24) (o := 0) (n := 5) (vs := [.int .i64 a0.Gen, .int .i64 a0.Place, .int .i64 a0.Parts, .int .i64 a0.Kept, .slice A0_4 a0.Body.length c0_4]) (cs' := [.int .i64 a0.Gen, .int .i64 a0.Place, .int .i64 a0.Parts, .int .i64 a0.Kept, .slice A0_4 a0.Body.length c0_4]) (H) (F.ev (x := .tmp 13) rfl) (F.ev (x := .tmp 30) rfl) rfl sz24 rfl (Nat.le_of_ble_eq_true rfl) rfl rfl
      refine ls (qn F (.inl rfl) (hr _ _ _ _) fun a F => ?_)
      refine rgend ?_
      refine rg ?_
      refine mv F rfl fun a F => ?_
      refine ls (qv F (r_fa (off := 1) (F.ev (x := .tmp 13) rfl) fa24_1) fun a F => ?_)
      obtain ⟨_, hr, H⟩ := Hp.store (t := 3) (o := 1) (n := 1) (vs := [.int .i64 a2]) (cs' := [.int .i64 a0.Gen, .int .i64 a2, .int .i64 a0.Parts, .int .i64 a0.Kept, .slice A0_4 a0.Body.length c0_4]) (H) (F.ev (x := .tmp 32) rfl) (F.ev (x := .tmp 31) rfl) rfl sz3 rfl (Nat.le_of_ble_eq_true rfl) rfl rfl
      refine ls (qn F (.inl rfl) (hr _ _ _ _) fun a F => ?_)
      refine rgend ?_
      refine rg ?_
      refine ls (qv F (r_ldA (F.ev (x := .tmp 5) rfl) (cel_range (o := 0) (n := 5) (vs := [.int .i64 a0.Gen, .int .i64 a0.Place, .int .i64 a0.Parts, .int .i64 a0.Kept, .slice A0_4 a0.Body.length c0_4]) (H.cell 2 rfl) rfl) agg24 rfl) fun a F => ?_)
      refine ls (lal F H ti24 (cs := [.int .i64 0, .int .i64 0, .int .i64 0, .int .i64 0, .slice none 0 0]) rfl fun g10 w a H F => ?_)
      obtain ⟨_, hr, H⟩ := Hp.store (t := 24) (o := 0) (n := 5) (vs := [.int .i64 a0.Gen, .int .i64 a0.Place, .int .i64 a0.Parts, .int .i64 a0.Kept, .slice A0_4 a0.Body.length c0_4]) (cs' := [.int .i64 a0.Gen, .int .i64 a0.Place, .int .i64 a0.Parts, .int .i64 a0.Kept, .slice A0_4 a0.Body.length c0_4]) (H) (F.ev (x := .tmp 14) rfl) (F.ev (x := .tmp 33) rfl) rfl sz24 rfl (Nat.le_of_ble_eq_true rfl) rfl rfl
      refine ls (qn F (.inl rfl) (hr _ _ _ _) fun a F => ?_)
      refine rgend ?_
      replace F := F.only [14, 13, 12, 11, 5, 1, 2, 3, 4] (l' := [(14, .pointer (some ⟨g10, 0, none⟩)), (13, .pointer (some ⟨g9, 0, none⟩)), (12, .pointer (some ⟨g8, 0, none⟩)), (11, .bool x2), (5, .pointer (some ⟨g1, 0, none⟩)), (1, .int .i64 a1), (2, .int .i64 a2), (3, .int .i64 a3), (4, .int .i64 a4)]) rfl
      refine rg ?_
      refine mv F rfl fun a F => ?_
      refine ls (qv F (r_fa (off := 2) (F.ev (x := .tmp 14) rfl) fa24_2) fun a F => ?_)
      obtain ⟨_, hr, H⟩ := Hp.store (t := 3) (o := 2) (n := 1) (vs := [.int .i64 a3]) (cs' := [.int .i64 a0.Gen, .int .i64 a0.Place, .int .i64 a3, .int .i64 a0.Kept, .slice A0_4 a0.Body.length c0_4]) (H) (F.ev (x := .tmp 35) rfl) (F.ev (x := .tmp 34) rfl) rfl sz3 rfl (Nat.le_of_ble_eq_true rfl) rfl rfl
      refine ls (qn F (.inl rfl) (hr _ _ _ _) fun a F => ?_)
      refine rgend ?_
      refine rg ?_
      refine ls (qv F (r_ldA (F.ev (x := .tmp 5) rfl) (cel_range (o := 0) (n := 5) (vs := [.int .i64 a0.Gen, .int .i64 a0.Place, .int .i64 a0.Parts, .int .i64 a0.Kept, .slice A0_4 a0.Body.length c0_4]) (H.cell 3 rfl) rfl) agg24 rfl) fun a F => ?_)
      refine ls (lal F H ti24 (cs := [.int .i64 0, .int .i64 0, .int .i64 0, .int .i64 0, .slice none 0 0]) rfl fun g11 w a H F => ?_)
      obtain ⟨_, hr, H⟩ := Hp.store (t := 24) (o := 0) (n := 5) (vs := [.int .i64 a0.Gen, .int .i64 a0.Place, .int .i64 a0.Parts, .int .i64 a0.Kept, .slice A0_4 a0.Body.length c0_4]) (cs' := [.int .i64 a0.Gen, .int .i64 a0.Place, .int .i64 a0.Parts, .int .i64 a0.Kept, .slice A0_4 a0.Body.length c0_4]) (H) (F.ev (x := .tmp 15) rfl) (F.ev (x := .tmp 36) rfl) rfl sz24 rfl (Nat.le_of_ble_eq_true rfl) rfl rfl
      refine ls (qn F (.inl rfl) (hr _ _ _ _) fun a F => ?_)
      refine rgend ?_
      refine rg ?_
      refine mv F rfl fun a F => ?_
      refine ls (qv F (r_fa (off := 3) (F.ev (x := .tmp 15) rfl) fa24_3) fun a F => ?_)
      obtain ⟨_, hr, H⟩ := Hp.store (t := 3) (o := 3) (n := 1) (vs := [.int .i64 a4]) (cs' := [.int .i64 a0.Gen, .int .i64 a0.Place, .int .i64 a0.Parts, .int .i64 a4, .slice A0_4 a0.Body.length c0_4]) (H) (F.ev (x := .tmp 38) rfl) (F.ev (x := .tmp 37) rfl) rfl sz3 rfl (Nat.le_of_ble_eq_true rfl) rfl rfl
      refine ls (qn F (.inl rfl) (hr _ _ _ _) fun a F => ?_)
      refine rgend ?_
      replace F := F.only [15, 14, 13, 12, 11, 5, 1, 2, 3, 4] (l' := [(15, .pointer (some ⟨g11, 0, none⟩)), (14, .pointer (some ⟨g10, 0, none⟩)), (13, .pointer (some ⟨g9, 0, none⟩)), (12, .pointer (some ⟨g8, 0, none⟩)), (11, .bool x2), (5, .pointer (some ⟨g1, 0, none⟩)), (1, .int .i64 a1), (2, .int .i64 a2), (3, .int .i64 a3), (4, .int .i64 a4)]) rfl
      refine wp_seq ?_
      obtain ⟨o_12, k_12, h⟩ := Option.bind_eq_some_iff.1 h
      refine cut (fun a w => ∃ (x12 : Bool), x12 = o_12 ∧ Fr 96 [] [(10, .bool x12)] a ∧ Hp w0 ps fs w) ?_ ?_
      · skip
        refine wp_region_lit ?_
        refine mv F rfl fun a F => ?_
        refine mv F rfl fun a F => ?_
        by_cases c14 : x2 = true
        · rw [if_pos c14] at k_12
          rw [c14] at F
          refine ls (qv F (r_ldA (F.ev (x := .tmp 12) rfl) (cel_range (o := 0) (n := 5) (vs := [.int .i64 a1, .int .i64 a0.Place, .int .i64 a0.Parts, .int .i64 a0.Kept, .slice A0_4 a0.Body.length c0_4]) (H.cell 3 rfl) rfl) agg24 rfl) fun a F => ?_)
          obtain ⟨x15, e16, k_12⟩ := Option.bind_eq_some_iff.1 k_12
          try dsimp only at k_12
          refine ls (call F Try.func12 (sector_Right_ok (a0 := (⟨a1, a0.Place, a0.Parts, a0.Kept, a0.Body⟩ : api_Sector)) (H.p0) e16) rfl rfl fun v w hR a F => ?_)
          obtain ⟨rfl, H⟩ := hR
          refine mv F rfl fun a F => ?_
          refine ls (qv F (r_ge (F.ev (x := .tmp 43) rfl) (F.ev (x := .const (.int .i64 1)) rfl)) fun a F => ?_)
          refine mv F rfl fun a F => ?_
          by_cases c17 : a1 ≥ 1
          · rw [if_pos c17] at k_12
            rw [decide_eq_true c17] at F
            refine mv F rfl fun a F => ?_
            refine ls (qv F (r_le (F.ev (x := .tmp 46) rfl) (F.ev (x := .const (.int .i64 281474976710656)) rfl)) fun a F => ?_)
            refine ls (qv F (r_pickT (F.ev (x := .tmp 45) rfl) (F.ev (x := .tmp 47) rfl)) fun a F => ?_)
            refine ls (qv F (r_beq (F.ev (x := .tmp 42) rfl) (F.ev (x := .tmp 48) rfl) Try.underlying4) fun a F => ?_)
            refine ls (qv F (r_pickT (F.ev (x := .tmp 40) rfl) (F.ev (x := .tmp 49) rfl)) fun a F => ?_)
            refine mv F rfl fun a F => ?_
            by_cases c18 : ((x15 == (decide (a1 ≤ 281474976710656)))) = true
            · rw [if_pos c18] at k_12
              rw [c18] at F
              refine ls (qv F (r_ldA (F.ev (x := .tmp 13) rfl) (cel_range (o := 0) (n := 5) (vs := [.int .i64 a0.Gen, .int .i64 a2, .int .i64 a0.Parts, .int .i64 a0.Kept, .slice A0_4 a0.Body.length c0_4]) (H.cell 2 rfl) rfl) agg24 rfl) fun a F => ?_)
              obtain ⟨x19, e20, k_12⟩ := Option.bind_eq_some_iff.1 k_12
              try dsimp only at k_12
              refine ls (call F Try.func12 (sector_Right_ok (a0 := (⟨a0.Gen, a2, a0.Parts, a0.Kept, a0.Body⟩ : api_Sector)) (H.p0) e20) rfl rfl fun v w hR a F => ?_)
              obtain ⟨rfl, H⟩ := hR
              refine mv F rfl fun a F => ?_
              refine ls (qv F (r_ge (F.ev (x := .tmp 54) rfl) (F.ev (x := .const (.int .i64 0)) rfl)) fun a F => ?_)
              refine mv F rfl fun a F => ?_
              by_cases c21 : a2 ≥ 0
              · rw [if_pos c21] at k_12
                rw [decide_eq_true c21] at F
                refine mv F rfl fun a F => ?_
                refine ls (qv F (r_le (F.ev (x := .tmp 57) rfl) (F.ev (x := .const (.int .i64 4096)) rfl)) fun a F => ?_)
                refine ls (qv F (r_pickT (F.ev (x := .tmp 56) rfl) (F.ev (x := .tmp 58) rfl)) fun a F => ?_)
                refine ls (qv F (r_beq (F.ev (x := .tmp 53) rfl) (F.ev (x := .tmp 59) rfl) Try.underlying4) fun a F => ?_)
                refine ls (qv F (r_pickT (F.ev (x := .tmp 51) rfl) (F.ev (x := .tmp 60) rfl)) fun a F => ?_)
                refine mv F rfl fun a F => ?_
                by_cases c22 : ((x19 == (decide (a2 ≤ 4096)))) = true
                · rw [if_pos c22] at k_12
                  rw [c22] at F
                  refine ls (qv F (r_ldA (F.ev (x := .tmp 14) rfl) (cel_range (o := 0) (n := 5) (vs := [.int .i64 a0.Gen, .int .i64 a0.Place, .int .i64 a3, .int .i64 a0.Kept, .slice A0_4 a0.Body.length c0_4]) (H.cell 1 rfl) rfl) agg24 rfl) fun a F => ?_)
                  obtain ⟨x23, e24, k_12⟩ := Option.bind_eq_some_iff.1 k_12
                  try dsimp only at k_12
                  refine ls (call F Try.func12 (sector_Right_ok (a0 := (⟨a0.Gen, a0.Place, a3, a0.Kept, a0.Body⟩ : api_Sector)) (H.p0) e24) rfl rfl fun v w hR a F => ?_)
                  obtain ⟨rfl, H⟩ := hR
                  refine mv F rfl fun a F => ?_
                  refine ls (qv F (r_ge (F.ev (x := .tmp 65) rfl) (F.ev (x := .const (.int .i64 1)) rfl)) fun a F => ?_)
                  refine mv F rfl fun a F => ?_
                  by_cases c25 : a3 ≥ 1
                  · rw [if_pos c25] at k_12
                    rw [decide_eq_true c25] at F
                    refine mv F rfl fun a F => ?_
                    refine ls (qv F (r_le (F.ev (x := .tmp 68) rfl) (F.ev (x := .const (.int .i64 32)) rfl)) fun a F => ?_)
                    refine ls (qv F (r_pickT (F.ev (x := .tmp 67) rfl) (F.ev (x := .tmp 69) rfl)) fun a F => ?_)
                    refine ls (qv F (r_beq (F.ev (x := .tmp 64) rfl) (F.ev (x := .tmp 70) rfl) Try.underlying4) fun a F => ?_)
                    refine ls (qv F (r_pickT (F.ev (x := .tmp 62) rfl) (F.ev (x := .tmp 71) rfl)) fun a F => ?_)
                    refine mv F rfl fun a F => ?_
                    by_cases c26 : ((x23 == (decide (a3 ≤ 32)))) = true
                    · rw [if_pos c26] at k_12
                      rw [c26] at F
                      refine ls (qv F (r_ldA (F.ev (x := .tmp 15) rfl) (cel_range (o := 0) (n := 5) (vs := [.int .i64 a0.Gen, .int .i64 a0.Place, .int .i64 a0.Parts, .int .i64 a4, .slice A0_4 a0.Body.length c0_4]) (H.cell 0 rfl) rfl) agg24 rfl) fun a F => ?_)
                      obtain ⟨x27, e28, k_12⟩ := Option.bind_eq_some_iff.1 k_12
                      try dsimp only at k_12
                      refine ls (call F Try.func12 (sector_Right_ok (a0 := (⟨a0.Gen, a0.Place, a0.Parts, a4, a0.Body⟩ : api_Sector)) (H.p0) e28) rfl rfl fun v w hR a F => ?_)
                      obtain ⟨rfl, H⟩ := hR
                      refine mv F rfl fun a F => ?_
                      refine ls (qv F (r_ge (F.ev (x := .tmp 76) rfl) (F.ev (x := .const (.int .i64 0)) rfl)) fun a F => ?_)
                      refine mv F rfl fun a F => ?_
                      by_cases c29 : a4 ≥ 0
                      · rw [if_pos c29] at k_12
                        rw [decide_eq_true c29] at F
                        refine mv F rfl fun a F => ?_
                        refine ls (qv F (r_le (F.ev (x := .tmp 79) rfl) (F.ev (x := .const (.int .i64 1000)) rfl)) fun a F => ?_)
                        refine ls (qv F (r_pickT (F.ev (x := .tmp 78) rfl) (F.ev (x := .tmp 80) rfl)) fun a F => ?_)
                        refine ls (qv F (r_beq (F.ev (x := .tmp 75) rfl) (F.ev (x := .tmp 81) rfl) Try.underlying4) fun a F => ?_)
                        refine ls (qv F (r_pickT (F.ev (x := .tmp 73) rfl) (F.ev (x := .tmp 82) rfl)) fun a F => ?_)
                        refine mv F rfl fun a F => ?_
                        by_cases c30 : ((x27 == (decide (a4 ≤ 1000)))) = true
                        · rw [if_pos c30] at k_12
                          rw [c30] at F
                          refine ls (qv F (r_fa (off := 4) (F.ev (x := .tmp 5) rfl) fa24_4) fun a F => ?_)
                          refine ls (qv F (r_ld (F.ev (x := .tmp 85) rfl) (cel_cell (o := 4) (H.cell 4 rfl) rfl) one22) fun a F => ?_)
                          refine ls (qv F (r_len (F.ev (x := .tmp 86) rfl) Try.underlying22) fun a F => ?_)
                          refine ls (qv F (r_ge (F.ev (x := .tmp 87) rfl) (F.ev (x := .const (.int .i64 1)) rfl)) fun a F => ?_)
                          refine ls (qv F (r_pickT (F.ev (x := .tmp 84) rfl) (F.ev (x := .tmp 88) rfl)) fun a F => ?_)
                          refine mv F rfl fun a F => ?_
                          by_cases c31 : (a0.Body.length : Int) ≥ 1
                          · rw [if_pos c31] at k_12
                            rw [decide_eq_true c31] at F
                            refine ls (qv F (r_fa (off := 4) (F.ev (x := .tmp 5) rfl) fa24_4) fun a F => ?_)
                            refine ls (qv F (r_ld (F.ev (x := .tmp 91) rfl) (cel_cell (o := 4) (H.cell 4 rfl) rfl) one22) fun a F => ?_)
                            refine ls (qv F (r_len (F.ev (x := .tmp 92) rfl) Try.underlying22) fun a F => ?_)
                            refine ls (qv F (r_le (F.ev (x := .tmp 93) rfl) (F.ev (x := .const (.int .i64 50)) rfl)) fun a F => ?_)
                            refine ls (qv F (r_pickT (F.ev (x := .tmp 90) rfl) (F.ev (x := .tmp 94) rfl)) fun a F => ?_)
                            refine as_ F rfl fun a F => ?_
                            refine wpList_nil ?_
                            replace F := F.only [10] (l' := [(10, .bool (decide ((a0.Body.length : Int) ≤ 50)))]) rfl
                            try dsimp only at k_12
                            obtain rfl := Option.some.inj k_12
                            exact ⟨_, rfl, F.only [10] rfl, H.px0.fx4.fx3.fx2.fx1.fx0⟩
                          · rw [if_neg c31] at k_12
                            rw [decide_eq_false c31] at F
                            refine ls (off F fun a F => ?_)
                            refine ls (off F fun a F => ?_)
                            refine ls (off F fun a F => ?_)
                            refine ls (off F fun a F => ?_)
                            refine ls (qv F (r_pickF (F.ev (x := .tmp 90) rfl) (F.ev (x := .const (.bool false)) rfl)) fun a F => ?_)
                            refine as_ F rfl fun a F => ?_
                            refine wpList_nil ?_
                            replace F := F.only [10] (l' := [(10, .bool false)]) rfl
                            try dsimp only at k_12
                            obtain rfl := Option.some.inj k_12
                            exact ⟨_, rfl, F.only [10] rfl, H.px0.fx4.fx3.fx2.fx1.fx0⟩
                        · rw [if_neg c30] at k_12
                          rw [Bool.eq_false_iff.2 c30] at F
                          refine ls (off F fun a F => ?_)
                          refine ls (off F fun a F => ?_)
                          refine ls (off F fun a F => ?_)
                          refine ls (off F fun a F => ?_)
                          refine ls (qv F (r_pickF (F.ev (x := .tmp 84) rfl) (F.ev (x := .const (.bool false)) rfl)) fun a F => ?_)
                          refine mv F rfl fun a F => ?_
                          refine ls (off F fun a F => ?_)
                          refine ls (off F fun a F => ?_)
                          refine ls (off F fun a F => ?_)
                          refine ls (off F fun a F => ?_)
                          refine ls (qv F (r_pickF (F.ev (x := .tmp 90) rfl) (F.ev (x := .const (.bool false)) rfl)) fun a F => ?_)
                          refine as_ F rfl fun a F => ?_
                          refine wpList_nil ?_
                          replace F := F.only [10] (l' := [(10, .bool false)]) rfl
                          try dsimp only at k_12
                          obtain rfl := Option.some.inj k_12
                          exact ⟨_, rfl, F.only [10] rfl, H.px0.fx4.fx3.fx2.fx1.fx0⟩
                      · rw [if_neg c29] at k_12
                        rw [decide_eq_false c29] at F
                        refine ls (off F fun a F => ?_)
                        refine ls (off F fun a F => ?_)
                        refine ls (qv F (r_pickF (F.ev (x := .tmp 78) rfl) (F.ev (x := .const (.bool false)) rfl)) fun a F => ?_)
                        refine ls (qv F (r_beq (F.ev (x := .tmp 75) rfl) (F.ev (x := .tmp 81) rfl) Try.underlying4) fun a F => ?_)
                        refine ls (qv F (r_pickT (F.ev (x := .tmp 73) rfl) (F.ev (x := .tmp 82) rfl)) fun a F => ?_)
                        refine mv F rfl fun a F => ?_
                        by_cases c32 : (x27 == false) = true
                        · rw [if_pos c32] at k_12
                          rw [c32] at F
                          refine ls (qv F (r_fa (off := 4) (F.ev (x := .tmp 5) rfl) fa24_4) fun a F => ?_)
                          refine ls (qv F (r_ld (F.ev (x := .tmp 85) rfl) (cel_cell (o := 4) (H.cell 4 rfl) rfl) one22) fun a F => ?_)
                          refine ls (qv F (r_len (F.ev (x := .tmp 86) rfl) Try.underlying22) fun a F => ?_)
                          refine ls (qv F (r_ge (F.ev (x := .tmp 87) rfl) (F.ev (x := .const (.int .i64 1)) rfl)) fun a F => ?_)
                          refine ls (qv F (r_pickT (F.ev (x := .tmp 84) rfl) (F.ev (x := .tmp 88) rfl)) fun a F => ?_)
                          refine mv F rfl fun a F => ?_
                          by_cases c33 : (a0.Body.length : Int) ≥ 1
                          · rw [if_pos c33] at k_12
                            rw [decide_eq_true c33] at F
                            refine ls (qv F (r_fa (off := 4) (F.ev (x := .tmp 5) rfl) fa24_4) fun a F => ?_)
                            refine ls (qv F (r_ld (F.ev (x := .tmp 91) rfl) (cel_cell (o := 4) (H.cell 4 rfl) rfl) one22) fun a F => ?_)
                            refine ls (qv F (r_len (F.ev (x := .tmp 92) rfl) Try.underlying22) fun a F => ?_)
                            refine ls (qv F (r_le (F.ev (x := .tmp 93) rfl) (F.ev (x := .const (.int .i64 50)) rfl)) fun a F => ?_)
                            refine ls (qv F (r_pickT (F.ev (x := .tmp 90) rfl) (F.ev (x := .tmp 94) rfl)) fun a F => ?_)
                            refine as_ F rfl fun a F => ?_
                            refine wpList_nil ?_
                            replace F := F.only [10] (l' := [(10, .bool (decide ((a0.Body.length : Int) ≤ 50)))]) rfl
                            try dsimp only at k_12
                            obtain rfl := Option.some.inj k_12
                            exact ⟨_, rfl, F.only [10] rfl, H.px0.fx4.fx3.fx2.fx1.fx0⟩
                          · rw [if_neg c33] at k_12
                            rw [decide_eq_false c33] at F
                            refine ls (off F fun a F => ?_)
                            refine ls (off F fun a F => ?_)
                            refine ls (off F fun a F => ?_)
                            refine ls (off F fun a F => ?_)
                            refine ls (qv F (r_pickF (F.ev (x := .tmp 90) rfl) (F.ev (x := .const (.bool false)) rfl)) fun a F => ?_)
                            refine as_ F rfl fun a F => ?_
                            refine wpList_nil ?_
                            replace F := F.only [10] (l' := [(10, .bool false)]) rfl
                            try dsimp only at k_12
                            obtain rfl := Option.some.inj k_12
                            exact ⟨_, rfl, F.only [10] rfl, H.px0.fx4.fx3.fx2.fx1.fx0⟩
                        · rw [if_neg c32] at k_12
                          rw [Bool.eq_false_iff.2 c32] at F
                          refine ls (off F fun a F => ?_)
                          refine ls (off F fun a F => ?_)
                          refine ls (off F fun a F => ?_)
                          refine ls (off F fun a F => ?_)
                          refine ls (qv F (r_pickF (F.ev (x := .tmp 84) rfl) (F.ev (x := .const (.bool false)) rfl)) fun a F => ?_)
                          refine mv F rfl fun a F => ?_
                          refine ls (off F fun a F => ?_)
                          refine ls (off F fun a F => ?_)
                          refine ls (off F fun a F => ?_)
                          refine ls (off F fun a F => ?_)
                          refine ls (qv F (r_pickF (F.ev (x := .tmp 90) rfl) (F.ev (x := .const (.bool false)) rfl)) fun a F => ?_)
                          refine as_ F rfl fun a F => ?_
                          refine wpList_nil ?_
                          replace F := F.only [10] (l' := [(10, .bool false)]) rfl
                          try dsimp only at k_12
                          obtain rfl := Option.some.inj k_12
                          exact ⟨_, rfl, F.only [10] rfl, H.px0.fx4.fx3.fx2.fx1.fx0⟩
                    · rw [if_neg c26] at k_12
                      rw [Bool.eq_false_iff.2 c26] at F
                      refine ls (off F fun a F => ?_)
                      refine ls (off F fun a F => ?_)
                      refine ls (off F fun a F => ?_)
                      refine ls (off F fun a F => ?_)
                      refine ls (off F fun a F => ?_)
                      refine ls (off F fun a F => ?_)
                      refine ls (off F fun a F => ?_)
                      refine ls (off F fun a F => ?_)
                      refine ls (off F fun a F => ?_)
                      refine ls (qv F (r_pickF (F.ev (x := .tmp 73) rfl) (F.ev (x := .const (.bool false)) rfl)) fun a F => ?_)
                      refine mv F rfl fun a F => ?_
                      refine ls (off F fun a F => ?_)
                      refine ls (off F fun a F => ?_)
                      refine ls (off F fun a F => ?_)
                      refine ls (off F fun a F => ?_)
                      refine ls (qv F (r_pickF (F.ev (x := .tmp 84) rfl) (F.ev (x := .const (.bool false)) rfl)) fun a F => ?_)
                      refine mv F rfl fun a F => ?_
                      refine ls (off F fun a F => ?_)
                      refine ls (off F fun a F => ?_)
                      refine ls (off F fun a F => ?_)
                      refine ls (off F fun a F => ?_)
                      refine ls (qv F (r_pickF (F.ev (x := .tmp 90) rfl) (F.ev (x := .const (.bool false)) rfl)) fun a F => ?_)
                      refine as_ F rfl fun a F => ?_
                      refine wpList_nil ?_
                      replace F := F.only [10] (l' := [(10, .bool false)]) rfl
                      try dsimp only at k_12
                      obtain rfl := Option.some.inj k_12
                      exact ⟨_, rfl, F.only [10] rfl, H.px0.fx4.fx3.fx2.fx1.fx0⟩
                  · rw [if_neg c25] at k_12
                    rw [decide_eq_false c25] at F
                    refine ls (off F fun a F => ?_)
                    refine ls (off F fun a F => ?_)
                    refine ls (qv F (r_pickF (F.ev (x := .tmp 67) rfl) (F.ev (x := .const (.bool false)) rfl)) fun a F => ?_)
                    refine ls (qv F (r_beq (F.ev (x := .tmp 64) rfl) (F.ev (x := .tmp 70) rfl) Try.underlying4) fun a F => ?_)
                    refine ls (qv F (r_pickT (F.ev (x := .tmp 62) rfl) (F.ev (x := .tmp 71) rfl)) fun a F => ?_)
                    refine mv F rfl fun a F => ?_
                    by_cases c34 : (x23 == false) = true
                    · rw [if_pos c34] at k_12
                      rw [c34] at F
                      refine ls (qv F (r_ldA (F.ev (x := .tmp 15) rfl) (cel_range (o := 0) (n := 5) (vs := [.int .i64 a0.Gen, .int .i64 a0.Place, .int .i64 a0.Parts, .int .i64 a4, .slice A0_4 a0.Body.length c0_4]) (H.cell 0 rfl) rfl) agg24 rfl) fun a F => ?_)
                      obtain ⟨x35, e36, k_12⟩ := Option.bind_eq_some_iff.1 k_12
                      try dsimp only at k_12
                      refine ls (call F Try.func12 (sector_Right_ok (a0 := (⟨a0.Gen, a0.Place, a0.Parts, a4, a0.Body⟩ : api_Sector)) (H.p0) e36) rfl rfl fun v w hR a F => ?_)
                      obtain ⟨rfl, H⟩ := hR
                      refine mv F rfl fun a F => ?_
                      refine ls (qv F (r_ge (F.ev (x := .tmp 76) rfl) (F.ev (x := .const (.int .i64 0)) rfl)) fun a F => ?_)
                      refine mv F rfl fun a F => ?_
                      by_cases c37 : a4 ≥ 0
                      · rw [if_pos c37] at k_12
                        rw [decide_eq_true c37] at F
                        refine mv F rfl fun a F => ?_
                        refine ls (qv F (r_le (F.ev (x := .tmp 79) rfl) (F.ev (x := .const (.int .i64 1000)) rfl)) fun a F => ?_)
                        refine ls (qv F (r_pickT (F.ev (x := .tmp 78) rfl) (F.ev (x := .tmp 80) rfl)) fun a F => ?_)
                        refine ls (qv F (r_beq (F.ev (x := .tmp 75) rfl) (F.ev (x := .tmp 81) rfl) Try.underlying4) fun a F => ?_)
                        refine ls (qv F (r_pickT (F.ev (x := .tmp 73) rfl) (F.ev (x := .tmp 82) rfl)) fun a F => ?_)
                        refine mv F rfl fun a F => ?_
                        by_cases c38 : ((x35 == (decide (a4 ≤ 1000)))) = true
                        · rw [if_pos c38] at k_12
                          rw [c38] at F
                          refine ls (qv F (r_fa (off := 4) (F.ev (x := .tmp 5) rfl) fa24_4) fun a F => ?_)
                          refine ls (qv F (r_ld (F.ev (x := .tmp 85) rfl) (cel_cell (o := 4) (H.cell 4 rfl) rfl) one22) fun a F => ?_)
                          refine ls (qv F (r_len (F.ev (x := .tmp 86) rfl) Try.underlying22) fun a F => ?_)
                          refine ls (qv F (r_ge (F.ev (x := .tmp 87) rfl) (F.ev (x := .const (.int .i64 1)) rfl)) fun a F => ?_)
                          refine ls (qv F (r_pickT (F.ev (x := .tmp 84) rfl) (F.ev (x := .tmp 88) rfl)) fun a F => ?_)
                          refine mv F rfl fun a F => ?_
                          by_cases c39 : (a0.Body.length : Int) ≥ 1
                          · rw [if_pos c39] at k_12
                            rw [decide_eq_true c39] at F
                            refine ls (qv F (r_fa (off := 4) (F.ev (x := .tmp 5) rfl) fa24_4) fun a F => ?_)
                            refine ls (qv F (r_ld (F.ev (x := .tmp 91) rfl) (cel_cell (o := 4) (H.cell 4 rfl) rfl) one22) fun a F => ?_)
                            refine ls (qv F (r_len (F.ev (x := .tmp 92) rfl) Try.underlying22) fun a F => ?_)
                            refine ls (qv F (r_le (F.ev (x := .tmp 93) rfl) (F.ev (x := .const (.int .i64 50)) rfl)) fun a F => ?_)
                            refine ls (qv F (r_pickT (F.ev (x := .tmp 90) rfl) (F.ev (x := .tmp 94) rfl)) fun a F => ?_)
                            refine as_ F rfl fun a F => ?_
                            refine wpList_nil ?_
                            replace F := F.only [10] (l' := [(10, .bool (decide ((a0.Body.length : Int) ≤ 50)))]) rfl
                            try dsimp only at k_12
                            obtain rfl := Option.some.inj k_12
                            exact ⟨_, rfl, F.only [10] rfl, H.px0.fx4.fx3.fx2.fx1.fx0⟩
                          · rw [if_neg c39] at k_12
                            rw [decide_eq_false c39] at F
                            refine ls (off F fun a F => ?_)
                            refine ls (off F fun a F => ?_)
                            refine ls (off F fun a F => ?_)
                            refine ls (off F fun a F => ?_)
                            refine ls (qv F (r_pickF (F.ev (x := .tmp 90) rfl) (F.ev (x := .const (.bool false)) rfl)) fun a F => ?_)
                            refine as_ F rfl fun a F => ?_
                            refine wpList_nil ?_
                            replace F := F.only [10] (l' := [(10, .bool false)]) rfl
                            try dsimp only at k_12
                            obtain rfl := Option.some.inj k_12
                            exact ⟨_, rfl, F.only [10] rfl, H.px0.fx4.fx3.fx2.fx1.fx0⟩
                        · rw [if_neg c38] at k_12
                          rw [Bool.eq_false_iff.2 c38] at F
                          refine ls (off F fun a F => ?_)
                          refine ls (off F fun a F => ?_)
                          refine ls (off F fun a F => ?_)
                          refine ls (off F fun a F => ?_)
                          refine ls (qv F (r_pickF (F.ev (x := .tmp 84) rfl) (F.ev (x := .const (.bool false)) rfl)) fun a F => ?_)
                          refine mv F rfl fun a F => ?_
                          refine ls (off F fun a F => ?_)
                          refine ls (off F fun a F => ?_)
                          refine ls (off F fun a F => ?_)
                          refine ls (off F fun a F => ?_)
                          refine ls (qv F (r_pickF (F.ev (x := .tmp 90) rfl) (F.ev (x := .const (.bool false)) rfl)) fun a F => ?_)
                          refine as_ F rfl fun a F => ?_
                          refine wpList_nil ?_
                          replace F := F.only [10] (l' := [(10, .bool false)]) rfl
                          try dsimp only at k_12
                          obtain rfl := Option.some.inj k_12
                          exact ⟨_, rfl, F.only [10] rfl, H.px0.fx4.fx3.fx2.fx1.fx0⟩
                      · rw [if_neg c37] at k_12
                        rw [decide_eq_false c37] at F
                        refine ls (off F fun a F => ?_)
                        refine ls (off F fun a F => ?_)
                        refine ls (qv F (r_pickF (F.ev (x := .tmp 78) rfl) (F.ev (x := .const (.bool false)) rfl)) fun a F => ?_)
                        refine ls (qv F (r_beq (F.ev (x := .tmp 75) rfl) (F.ev (x := .tmp 81) rfl) Try.underlying4) fun a F => ?_)
                        refine ls (qv F (r_pickT (F.ev (x := .tmp 73) rfl) (F.ev (x := .tmp 82) rfl)) fun a F => ?_)
                        refine mv F rfl fun a F => ?_
                        by_cases c40 : (x35 == false) = true
                        · rw [if_pos c40] at k_12
                          rw [c40] at F
                          refine ls (qv F (r_fa (off := 4) (F.ev (x := .tmp 5) rfl) fa24_4) fun a F => ?_)
                          refine ls (qv F (r_ld (F.ev (x := .tmp 85) rfl) (cel_cell (o := 4) (H.cell 4 rfl) rfl) one22) fun a F => ?_)
                          refine ls (qv F (r_len (F.ev (x := .tmp 86) rfl) Try.underlying22) fun a F => ?_)
                          refine ls (qv F (r_ge (F.ev (x := .tmp 87) rfl) (F.ev (x := .const (.int .i64 1)) rfl)) fun a F => ?_)
                          refine ls (qv F (r_pickT (F.ev (x := .tmp 84) rfl) (F.ev (x := .tmp 88) rfl)) fun a F => ?_)
                          refine mv F rfl fun a F => ?_
                          by_cases c41 : (a0.Body.length : Int) ≥ 1
                          · rw [if_pos c41] at k_12
                            rw [decide_eq_true c41] at F
                            refine ls (qv F (r_fa (off := 4) (F.ev (x := .tmp 5) rfl) fa24_4) fun a F => ?_)
                            refine ls (qv F (r_ld (F.ev (x := .tmp 91) rfl) (cel_cell (o := 4) (H.cell 4 rfl) rfl) one22) fun a F => ?_)
                            refine ls (qv F (r_len (F.ev (x := .tmp 92) rfl) Try.underlying22) fun a F => ?_)
                            refine ls (qv F (r_le (F.ev (x := .tmp 93) rfl) (F.ev (x := .const (.int .i64 50)) rfl)) fun a F => ?_)
                            refine ls (qv F (r_pickT (F.ev (x := .tmp 90) rfl) (F.ev (x := .tmp 94) rfl)) fun a F => ?_)
                            refine as_ F rfl fun a F => ?_
                            refine wpList_nil ?_
                            replace F := F.only [10] (l' := [(10, .bool (decide ((a0.Body.length : Int) ≤ 50)))]) rfl
                            try dsimp only at k_12
                            obtain rfl := Option.some.inj k_12
                            exact ⟨_, rfl, F.only [10] rfl, H.px0.fx4.fx3.fx2.fx1.fx0⟩
                          · rw [if_neg c41] at k_12
                            rw [decide_eq_false c41] at F
                            refine ls (off F fun a F => ?_)
                            refine ls (off F fun a F => ?_)
                            refine ls (off F fun a F => ?_)
                            refine ls (off F fun a F => ?_)
                            refine ls (qv F (r_pickF (F.ev (x := .tmp 90) rfl) (F.ev (x := .const (.bool false)) rfl)) fun a F => ?_)
                            refine as_ F rfl fun a F => ?_
                            refine wpList_nil ?_
                            replace F := F.only [10] (l' := [(10, .bool false)]) rfl
                            try dsimp only at k_12
                            obtain rfl := Option.some.inj k_12
                            exact ⟨_, rfl, F.only [10] rfl, H.px0.fx4.fx3.fx2.fx1.fx0⟩
                        · rw [if_neg c40] at k_12
                          rw [Bool.eq_false_iff.2 c40] at F
                          refine ls (off F fun a F => ?_)
                          refine ls (off F fun a F => ?_)
                          refine ls (off F fun a F => ?_)
                          refine ls (off F fun a F => ?_)
                          refine ls (qv F (r_pickF (F.ev (x := .tmp 84) rfl) (F.ev (x := .const (.bool false)) rfl)) fun a F => ?_)
                          refine mv F rfl fun a F => ?_
                          refine ls (off F fun a F => ?_)
                          refine ls (off F fun a F => ?_)
                          refine ls (off F fun a F => ?_)
                          refine ls (off F fun a F => ?_)
                          refine ls (qv F (r_pickF (F.ev (x := .tmp 90) rfl) (F.ev (x := .const (.bool false)) rfl)) fun a F => ?_)
                          refine as_ F rfl fun a F => ?_
                          refine wpList_nil ?_
                          replace F := F.only [10] (l' := [(10, .bool false)]) rfl
                          try dsimp only at k_12
                          obtain rfl := Option.some.inj k_12
                          exact ⟨_, rfl, F.only [10] rfl, H.px0.fx4.fx3.fx2.fx1.fx0⟩
                    · rw [if_neg c34] at k_12
                      rw [Bool.eq_false_iff.2 c34] at F
                      refine ls (off F fun a F => ?_)
                      refine ls (off F fun a F => ?_)
                      refine ls (off F fun a F => ?_)
                      refine ls (off F fun a F => ?_)
                      refine ls (off F fun a F => ?_)
                      refine ls (off F fun a F => ?_)
                      refine ls (off F fun a F => ?_)
                      refine ls (off F fun a F => ?_)
                      refine ls (off F fun a F => ?_)
                      refine ls (qv F (r_pickF (F.ev (x := .tmp 73) rfl) (F.ev (x := .const (.bool false)) rfl)) fun a F => ?_)
                      refine mv F rfl fun a F => ?_
                      refine ls (off F fun a F => ?_)
                      refine ls (off F fun a F => ?_)
                      refine ls (off F fun a F => ?_)
                      refine ls (off F fun a F => ?_)
                      refine ls (qv F (r_pickF (F.ev (x := .tmp 84) rfl) (F.ev (x := .const (.bool false)) rfl)) fun a F => ?_)
                      refine mv F rfl fun a F => ?_
                      refine ls (off F fun a F => ?_)
                      refine ls (off F fun a F => ?_)
                      refine ls (off F fun a F => ?_)
                      refine ls (off F fun a F => ?_)
                      refine ls (qv F (r_pickF (F.ev (x := .tmp 90) rfl) (F.ev (x := .const (.bool false)) rfl)) fun a F => ?_)
                      refine as_ F rfl fun a F => ?_
                      refine wpList_nil ?_
                      replace F := F.only [10] (l' := [(10, .bool false)]) rfl
                      try dsimp only at k_12
                      obtain rfl := Option.some.inj k_12
                      exact ⟨_, rfl, F.only [10] rfl, H.px0.fx4.fx3.fx2.fx1.fx0⟩
                · rw [if_neg c22] at k_12
                  rw [Bool.eq_false_iff.2 c22] at F
                  refine ls (off F fun a F => ?_)
                  refine ls (off F fun a F => ?_)
                  refine ls (off F fun a F => ?_)
                  refine ls (off F fun a F => ?_)
                  refine ls (off F fun a F => ?_)
                  refine ls (off F fun a F => ?_)
                  refine ls (off F fun a F => ?_)
                  refine ls (off F fun a F => ?_)
                  refine ls (off F fun a F => ?_)
                  refine ls (qv F (r_pickF (F.ev (x := .tmp 62) rfl) (F.ev (x := .const (.bool false)) rfl)) fun a F => ?_)
                  refine mv F rfl fun a F => ?_
                  refine ls (off F fun a F => ?_)
                  refine ls (off F fun a F => ?_)
                  refine ls (off F fun a F => ?_)
                  refine ls (off F fun a F => ?_)
                  refine ls (off F fun a F => ?_)
                  refine ls (off F fun a F => ?_)
                  refine ls (off F fun a F => ?_)
                  refine ls (off F fun a F => ?_)
                  refine ls (off F fun a F => ?_)
                  refine ls (qv F (r_pickF (F.ev (x := .tmp 73) rfl) (F.ev (x := .const (.bool false)) rfl)) fun a F => ?_)
                  refine mv F rfl fun a F => ?_
                  refine ls (off F fun a F => ?_)
                  refine ls (off F fun a F => ?_)
                  refine ls (off F fun a F => ?_)
                  refine ls (off F fun a F => ?_)
                  refine ls (qv F (r_pickF (F.ev (x := .tmp 84) rfl) (F.ev (x := .const (.bool false)) rfl)) fun a F => ?_)
                  refine mv F rfl fun a F => ?_
                  refine ls (off F fun a F => ?_)
                  refine ls (off F fun a F => ?_)
                  refine ls (off F fun a F => ?_)
                  refine ls (off F fun a F => ?_)
                  refine ls (qv F (r_pickF (F.ev (x := .tmp 90) rfl) (F.ev (x := .const (.bool false)) rfl)) fun a F => ?_)
                  refine as_ F rfl fun a F => ?_
                  refine wpList_nil ?_
                  replace F := F.only [10] (l' := [(10, .bool false)]) rfl
                  try dsimp only at k_12
                  obtain rfl := Option.some.inj k_12
                  exact ⟨_, rfl, F.only [10] rfl, H.px0.fx4.fx3.fx2.fx1.fx0⟩
              · rw [if_neg c21] at k_12
                rw [decide_eq_false c21] at F
                refine ls (off F fun a F => ?_)
                refine ls (off F fun a F => ?_)
                refine ls (qv F (r_pickF (F.ev (x := .tmp 56) rfl) (F.ev (x := .const (.bool false)) rfl)) fun a F => ?_)
                refine ls (qv F (r_beq (F.ev (x := .tmp 53) rfl) (F.ev (x := .tmp 59) rfl) Try.underlying4) fun a F => ?_)
                refine ls (qv F (r_pickT (F.ev (x := .tmp 51) rfl) (F.ev (x := .tmp 60) rfl)) fun a F => ?_)
                refine mv F rfl fun a F => ?_
                by_cases c42 : (x19 == false) = true
                · rw [if_pos c42] at k_12
                  rw [c42] at F
                  refine ls (qv F (r_ldA (F.ev (x := .tmp 14) rfl) (cel_range (o := 0) (n := 5) (vs := [.int .i64 a0.Gen, .int .i64 a0.Place, .int .i64 a3, .int .i64 a0.Kept, .slice A0_4 a0.Body.length c0_4]) (H.cell 1 rfl) rfl) agg24 rfl) fun a F => ?_)
                  obtain ⟨x43, e44, k_12⟩ := Option.bind_eq_some_iff.1 k_12
                  try dsimp only at k_12
                  refine ls (call F Try.func12 (sector_Right_ok (a0 := (⟨a0.Gen, a0.Place, a3, a0.Kept, a0.Body⟩ : api_Sector)) (H.p0) e44) rfl rfl fun v w hR a F => ?_)
                  obtain ⟨rfl, H⟩ := hR
                  refine mv F rfl fun a F => ?_
                  refine ls (qv F (r_ge (F.ev (x := .tmp 65) rfl) (F.ev (x := .const (.int .i64 1)) rfl)) fun a F => ?_)
                  refine mv F rfl fun a F => ?_
                  by_cases c45 : a3 ≥ 1
                  · rw [if_pos c45] at k_12
                    rw [decide_eq_true c45] at F
                    refine mv F rfl fun a F => ?_
                    refine ls (qv F (r_le (F.ev (x := .tmp 68) rfl) (F.ev (x := .const (.int .i64 32)) rfl)) fun a F => ?_)
                    refine ls (qv F (r_pickT (F.ev (x := .tmp 67) rfl) (F.ev (x := .tmp 69) rfl)) fun a F => ?_)
                    refine ls (qv F (r_beq (F.ev (x := .tmp 64) rfl) (F.ev (x := .tmp 70) rfl) Try.underlying4) fun a F => ?_)
                    refine ls (qv F (r_pickT (F.ev (x := .tmp 62) rfl) (F.ev (x := .tmp 71) rfl)) fun a F => ?_)
                    refine mv F rfl fun a F => ?_
                    by_cases c46 : ((x43 == (decide (a3 ≤ 32)))) = true
                    · rw [if_pos c46] at k_12
                      rw [c46] at F
                      refine ls (qv F (r_ldA (F.ev (x := .tmp 15) rfl) (cel_range (o := 0) (n := 5) (vs := [.int .i64 a0.Gen, .int .i64 a0.Place, .int .i64 a0.Parts, .int .i64 a4, .slice A0_4 a0.Body.length c0_4]) (H.cell 0 rfl) rfl) agg24 rfl) fun a F => ?_)
                      obtain ⟨x47, e48, k_12⟩ := Option.bind_eq_some_iff.1 k_12
                      try dsimp only at k_12
                      refine ls (call F Try.func12 (sector_Right_ok (a0 := (⟨a0.Gen, a0.Place, a0.Parts, a4, a0.Body⟩ : api_Sector)) (H.p0) e48) rfl rfl fun v w hR a F => ?_)
                      obtain ⟨rfl, H⟩ := hR
                      refine mv F rfl fun a F => ?_
                      refine ls (qv F (r_ge (F.ev (x := .tmp 76) rfl) (F.ev (x := .const (.int .i64 0)) rfl)) fun a F => ?_)
                      refine mv F rfl fun a F => ?_
                      by_cases c49 : a4 ≥ 0
                      · rw [if_pos c49] at k_12
                        rw [decide_eq_true c49] at F
                        refine mv F rfl fun a F => ?_
                        refine ls (qv F (r_le (F.ev (x := .tmp 79) rfl) (F.ev (x := .const (.int .i64 1000)) rfl)) fun a F => ?_)
                        refine ls (qv F (r_pickT (F.ev (x := .tmp 78) rfl) (F.ev (x := .tmp 80) rfl)) fun a F => ?_)
                        refine ls (qv F (r_beq (F.ev (x := .tmp 75) rfl) (F.ev (x := .tmp 81) rfl) Try.underlying4) fun a F => ?_)
                        refine ls (qv F (r_pickT (F.ev (x := .tmp 73) rfl) (F.ev (x := .tmp 82) rfl)) fun a F => ?_)
                        refine mv F rfl fun a F => ?_
                        by_cases c50 : ((x47 == (decide (a4 ≤ 1000)))) = true
                        · rw [if_pos c50] at k_12
                          rw [c50] at F
                          refine ls (qv F (r_fa (off := 4) (F.ev (x := .tmp 5) rfl) fa24_4) fun a F => ?_)
                          refine ls (qv F (r_ld (F.ev (x := .tmp 85) rfl) (cel_cell (o := 4) (H.cell 4 rfl) rfl) one22) fun a F => ?_)
                          refine ls (qv F (r_len (F.ev (x := .tmp 86) rfl) Try.underlying22) fun a F => ?_)
                          refine ls (qv F (r_ge (F.ev (x := .tmp 87) rfl) (F.ev (x := .const (.int .i64 1)) rfl)) fun a F => ?_)
                          refine ls (qv F (r_pickT (F.ev (x := .tmp 84) rfl) (F.ev (x := .tmp 88) rfl)) fun a F => ?_)
                          refine mv F rfl fun a F => ?_
                          by_cases c51 : (a0.Body.length : Int) ≥ 1
                          · rw [if_pos c51] at k_12
                            rw [decide_eq_true c51] at F
                            refine ls (qv F (r_fa (off := 4) (F.ev (x := .tmp 5) rfl) fa24_4) fun a F => ?_)
                            refine ls (qv F (r_ld (F.ev (x := .tmp 91) rfl) (cel_cell (o := 4) (H.cell 4 rfl) rfl) one22) fun a F => ?_)
                            refine ls (qv F (r_len (F.ev (x := .tmp 92) rfl) Try.underlying22) fun a F => ?_)
                            refine ls (qv F (r_le (F.ev (x := .tmp 93) rfl) (F.ev (x := .const (.int .i64 50)) rfl)) fun a F => ?_)
                            refine ls (qv F (r_pickT (F.ev (x := .tmp 90) rfl) (F.ev (x := .tmp 94) rfl)) fun a F => ?_)
                            refine as_ F rfl fun a F => ?_
                            refine wpList_nil ?_
                            replace F := F.only [10] (l' := [(10, .bool (decide ((a0.Body.length : Int) ≤ 50)))]) rfl
                            try dsimp only at k_12
                            obtain rfl := Option.some.inj k_12
                            exact ⟨_, rfl, F.only [10] rfl, H.px0.fx4.fx3.fx2.fx1.fx0⟩
                          · rw [if_neg c51] at k_12
                            rw [decide_eq_false c51] at F
                            refine ls (off F fun a F => ?_)
                            refine ls (off F fun a F => ?_)
                            refine ls (off F fun a F => ?_)
                            refine ls (off F fun a F => ?_)
                            refine ls (qv F (r_pickF (F.ev (x := .tmp 90) rfl) (F.ev (x := .const (.bool false)) rfl)) fun a F => ?_)
                            refine as_ F rfl fun a F => ?_
                            refine wpList_nil ?_
                            replace F := F.only [10] (l' := [(10, .bool false)]) rfl
                            try dsimp only at k_12
                            obtain rfl := Option.some.inj k_12
                            exact ⟨_, rfl, F.only [10] rfl, H.px0.fx4.fx3.fx2.fx1.fx0⟩
                        · rw [if_neg c50] at k_12
                          rw [Bool.eq_false_iff.2 c50] at F
                          refine ls (off F fun a F => ?_)
                          refine ls (off F fun a F => ?_)
                          refine ls (off F fun a F => ?_)
                          refine ls (off F fun a F => ?_)
                          refine ls (qv F (r_pickF (F.ev (x := .tmp 84) rfl) (F.ev (x := .const (.bool false)) rfl)) fun a F => ?_)
                          refine mv F rfl fun a F => ?_
                          refine ls (off F fun a F => ?_)
                          refine ls (off F fun a F => ?_)
                          refine ls (off F fun a F => ?_)
                          refine ls (off F fun a F => ?_)
                          refine ls (qv F (r_pickF (F.ev (x := .tmp 90) rfl) (F.ev (x := .const (.bool false)) rfl)) fun a F => ?_)
                          refine as_ F rfl fun a F => ?_
                          refine wpList_nil ?_
                          replace F := F.only [10] (l' := [(10, .bool false)]) rfl
                          try dsimp only at k_12
                          obtain rfl := Option.some.inj k_12
                          exact ⟨_, rfl, F.only [10] rfl, H.px0.fx4.fx3.fx2.fx1.fx0⟩
                      · rw [if_neg c49] at k_12
                        rw [decide_eq_false c49] at F
                        refine ls (off F fun a F => ?_)
                        refine ls (off F fun a F => ?_)
                        refine ls (qv F (r_pickF (F.ev (x := .tmp 78) rfl) (F.ev (x := .const (.bool false)) rfl)) fun a F => ?_)
                        refine ls (qv F (r_beq (F.ev (x := .tmp 75) rfl) (F.ev (x := .tmp 81) rfl) Try.underlying4) fun a F => ?_)
                        refine ls (qv F (r_pickT (F.ev (x := .tmp 73) rfl) (F.ev (x := .tmp 82) rfl)) fun a F => ?_)
                        refine mv F rfl fun a F => ?_
                        by_cases c52 : (x47 == false) = true
                        · rw [if_pos c52] at k_12
                          rw [c52] at F
                          refine ls (qv F (r_fa (off := 4) (F.ev (x := .tmp 5) rfl) fa24_4) fun a F => ?_)
                          refine ls (qv F (r_ld (F.ev (x := .tmp 85) rfl) (cel_cell (o := 4) (H.cell 4 rfl) rfl) one22) fun a F => ?_)
                          refine ls (qv F (r_len (F.ev (x := .tmp 86) rfl) Try.underlying22) fun a F => ?_)
                          refine ls (qv F (r_ge (F.ev (x := .tmp 87) rfl) (F.ev (x := .const (.int .i64 1)) rfl)) fun a F => ?_)
                          refine ls (qv F (r_pickT (F.ev (x := .tmp 84) rfl) (F.ev (x := .tmp 88) rfl)) fun a F => ?_)
                          refine mv F rfl fun a F => ?_
                          by_cases c53 : (a0.Body.length : Int) ≥ 1
                          · rw [if_pos c53] at k_12
                            rw [decide_eq_true c53] at F
                            refine ls (qv F (r_fa (off := 4) (F.ev (x := .tmp 5) rfl) fa24_4) fun a F => ?_)
                            refine ls (qv F (r_ld (F.ev (x := .tmp 91) rfl) (cel_cell (o := 4) (H.cell 4 rfl) rfl) one22) fun a F => ?_)
                            refine ls (qv F (r_len (F.ev (x := .tmp 92) rfl) Try.underlying22) fun a F => ?_)
                            refine ls (qv F (r_le (F.ev (x := .tmp 93) rfl) (F.ev (x := .const (.int .i64 50)) rfl)) fun a F => ?_)
                            refine ls (qv F (r_pickT (F.ev (x := .tmp 90) rfl) (F.ev (x := .tmp 94) rfl)) fun a F => ?_)
                            refine as_ F rfl fun a F => ?_
                            refine wpList_nil ?_
                            replace F := F.only [10] (l' := [(10, .bool (decide ((a0.Body.length : Int) ≤ 50)))]) rfl
                            try dsimp only at k_12
                            obtain rfl := Option.some.inj k_12
                            exact ⟨_, rfl, F.only [10] rfl, H.px0.fx4.fx3.fx2.fx1.fx0⟩
                          · rw [if_neg c53] at k_12
                            rw [decide_eq_false c53] at F
                            refine ls (off F fun a F => ?_)
                            refine ls (off F fun a F => ?_)
                            refine ls (off F fun a F => ?_)
                            refine ls (off F fun a F => ?_)
                            refine ls (qv F (r_pickF (F.ev (x := .tmp 90) rfl) (F.ev (x := .const (.bool false)) rfl)) fun a F => ?_)
                            refine as_ F rfl fun a F => ?_
                            refine wpList_nil ?_
                            replace F := F.only [10] (l' := [(10, .bool false)]) rfl
                            try dsimp only at k_12
                            obtain rfl := Option.some.inj k_12
                            exact ⟨_, rfl, F.only [10] rfl, H.px0.fx4.fx3.fx2.fx1.fx0⟩
                        · rw [if_neg c52] at k_12
                          rw [Bool.eq_false_iff.2 c52] at F
                          refine ls (off F fun a F => ?_)
                          refine ls (off F fun a F => ?_)
                          refine ls (off F fun a F => ?_)
                          refine ls (off F fun a F => ?_)
                          refine ls (qv F (r_pickF (F.ev (x := .tmp 84) rfl) (F.ev (x := .const (.bool false)) rfl)) fun a F => ?_)
                          refine mv F rfl fun a F => ?_
                          refine ls (off F fun a F => ?_)
                          refine ls (off F fun a F => ?_)
                          refine ls (off F fun a F => ?_)
                          refine ls (off F fun a F => ?_)
                          refine ls (qv F (r_pickF (F.ev (x := .tmp 90) rfl) (F.ev (x := .const (.bool false)) rfl)) fun a F => ?_)
                          refine as_ F rfl fun a F => ?_
                          refine wpList_nil ?_
                          replace F := F.only [10] (l' := [(10, .bool false)]) rfl
                          try dsimp only at k_12
                          obtain rfl := Option.some.inj k_12
                          exact ⟨_, rfl, F.only [10] rfl, H.px0.fx4.fx3.fx2.fx1.fx0⟩
                    · rw [if_neg c46] at k_12
                      rw [Bool.eq_false_iff.2 c46] at F
                      refine ls (off F fun a F => ?_)
                      refine ls (off F fun a F => ?_)
                      refine ls (off F fun a F => ?_)
                      refine ls (off F fun a F => ?_)
                      refine ls (off F fun a F => ?_)
                      refine ls (off F fun a F => ?_)
                      refine ls (off F fun a F => ?_)
                      refine ls (off F fun a F => ?_)
                      refine ls (off F fun a F => ?_)
                      refine ls (qv F (r_pickF (F.ev (x := .tmp 73) rfl) (F.ev (x := .const (.bool false)) rfl)) fun a F => ?_)
                      refine mv F rfl fun a F => ?_
                      refine ls (off F fun a F => ?_)
                      refine ls (off F fun a F => ?_)
                      refine ls (off F fun a F => ?_)
                      refine ls (off F fun a F => ?_)
                      refine ls (qv F (r_pickF (F.ev (x := .tmp 84) rfl) (F.ev (x := .const (.bool false)) rfl)) fun a F => ?_)
                      refine mv F rfl fun a F => ?_
                      refine ls (off F fun a F => ?_)
                      refine ls (off F fun a F => ?_)
                      refine ls (off F fun a F => ?_)
                      refine ls (off F fun a F => ?_)
                      refine ls (qv F (r_pickF (F.ev (x := .tmp 90) rfl) (F.ev (x := .const (.bool false)) rfl)) fun a F => ?_)
                      refine as_ F rfl fun a F => ?_
                      refine wpList_nil ?_
                      replace F := F.only [10] (l' := [(10, .bool false)]) rfl
                      try dsimp only at k_12
                      obtain rfl := Option.some.inj k_12
                      exact ⟨_, rfl, F.only [10] rfl, H.px0.fx4.fx3.fx2.fx1.fx0⟩
                  · rw [if_neg c45] at k_12
                    rw [decide_eq_false c45] at F
                    refine ls (off F fun a F => ?_)
                    refine ls (off F fun a F => ?_)
                    refine ls (qv F (r_pickF (F.ev (x := .tmp 67) rfl) (F.ev (x := .const (.bool false)) rfl)) fun a F => ?_)
                    refine ls (qv F (r_beq (F.ev (x := .tmp 64) rfl) (F.ev (x := .tmp 70) rfl) Try.underlying4) fun a F => ?_)
                    refine ls (qv F (r_pickT (F.ev (x := .tmp 62) rfl) (F.ev (x := .tmp 71) rfl)) fun a F => ?_)
                    refine mv F rfl fun a F => ?_
                    by_cases c54 : (x43 == false) = true
                    · rw [if_pos c54] at k_12
                      rw [c54] at F
                      refine ls (qv F (r_ldA (F.ev (x := .tmp 15) rfl) (cel_range (o := 0) (n := 5) (vs := [.int .i64 a0.Gen, .int .i64 a0.Place, .int .i64 a0.Parts, .int .i64 a4, .slice A0_4 a0.Body.length c0_4]) (H.cell 0 rfl) rfl) agg24 rfl) fun a F => ?_)
                      obtain ⟨x55, e56, k_12⟩ := Option.bind_eq_some_iff.1 k_12
                      try dsimp only at k_12
                      refine ls (call F Try.func12 (sector_Right_ok (a0 := (⟨a0.Gen, a0.Place, a0.Parts, a4, a0.Body⟩ : api_Sector)) (H.p0) e56) rfl rfl fun v w hR a F => ?_)
                      obtain ⟨rfl, H⟩ := hR
                      refine mv F rfl fun a F => ?_
                      refine ls (qv F (r_ge (F.ev (x := .tmp 76) rfl) (F.ev (x := .const (.int .i64 0)) rfl)) fun a F => ?_)
                      refine mv F rfl fun a F => ?_
                      by_cases c57 : a4 ≥ 0
                      · rw [if_pos c57] at k_12
                        rw [decide_eq_true c57] at F
                        refine mv F rfl fun a F => ?_
                        refine ls (qv F (r_le (F.ev (x := .tmp 79) rfl) (F.ev (x := .const (.int .i64 1000)) rfl)) fun a F => ?_)
                        refine ls (qv F (r_pickT (F.ev (x := .tmp 78) rfl) (F.ev (x := .tmp 80) rfl)) fun a F => ?_)
                        refine ls (qv F (r_beq (F.ev (x := .tmp 75) rfl) (F.ev (x := .tmp 81) rfl) Try.underlying4) fun a F => ?_)
                        refine ls (qv F (r_pickT (F.ev (x := .tmp 73) rfl) (F.ev (x := .tmp 82) rfl)) fun a F => ?_)
                        refine mv F rfl fun a F => ?_
                        by_cases c58 : ((x55 == (decide (a4 ≤ 1000)))) = true
                        · rw [if_pos c58] at k_12
                          rw [c58] at F
                          refine ls (qv F (r_fa (off := 4) (F.ev (x := .tmp 5) rfl) fa24_4) fun a F => ?_)
                          refine ls (qv F (r_ld (F.ev (x := .tmp 85) rfl) (cel_cell (o := 4) (H.cell 4 rfl) rfl) one22) fun a F => ?_)
                          refine ls (qv F (r_len (F.ev (x := .tmp 86) rfl) Try.underlying22) fun a F => ?_)
                          refine ls (qv F (r_ge (F.ev (x := .tmp 87) rfl) (F.ev (x := .const (.int .i64 1)) rfl)) fun a F => ?_)
                          refine ls (qv F (r_pickT (F.ev (x := .tmp 84) rfl) (F.ev (x := .tmp 88) rfl)) fun a F => ?_)
                          refine mv F rfl fun a F => ?_
                          by_cases c59 : (a0.Body.length : Int) ≥ 1
                          · rw [if_pos c59] at k_12
                            rw [decide_eq_true c59] at F
                            refine ls (qv F (r_fa (off := 4) (F.ev (x := .tmp 5) rfl) fa24_4) fun a F => ?_)
                            refine ls (qv F (r_ld (F.ev (x := .tmp 91) rfl) (cel_cell (o := 4) (H.cell 4 rfl) rfl) one22) fun a F => ?_)
                            refine ls (qv F (r_len (F.ev (x := .tmp 92) rfl) Try.underlying22) fun a F => ?_)
                            refine ls (qv F (r_le (F.ev (x := .tmp 93) rfl) (F.ev (x := .const (.int .i64 50)) rfl)) fun a F => ?_)
                            refine ls (qv F (r_pickT (F.ev (x := .tmp 90) rfl) (F.ev (x := .tmp 94) rfl)) fun a F => ?_)
                            refine as_ F rfl fun a F => ?_
                            refine wpList_nil ?_
                            replace F := F.only [10] (l' := [(10, .bool (decide ((a0.Body.length : Int) ≤ 50)))]) rfl
                            try dsimp only at k_12
                            obtain rfl := Option.some.inj k_12
                            exact ⟨_, rfl, F.only [10] rfl, H.px0.fx4.fx3.fx2.fx1.fx0⟩
                          · rw [if_neg c59] at k_12
                            rw [decide_eq_false c59] at F
                            refine ls (off F fun a F => ?_)
                            refine ls (off F fun a F => ?_)
                            refine ls (off F fun a F => ?_)
                            refine ls (off F fun a F => ?_)
                            refine ls (qv F (r_pickF (F.ev (x := .tmp 90) rfl) (F.ev (x := .const (.bool false)) rfl)) fun a F => ?_)
                            refine as_ F rfl fun a F => ?_
                            refine wpList_nil ?_
                            replace F := F.only [10] (l' := [(10, .bool false)]) rfl
                            try dsimp only at k_12
                            obtain rfl := Option.some.inj k_12
                            exact ⟨_, rfl, F.only [10] rfl, H.px0.fx4.fx3.fx2.fx1.fx0⟩
                        · rw [if_neg c58] at k_12
                          rw [Bool.eq_false_iff.2 c58] at F
                          refine ls (off F fun a F => ?_)
                          refine ls (off F fun a F => ?_)
                          refine ls (off F fun a F => ?_)
                          refine ls (off F fun a F => ?_)
                          refine ls (qv F (r_pickF (F.ev (x := .tmp 84) rfl) (F.ev (x := .const (.bool false)) rfl)) fun a F => ?_)
                          refine mv F rfl fun a F => ?_
                          refine ls (off F fun a F => ?_)
                          refine ls (off F fun a F => ?_)
                          refine ls (off F fun a F => ?_)
                          refine ls (off F fun a F => ?_)
                          refine ls (qv F (r_pickF (F.ev (x := .tmp 90) rfl) (F.ev (x := .const (.bool false)) rfl)) fun a F => ?_)
                          refine as_ F rfl fun a F => ?_
                          refine wpList_nil ?_
                          replace F := F.only [10] (l' := [(10, .bool false)]) rfl
                          try dsimp only at k_12
                          obtain rfl := Option.some.inj k_12
                          exact ⟨_, rfl, F.only [10] rfl, H.px0.fx4.fx3.fx2.fx1.fx0⟩
                      · rw [if_neg c57] at k_12
                        rw [decide_eq_false c57] at F
                        refine ls (off F fun a F => ?_)
                        refine ls (off F fun a F => ?_)
                        refine ls (qv F (r_pickF (F.ev (x := .tmp 78) rfl) (F.ev (x := .const (.bool false)) rfl)) fun a F => ?_)
                        refine ls (qv F (r_beq (F.ev (x := .tmp 75) rfl) (F.ev (x := .tmp 81) rfl) Try.underlying4) fun a F => ?_)
                        refine ls (qv F (r_pickT (F.ev (x := .tmp 73) rfl) (F.ev (x := .tmp 82) rfl)) fun a F => ?_)
                        refine mv F rfl fun a F => ?_
                        by_cases c60 : (x55 == false) = true
                        · rw [if_pos c60] at k_12
                          rw [c60] at F
                          refine ls (qv F (r_fa (off := 4) (F.ev (x := .tmp 5) rfl) fa24_4) fun a F => ?_)
                          refine ls (qv F (r_ld (F.ev (x := .tmp 85) rfl) (cel_cell (o := 4) (H.cell 4 rfl) rfl) one22) fun a F => ?_)
                          refine ls (qv F (r_len (F.ev (x := .tmp 86) rfl) Try.underlying22) fun a F => ?_)
                          refine ls (qv F (r_ge (F.ev (x := .tmp 87) rfl) (F.ev (x := .const (.int .i64 1)) rfl)) fun a F => ?_)
                          refine ls (qv F (r_pickT (F.ev (x := .tmp 84) rfl) (F.ev (x := .tmp 88) rfl)) fun a F => ?_)
                          refine mv F rfl fun a F => ?_
                          by_cases c61 : (a0.Body.length : Int) ≥ 1
                          · rw [if_pos c61] at k_12
                            rw [decide_eq_true c61] at F
                            refine ls (qv F (r_fa (off := 4) (F.ev (x := .tmp 5) rfl) fa24_4) fun a F => ?_)
                            refine ls (qv F (r_ld (F.ev (x := .tmp 91) rfl) (cel_cell (o := 4) (H.cell 4 rfl) rfl) one22) fun a F => ?_)
                            refine ls (qv F (r_len (F.ev (x := .tmp 92) rfl) Try.underlying22) fun a F => ?_)
                            refine ls (qv F (r_le (F.ev (x := .tmp 93) rfl) (F.ev (x := .const (.int .i64 50)) rfl)) fun a F => ?_)
                            refine ls (qv F (r_pickT (F.ev (x := .tmp 90) rfl) (F.ev (x := .tmp 94) rfl)) fun a F => ?_)
                            refine as_ F rfl fun a F => ?_
                            refine wpList_nil ?_
                            replace F := F.only [10] (l' := [(10, .bool (decide ((a0.Body.length : Int) ≤ 50)))]) rfl
                            try dsimp only at k_12
                            obtain rfl := Option.some.inj k_12
                            exact ⟨_, rfl, F.only [10] rfl, H.px0.fx4.fx3.fx2.fx1.fx0⟩
                          · rw [if_neg c61] at k_12
                            rw [decide_eq_false c61] at F
                            refine ls (off F fun a F => ?_)
                            refine ls (off F fun a F => ?_)
                            refine ls (off F fun a F => ?_)
                            refine ls (off F fun a F => ?_)
                            refine ls (qv F (r_pickF (F.ev (x := .tmp 90) rfl) (F.ev (x := .const (.bool false)) rfl)) fun a F => ?_)
                            refine as_ F rfl fun a F => ?_
                            refine wpList_nil ?_
                            replace F := F.only [10] (l' := [(10, .bool false)]) rfl
                            try dsimp only at k_12
                            obtain rfl := Option.some.inj k_12
                            exact ⟨_, rfl, F.only [10] rfl, H.px0.fx4.fx3.fx2.fx1.fx0⟩
                        · rw [if_neg c60] at k_12
                          rw [Bool.eq_false_iff.2 c60] at F
                          refine ls (off F fun a F => ?_)
                          refine ls (off F fun a F => ?_)
                          refine ls (off F fun a F => ?_)
                          refine ls (off F fun a F => ?_)
                          refine ls (qv F (r_pickF (F.ev (x := .tmp 84) rfl) (F.ev (x := .const (.bool false)) rfl)) fun a F => ?_)
                          refine mv F rfl fun a F => ?_
                          refine ls (off F fun a F => ?_)
                          refine ls (off F fun a F => ?_)
                          refine ls (off F fun a F => ?_)
                          refine ls (off F fun a F => ?_)
                          refine ls (qv F (r_pickF (F.ev (x := .tmp 90) rfl) (F.ev (x := .const (.bool false)) rfl)) fun a F => ?_)
                          refine as_ F rfl fun a F => ?_
                          refine wpList_nil ?_
                          replace F := F.only [10] (l' := [(10, .bool false)]) rfl
                          try dsimp only at k_12
                          obtain rfl := Option.some.inj k_12
                          exact ⟨_, rfl, F.only [10] rfl, H.px0.fx4.fx3.fx2.fx1.fx0⟩
                    · rw [if_neg c54] at k_12
                      rw [Bool.eq_false_iff.2 c54] at F
                      refine ls (off F fun a F => ?_)
                      refine ls (off F fun a F => ?_)
                      refine ls (off F fun a F => ?_)
                      refine ls (off F fun a F => ?_)
                      refine ls (off F fun a F => ?_)
                      refine ls (off F fun a F => ?_)
                      refine ls (off F fun a F => ?_)
                      refine ls (off F fun a F => ?_)
                      refine ls (off F fun a F => ?_)
                      refine ls (qv F (r_pickF (F.ev (x := .tmp 73) rfl) (F.ev (x := .const (.bool false)) rfl)) fun a F => ?_)
                      refine mv F rfl fun a F => ?_
                      refine ls (off F fun a F => ?_)
                      refine ls (off F fun a F => ?_)
                      refine ls (off F fun a F => ?_)
                      refine ls (off F fun a F => ?_)
                      refine ls (qv F (r_pickF (F.ev (x := .tmp 84) rfl) (F.ev (x := .const (.bool false)) rfl)) fun a F => ?_)
                      refine mv F rfl fun a F => ?_
                      refine ls (off F fun a F => ?_)
                      refine ls (off F fun a F => ?_)
                      refine ls (off F fun a F => ?_)
                      refine ls (off F fun a F => ?_)
                      refine ls (qv F (r_pickF (F.ev (x := .tmp 90) rfl) (F.ev (x := .const (.bool false)) rfl)) fun a F => ?_)
                      refine as_ F rfl fun a F => ?_
                      refine wpList_nil ?_
                      replace F := F.only [10] (l' := [(10, .bool false)]) rfl
                      try dsimp only at k_12
                      obtain rfl := Option.some.inj k_12
                      exact ⟨_, rfl, F.only [10] rfl, H.px0.fx4.fx3.fx2.fx1.fx0⟩
                · rw [if_neg c42] at k_12
                  rw [Bool.eq_false_iff.2 c42] at F
                  refine ls (off F fun a F => ?_)
                  refine ls (off F fun a F => ?_)
                  refine ls (off F fun a F => ?_)
                  refine ls (off F fun a F => ?_)
                  refine ls (off F fun a F => ?_)
                  refine ls (off F fun a F => ?_)
                  refine ls (off F fun a F => ?_)
                  refine ls (off F fun a F => ?_)
                  refine ls (off F fun a F => ?_)
                  refine ls (qv F (r_pickF (F.ev (x := .tmp 62) rfl) (F.ev (x := .const (.bool false)) rfl)) fun a F => ?_)
                  refine mv F rfl fun a F => ?_
                  refine ls (off F fun a F => ?_)
                  refine ls (off F fun a F => ?_)
                  refine ls (off F fun a F => ?_)
                  refine ls (off F fun a F => ?_)
                  refine ls (off F fun a F => ?_)
                  refine ls (off F fun a F => ?_)
                  refine ls (off F fun a F => ?_)
                  refine ls (off F fun a F => ?_)
                  refine ls (off F fun a F => ?_)
                  refine ls (qv F (r_pickF (F.ev (x := .tmp 73) rfl) (F.ev (x := .const (.bool false)) rfl)) fun a F => ?_)
                  refine mv F rfl fun a F => ?_
                  refine ls (off F fun a F => ?_)
                  refine ls (off F fun a F => ?_)
                  refine ls (off F fun a F => ?_)
                  refine ls (off F fun a F => ?_)
                  refine ls (qv F (r_pickF (F.ev (x := .tmp 84) rfl) (F.ev (x := .const (.bool false)) rfl)) fun a F => ?_)
                  refine mv F rfl fun a F => ?_
                  refine ls (off F fun a F => ?_)
                  refine ls (off F fun a F => ?_)
                  refine ls (off F fun a F => ?_)
                  refine ls (off F fun a F => ?_)
                  refine ls (qv F (r_pickF (F.ev (x := .tmp 90) rfl) (F.ev (x := .const (.bool false)) rfl)) fun a F => ?_)
                  refine as_ F rfl fun a F => ?_
                  refine wpList_nil ?_
                  replace F := F.only [10] (l' := [(10, .bool false)]) rfl
                  try dsimp only at k_12
                  obtain rfl := Option.some.inj k_12
                  exact ⟨_, rfl, F.only [10] rfl, H.px0.fx4.fx3.fx2.fx1.fx0⟩
            · rw [if_neg c18] at k_12
              rw [Bool.eq_false_iff.2 c18] at F
              refine ls (off F fun a F => ?_)
              refine ls (off F fun a F => ?_)
              refine ls (off F fun a F => ?_)
              refine ls (off F fun a F => ?_)
              refine ls (off F fun a F => ?_)
              refine ls (off F fun a F => ?_)
              refine ls (off F fun a F => ?_)
              refine ls (off F fun a F => ?_)
              refine ls (off F fun a F => ?_)
              refine ls (qv F (r_pickF (F.ev (x := .tmp 51) rfl) (F.ev (x := .const (.bool false)) rfl)) fun a F => ?_)
              refine mv F rfl fun a F => ?_
              refine ls (off F fun a F => ?_)
              refine ls (off F fun a F => ?_)
              refine ls (off F fun a F => ?_)
              refine ls (off F fun a F => ?_)
              refine ls (off F fun a F => ?_)
              refine ls (off F fun a F => ?_)
              refine ls (off F fun a F => ?_)
              refine ls (off F fun a F => ?_)
              refine ls (off F fun a F => ?_)
              refine ls (qv F (r_pickF (F.ev (x := .tmp 62) rfl) (F.ev (x := .const (.bool false)) rfl)) fun a F => ?_)
              refine mv F rfl fun a F => ?_
              refine ls (off F fun a F => ?_)
              refine ls (off F fun a F => ?_)
              refine ls (off F fun a F => ?_)
              refine ls (off F fun a F => ?_)
              refine ls (off F fun a F => ?_)
              refine ls (off F fun a F => ?_)
              refine ls (off F fun a F => ?_)
              refine ls (off F fun a F => ?_)
              refine ls (off F fun a F => ?_)
              refine ls (qv F (r_pickF (F.ev (x := .tmp 73) rfl) (F.ev (x := .const (.bool false)) rfl)) fun a F => ?_)
              refine mv F rfl fun a F => ?_
              refine ls (off F fun a F => ?_)
              refine ls (off F fun a F => ?_)
              refine ls (off F fun a F => ?_)
              refine ls (off F fun a F => ?_)
              refine ls (qv F (r_pickF (F.ev (x := .tmp 84) rfl) (F.ev (x := .const (.bool false)) rfl)) fun a F => ?_)
              refine mv F rfl fun a F => ?_
              refine ls (off F fun a F => ?_)
              refine ls (off F fun a F => ?_)
              refine ls (off F fun a F => ?_)
              refine ls (off F fun a F => ?_)
              refine ls (qv F (r_pickF (F.ev (x := .tmp 90) rfl) (F.ev (x := .const (.bool false)) rfl)) fun a F => ?_)
              refine as_ F rfl fun a F => ?_
              refine wpList_nil ?_
              replace F := F.only [10] (l' := [(10, .bool false)]) rfl
              try dsimp only at k_12
              obtain rfl := Option.some.inj k_12
              exact ⟨_, rfl, F.only [10] rfl, H.px0.fx4.fx3.fx2.fx1.fx0⟩
          · rw [if_neg c17] at k_12
            rw [decide_eq_false c17] at F
            refine ls (off F fun a F => ?_)
            refine ls (off F fun a F => ?_)
            refine ls (qv F (r_pickF (F.ev (x := .tmp 45) rfl) (F.ev (x := .const (.bool false)) rfl)) fun a F => ?_)
            refine ls (qv F (r_beq (F.ev (x := .tmp 42) rfl) (F.ev (x := .tmp 48) rfl) Try.underlying4) fun a F => ?_)
            refine ls (qv F (r_pickT (F.ev (x := .tmp 40) rfl) (F.ev (x := .tmp 49) rfl)) fun a F => ?_)
            refine mv F rfl fun a F => ?_
            by_cases c62 : (x15 == false) = true
            · rw [if_pos c62] at k_12
              rw [c62] at F
              refine ls (qv F (r_ldA (F.ev (x := .tmp 13) rfl) (cel_range (o := 0) (n := 5) (vs := [.int .i64 a0.Gen, .int .i64 a2, .int .i64 a0.Parts, .int .i64 a0.Kept, .slice A0_4 a0.Body.length c0_4]) (H.cell 2 rfl) rfl) agg24 rfl) fun a F => ?_)
              obtain ⟨x63, e64, k_12⟩ := Option.bind_eq_some_iff.1 k_12
              try dsimp only at k_12
              refine ls (call F Try.func12 (sector_Right_ok (a0 := (⟨a0.Gen, a2, a0.Parts, a0.Kept, a0.Body⟩ : api_Sector)) (H.p0) e64) rfl rfl fun v w hR a F => ?_)
              obtain ⟨rfl, H⟩ := hR
              refine mv F rfl fun a F => ?_
              refine ls (qv F (r_ge (F.ev (x := .tmp 54) rfl) (F.ev (x := .const (.int .i64 0)) rfl)) fun a F => ?_)
              refine mv F rfl fun a F => ?_
              by_cases c65 : a2 ≥ 0
              · rw [if_pos c65] at k_12
                rw [decide_eq_true c65] at F
                refine mv F rfl fun a F => ?_
                refine ls (qv F (r_le (F.ev (x := .tmp 57) rfl) (F.ev (x := .const (.int .i64 4096)) rfl)) fun a F => ?_)
                refine ls (qv F (r_pickT (F.ev (x := .tmp 56) rfl) (F.ev (x := .tmp 58) rfl)) fun a F => ?_)
                refine ls (qv F (r_beq (F.ev (x := .tmp 53) rfl) (F.ev (x := .tmp 59) rfl) Try.underlying4) fun a F => ?_)
                refine ls (qv F (r_pickT (F.ev (x := .tmp 51) rfl) (F.ev (x := .tmp 60) rfl)) fun a F => ?_)
                refine mv F rfl fun a F => ?_
                by_cases c66 : ((x63 == (decide (a2 ≤ 4096)))) = true
                · rw [if_pos c66] at k_12
                  rw [c66] at F
                  refine ls (qv F (r_ldA (F.ev (x := .tmp 14) rfl) (cel_range (o := 0) (n := 5) (vs := [.int .i64 a0.Gen, .int .i64 a0.Place, .int .i64 a3, .int .i64 a0.Kept, .slice A0_4 a0.Body.length c0_4]) (H.cell 1 rfl) rfl) agg24 rfl) fun a F => ?_)
                  obtain ⟨x67, e68, k_12⟩ := Option.bind_eq_some_iff.1 k_12
                  try dsimp only at k_12
                  refine ls (call F Try.func12 (sector_Right_ok (a0 := (⟨a0.Gen, a0.Place, a3, a0.Kept, a0.Body⟩ : api_Sector)) (H.p0) e68) rfl rfl fun v w hR a F => ?_)
                  obtain ⟨rfl, H⟩ := hR
                  refine mv F rfl fun a F => ?_
                  refine ls (qv F (r_ge (F.ev (x := .tmp 65) rfl) (F.ev (x := .const (.int .i64 1)) rfl)) fun a F => ?_)
                  refine mv F rfl fun a F => ?_
                  by_cases c69 : a3 ≥ 1
                  · rw [if_pos c69] at k_12
                    rw [decide_eq_true c69] at F
                    refine mv F rfl fun a F => ?_
                    refine ls (qv F (r_le (F.ev (x := .tmp 68) rfl) (F.ev (x := .const (.int .i64 32)) rfl)) fun a F => ?_)
                    refine ls (qv F (r_pickT (F.ev (x := .tmp 67) rfl) (F.ev (x := .tmp 69) rfl)) fun a F => ?_)
                    refine ls (qv F (r_beq (F.ev (x := .tmp 64) rfl) (F.ev (x := .tmp 70) rfl) Try.underlying4) fun a F => ?_)
                    refine ls (qv F (r_pickT (F.ev (x := .tmp 62) rfl) (F.ev (x := .tmp 71) rfl)) fun a F => ?_)
                    refine mv F rfl fun a F => ?_
                    by_cases c70 : ((x67 == (decide (a3 ≤ 32)))) = true
                    · rw [if_pos c70] at k_12
                      rw [c70] at F
                      refine ls (qv F (r_ldA (F.ev (x := .tmp 15) rfl) (cel_range (o := 0) (n := 5) (vs := [.int .i64 a0.Gen, .int .i64 a0.Place, .int .i64 a0.Parts, .int .i64 a4, .slice A0_4 a0.Body.length c0_4]) (H.cell 0 rfl) rfl) agg24 rfl) fun a F => ?_)
                      obtain ⟨x71, e72, k_12⟩ := Option.bind_eq_some_iff.1 k_12
                      try dsimp only at k_12
                      refine ls (call F Try.func12 (sector_Right_ok (a0 := (⟨a0.Gen, a0.Place, a0.Parts, a4, a0.Body⟩ : api_Sector)) (H.p0) e72) rfl rfl fun v w hR a F => ?_)
                      obtain ⟨rfl, H⟩ := hR
                      refine mv F rfl fun a F => ?_
                      refine ls (qv F (r_ge (F.ev (x := .tmp 76) rfl) (F.ev (x := .const (.int .i64 0)) rfl)) fun a F => ?_)
                      refine mv F rfl fun a F => ?_
                      by_cases c73 : a4 ≥ 0
                      · rw [if_pos c73] at k_12
                        rw [decide_eq_true c73] at F
                        refine mv F rfl fun a F => ?_
                        refine ls (qv F (r_le (F.ev (x := .tmp 79) rfl) (F.ev (x := .const (.int .i64 1000)) rfl)) fun a F => ?_)
                        refine ls (qv F (r_pickT (F.ev (x := .tmp 78) rfl) (F.ev (x := .tmp 80) rfl)) fun a F => ?_)
                        refine ls (qv F (r_beq (F.ev (x := .tmp 75) rfl) (F.ev (x := .tmp 81) rfl) Try.underlying4) fun a F => ?_)
                        refine ls (qv F (r_pickT (F.ev (x := .tmp 73) rfl) (F.ev (x := .tmp 82) rfl)) fun a F => ?_)
                        refine mv F rfl fun a F => ?_
                        by_cases c74 : ((x71 == (decide (a4 ≤ 1000)))) = true
                        · rw [if_pos c74] at k_12
                          rw [c74] at F
                          refine ls (qv F (r_fa (off := 4) (F.ev (x := .tmp 5) rfl) fa24_4) fun a F => ?_)
                          refine ls (qv F (r_ld (F.ev (x := .tmp 85) rfl) (cel_cell (o := 4) (H.cell 4 rfl) rfl) one22) fun a F => ?_)
                          refine ls (qv F (r_len (F.ev (x := .tmp 86) rfl) Try.underlying22) fun a F => ?_)
                          refine ls (qv F (r_ge (F.ev (x := .tmp 87) rfl) (F.ev (x := .const (.int .i64 1)) rfl)) fun a F => ?_)
                          refine ls (qv F (r_pickT (F.ev (x := .tmp 84) rfl) (F.ev (x := .tmp 88) rfl)) fun a F => ?_)
                          refine mv F rfl fun a F => ?_
                          by_cases c75 : (a0.Body.length : Int) ≥ 1
                          · rw [if_pos c75] at k_12
                            rw [decide_eq_true c75] at F
                            refine ls (qv F (r_fa (off := 4) (F.ev (x := .tmp 5) rfl) fa24_4) fun a F => ?_)
                            refine ls (qv F (r_ld (F.ev (x := .tmp 91) rfl) (cel_cell (o := 4) (H.cell 4 rfl) rfl) one22) fun a F => ?_)
                            refine ls (qv F (r_len (F.ev (x := .tmp 92) rfl) Try.underlying22) fun a F => ?_)
                            refine ls (qv F (r_le (F.ev (x := .tmp 93) rfl) (F.ev (x := .const (.int .i64 50)) rfl)) fun a F => ?_)
                            refine ls (qv F (r_pickT (F.ev (x := .tmp 90) rfl) (F.ev (x := .tmp 94) rfl)) fun a F => ?_)
                            refine as_ F rfl fun a F => ?_
                            refine wpList_nil ?_
                            replace F := F.only [10] (l' := [(10, .bool (decide ((a0.Body.length : Int) ≤ 50)))]) rfl
                            try dsimp only at k_12
                            obtain rfl := Option.some.inj k_12
                            exact ⟨_, rfl, F.only [10] rfl, H.px0.fx4.fx3.fx2.fx1.fx0⟩
                          · rw [if_neg c75] at k_12
                            rw [decide_eq_false c75] at F
                            refine ls (off F fun a F => ?_)
                            refine ls (off F fun a F => ?_)
                            refine ls (off F fun a F => ?_)
                            refine ls (off F fun a F => ?_)
                            refine ls (qv F (r_pickF (F.ev (x := .tmp 90) rfl) (F.ev (x := .const (.bool false)) rfl)) fun a F => ?_)
                            refine as_ F rfl fun a F => ?_
                            refine wpList_nil ?_
                            replace F := F.only [10] (l' := [(10, .bool false)]) rfl
                            try dsimp only at k_12
                            obtain rfl := Option.some.inj k_12
                            exact ⟨_, rfl, F.only [10] rfl, H.px0.fx4.fx3.fx2.fx1.fx0⟩
                        · rw [if_neg c74] at k_12
                          rw [Bool.eq_false_iff.2 c74] at F
                          refine ls (off F fun a F => ?_)
                          refine ls (off F fun a F => ?_)
                          refine ls (off F fun a F => ?_)
                          refine ls (off F fun a F => ?_)
                          refine ls (qv F (r_pickF (F.ev (x := .tmp 84) rfl) (F.ev (x := .const (.bool false)) rfl)) fun a F => ?_)
                          refine mv F rfl fun a F => ?_
                          refine ls (off F fun a F => ?_)
                          refine ls (off F fun a F => ?_)
                          refine ls (off F fun a F => ?_)
                          refine ls (off F fun a F => ?_)
                          refine ls (qv F (r_pickF (F.ev (x := .tmp 90) rfl) (F.ev (x := .const (.bool false)) rfl)) fun a F => ?_)
                          refine as_ F rfl fun a F => ?_
                          refine wpList_nil ?_
                          replace F := F.only [10] (l' := [(10, .bool false)]) rfl
                          try dsimp only at k_12
                          obtain rfl := Option.some.inj k_12
                          exact ⟨_, rfl, F.only [10] rfl, H.px0.fx4.fx3.fx2.fx1.fx0⟩
                      · rw [if_neg c73] at k_12
                        rw [decide_eq_false c73] at F
                        refine ls (off F fun a F => ?_)
                        refine ls (off F fun a F => ?_)
                        refine ls (qv F (r_pickF (F.ev (x := .tmp 78) rfl) (F.ev (x := .const (.bool false)) rfl)) fun a F => ?_)
                        refine ls (qv F (r_beq (F.ev (x := .tmp 75) rfl) (F.ev (x := .tmp 81) rfl) Try.underlying4) fun a F => ?_)
                        refine ls (qv F (r_pickT (F.ev (x := .tmp 73) rfl) (F.ev (x := .tmp 82) rfl)) fun a F => ?_)
                        refine mv F rfl fun a F => ?_
                        by_cases c76 : (x71 == false) = true
                        · rw [if_pos c76] at k_12
                          rw [c76] at F
                          refine ls (qv F (r_fa (off := 4) (F.ev (x := .tmp 5) rfl) fa24_4) fun a F => ?_)
                          refine ls (qv F (r_ld (F.ev (x := .tmp 85) rfl) (cel_cell (o := 4) (H.cell 4 rfl) rfl) one22) fun a F => ?_)
                          refine ls (qv F (r_len (F.ev (x := .tmp 86) rfl) Try.underlying22) fun a F => ?_)
                          refine ls (qv F (r_ge (F.ev (x := .tmp 87) rfl) (F.ev (x := .const (.int .i64 1)) rfl)) fun a F => ?_)
                          refine ls (qv F (r_pickT (F.ev (x := .tmp 84) rfl) (F.ev (x := .tmp 88) rfl)) fun a F => ?_)
                          refine mv F rfl fun a F => ?_
                          by_cases c77 : (a0.Body.length : Int) ≥ 1
                          · rw [if_pos c77] at k_12
                            rw [decide_eq_true c77] at F
                            refine ls (qv F (r_fa (off := 4) (F.ev (x := .tmp 5) rfl) fa24_4) fun a F => ?_)
                            refine ls (qv F (r_ld (F.ev (x := .tmp 91) rfl) (cel_cell (o := 4) (H.cell 4 rfl) rfl) one22) fun a F => ?_)
                            refine ls (qv F (r_len (F.ev (x := .tmp 92) rfl) Try.underlying22) fun a F => ?_)
                            refine ls (qv F (r_le (F.ev (x := .tmp 93) rfl) (F.ev (x := .const (.int .i64 50)) rfl)) fun a F => ?_)
                            refine ls (qv F (r_pickT (F.ev (x := .tmp 90) rfl) (F.ev (x := .tmp 94) rfl)) fun a F => ?_)
                            refine as_ F rfl fun a F => ?_
                            refine wpList_nil ?_
                            replace F := F.only [10] (l' := [(10, .bool (decide ((a0.Body.length : Int) ≤ 50)))]) rfl
                            try dsimp only at k_12
                            obtain rfl := Option.some.inj k_12
                            exact ⟨_, rfl, F.only [10] rfl, H.px0.fx4.fx3.fx2.fx1.fx0⟩
                          · rw [if_neg c77] at k_12
                            rw [decide_eq_false c77] at F
                            refine ls (off F fun a F => ?_)
                            refine ls (off F fun a F => ?_)
                            refine ls (off F fun a F => ?_)
                            refine ls (off F fun a F => ?_)
                            refine ls (qv F (r_pickF (F.ev (x := .tmp 90) rfl) (F.ev (x := .const (.bool false)) rfl)) fun a F => ?_)
                            refine as_ F rfl fun a F => ?_
                            refine wpList_nil ?_
                            replace F := F.only [10] (l' := [(10, .bool false)]) rfl
                            try dsimp only at k_12
                            obtain rfl := Option.some.inj k_12
                            exact ⟨_, rfl, F.only [10] rfl, H.px0.fx4.fx3.fx2.fx1.fx0⟩
                        · rw [if_neg c76] at k_12
                          rw [Bool.eq_false_iff.2 c76] at F
                          refine ls (off F fun a F => ?_)
                          refine ls (off F fun a F => ?_)
                          refine ls (off F fun a F => ?_)
                          refine ls (off F fun a F => ?_)
                          refine ls (qv F (r_pickF (F.ev (x := .tmp 84) rfl) (F.ev (x := .const (.bool false)) rfl)) fun a F => ?_)
                          refine mv F rfl fun a F => ?_
                          refine ls (off F fun a F => ?_)
                          refine ls (off F fun a F => ?_)
                          refine ls (off F fun a F => ?_)
                          refine ls (off F fun a F => ?_)
                          refine ls (qv F (r_pickF (F.ev (x := .tmp 90) rfl) (F.ev (x := .const (.bool false)) rfl)) fun a F => ?_)
                          refine as_ F rfl fun a F => ?_
                          refine wpList_nil ?_
                          replace F := F.only [10] (l' := [(10, .bool false)]) rfl
                          try dsimp only at k_12
                          obtain rfl := Option.some.inj k_12
                          exact ⟨_, rfl, F.only [10] rfl, H.px0.fx4.fx3.fx2.fx1.fx0⟩
                    · rw [if_neg c70] at k_12
                      rw [Bool.eq_false_iff.2 c70] at F
                      refine ls (off F fun a F => ?_)
                      refine ls (off F fun a F => ?_)
                      refine ls (off F fun a F => ?_)
                      refine ls (off F fun a F => ?_)
                      refine ls (off F fun a F => ?_)
                      refine ls (off F fun a F => ?_)
                      refine ls (off F fun a F => ?_)
                      refine ls (off F fun a F => ?_)
                      refine ls (off F fun a F => ?_)
                      refine ls (qv F (r_pickF (F.ev (x := .tmp 73) rfl) (F.ev (x := .const (.bool false)) rfl)) fun a F => ?_)
                      refine mv F rfl fun a F => ?_
                      refine ls (off F fun a F => ?_)
                      refine ls (off F fun a F => ?_)
                      refine ls (off F fun a F => ?_)
                      refine ls (off F fun a F => ?_)
                      refine ls (qv F (r_pickF (F.ev (x := .tmp 84) rfl) (F.ev (x := .const (.bool false)) rfl)) fun a F => ?_)
                      refine mv F rfl fun a F => ?_
                      refine ls (off F fun a F => ?_)
                      refine ls (off F fun a F => ?_)
                      refine ls (off F fun a F => ?_)
                      refine ls (off F fun a F => ?_)
                      refine ls (qv F (r_pickF (F.ev (x := .tmp 90) rfl) (F.ev (x := .const (.bool false)) rfl)) fun a F => ?_)
                      refine as_ F rfl fun a F => ?_
                      refine wpList_nil ?_
                      replace F := F.only [10] (l' := [(10, .bool false)]) rfl
                      try dsimp only at k_12
                      obtain rfl := Option.some.inj k_12
                      exact ⟨_, rfl, F.only [10] rfl, H.px0.fx4.fx3.fx2.fx1.fx0⟩
                  · rw [if_neg c69] at k_12
                    rw [decide_eq_false c69] at F
                    refine ls (off F fun a F => ?_)
                    refine ls (off F fun a F => ?_)
                    refine ls (qv F (r_pickF (F.ev (x := .tmp 67) rfl) (F.ev (x := .const (.bool false)) rfl)) fun a F => ?_)
                    refine ls (qv F (r_beq (F.ev (x := .tmp 64) rfl) (F.ev (x := .tmp 70) rfl) Try.underlying4) fun a F => ?_)
                    refine ls (qv F (r_pickT (F.ev (x := .tmp 62) rfl) (F.ev (x := .tmp 71) rfl)) fun a F => ?_)
                    refine mv F rfl fun a F => ?_
                    by_cases c78 : (x67 == false) = true
                    · rw [if_pos c78] at k_12
                      rw [c78] at F
                      refine ls (qv F (r_ldA (F.ev (x := .tmp 15) rfl) (cel_range (o := 0) (n := 5) (vs := [.int .i64 a0.Gen, .int .i64 a0.Place, .int .i64 a0.Parts, .int .i64 a4, .slice A0_4 a0.Body.length c0_4]) (H.cell 0 rfl) rfl) agg24 rfl) fun a F => ?_)
                      obtain ⟨x79, e80, k_12⟩ := Option.bind_eq_some_iff.1 k_12
                      try dsimp only at k_12
                      refine ls (call F Try.func12 (sector_Right_ok (a0 := (⟨a0.Gen, a0.Place, a0.Parts, a4, a0.Body⟩ : api_Sector)) (H.p0) e80) rfl rfl fun v w hR a F => ?_)
                      obtain ⟨rfl, H⟩ := hR
                      refine mv F rfl fun a F => ?_
                      refine ls (qv F (r_ge (F.ev (x := .tmp 76) rfl) (F.ev (x := .const (.int .i64 0)) rfl)) fun a F => ?_)
                      refine mv F rfl fun a F => ?_
                      by_cases c81 : a4 ≥ 0
                      · rw [if_pos c81] at k_12
                        rw [decide_eq_true c81] at F
                        refine mv F rfl fun a F => ?_
                        refine ls (qv F (r_le (F.ev (x := .tmp 79) rfl) (F.ev (x := .const (.int .i64 1000)) rfl)) fun a F => ?_)
                        refine ls (qv F (r_pickT (F.ev (x := .tmp 78) rfl) (F.ev (x := .tmp 80) rfl)) fun a F => ?_)
                        refine ls (qv F (r_beq (F.ev (x := .tmp 75) rfl) (F.ev (x := .tmp 81) rfl) Try.underlying4) fun a F => ?_)
                        refine ls (qv F (r_pickT (F.ev (x := .tmp 73) rfl) (F.ev (x := .tmp 82) rfl)) fun a F => ?_)
                        refine mv F rfl fun a F => ?_
                        by_cases c82 : ((x79 == (decide (a4 ≤ 1000)))) = true
                        · rw [if_pos c82] at k_12
                          rw [c82] at F
                          refine ls (qv F (r_fa (off := 4) (F.ev (x := .tmp 5) rfl) fa24_4) fun a F => ?_)
                          refine ls (qv F (r_ld (F.ev (x := .tmp 85) rfl) (cel_cell (o := 4) (H.cell 4 rfl) rfl) one22) fun a F => ?_)
                          refine ls (qv F (r_len (F.ev (x := .tmp 86) rfl) Try.underlying22) fun a F => ?_)
                          refine ls (qv F (r_ge (F.ev (x := .tmp 87) rfl) (F.ev (x := .const (.int .i64 1)) rfl)) fun a F => ?_)
                          refine ls (qv F (r_pickT (F.ev (x := .tmp 84) rfl) (F.ev (x := .tmp 88) rfl)) fun a F => ?_)
                          refine mv F rfl fun a F => ?_
                          by_cases c83 : (a0.Body.length : Int) ≥ 1
                          · rw [if_pos c83] at k_12
                            rw [decide_eq_true c83] at F
                            refine ls (qv F (r_fa (off := 4) (F.ev (x := .tmp 5) rfl) fa24_4) fun a F => ?_)
                            refine ls (qv F (r_ld (F.ev (x := .tmp 91) rfl) (cel_cell (o := 4) (H.cell 4 rfl) rfl) one22) fun a F => ?_)
                            refine ls (qv F (r_len (F.ev (x := .tmp 92) rfl) Try.underlying22) fun a F => ?_)
                            refine ls (qv F (r_le (F.ev (x := .tmp 93) rfl) (F.ev (x := .const (.int .i64 50)) rfl)) fun a F => ?_)
                            refine ls (qv F (r_pickT (F.ev (x := .tmp 90) rfl) (F.ev (x := .tmp 94) rfl)) fun a F => ?_)
                            refine as_ F rfl fun a F => ?_
                            refine wpList_nil ?_
                            replace F := F.only [10] (l' := [(10, .bool (decide ((a0.Body.length : Int) ≤ 50)))]) rfl
                            try dsimp only at k_12
                            obtain rfl := Option.some.inj k_12
                            exact ⟨_, rfl, F.only [10] rfl, H.px0.fx4.fx3.fx2.fx1.fx0⟩
                          · rw [if_neg c83] at k_12
                            rw [decide_eq_false c83] at F
                            refine ls (off F fun a F => ?_)
                            refine ls (off F fun a F => ?_)
                            refine ls (off F fun a F => ?_)
                            refine ls (off F fun a F => ?_)
                            refine ls (qv F (r_pickF (F.ev (x := .tmp 90) rfl) (F.ev (x := .const (.bool false)) rfl)) fun a F => ?_)
                            refine as_ F rfl fun a F => ?_
                            refine wpList_nil ?_
                            replace F := F.only [10] (l' := [(10, .bool false)]) rfl
                            try dsimp only at k_12
                            obtain rfl := Option.some.inj k_12
                            exact ⟨_, rfl, F.only [10] rfl, H.px0.fx4.fx3.fx2.fx1.fx0⟩
                        · rw [if_neg c82] at k_12
                          rw [Bool.eq_false_iff.2 c82] at F
                          refine ls (off F fun a F => ?_)
                          refine ls (off F fun a F => ?_)
                          refine ls (off F fun a F => ?_)
                          refine ls (off F fun a F => ?_)
                          refine ls (qv F (r_pickF (F.ev (x := .tmp 84) rfl) (F.ev (x := .const (.bool false)) rfl)) fun a F => ?_)
                          refine mv F rfl fun a F => ?_
                          refine ls (off F fun a F => ?_)
                          refine ls (off F fun a F => ?_)
                          refine ls (off F fun a F => ?_)
                          refine ls (off F fun a F => ?_)
                          refine ls (qv F (r_pickF (F.ev (x := .tmp 90) rfl) (F.ev (x := .const (.bool false)) rfl)) fun a F => ?_)
                          refine as_ F rfl fun a F => ?_
                          refine wpList_nil ?_
                          replace F := F.only [10] (l' := [(10, .bool false)]) rfl
                          try dsimp only at k_12
                          obtain rfl := Option.some.inj k_12
                          exact ⟨_, rfl, F.only [10] rfl, H.px0.fx4.fx3.fx2.fx1.fx0⟩
                      · rw [if_neg c81] at k_12
                        rw [decide_eq_false c81] at F
                        refine ls (off F fun a F => ?_)
                        refine ls (off F fun a F => ?_)
                        refine ls (qv F (r_pickF (F.ev (x := .tmp 78) rfl) (F.ev (x := .const (.bool false)) rfl)) fun a F => ?_)
                        refine ls (qv F (r_beq (F.ev (x := .tmp 75) rfl) (F.ev (x := .tmp 81) rfl) Try.underlying4) fun a F => ?_)
                        refine ls (qv F (r_pickT (F.ev (x := .tmp 73) rfl) (F.ev (x := .tmp 82) rfl)) fun a F => ?_)
                        refine mv F rfl fun a F => ?_
                        by_cases c84 : (x79 == false) = true
                        · rw [if_pos c84] at k_12
                          rw [c84] at F
                          refine ls (qv F (r_fa (off := 4) (F.ev (x := .tmp 5) rfl) fa24_4) fun a F => ?_)
                          refine ls (qv F (r_ld (F.ev (x := .tmp 85) rfl) (cel_cell (o := 4) (H.cell 4 rfl) rfl) one22) fun a F => ?_)
                          refine ls (qv F (r_len (F.ev (x := .tmp 86) rfl) Try.underlying22) fun a F => ?_)
                          refine ls (qv F (r_ge (F.ev (x := .tmp 87) rfl) (F.ev (x := .const (.int .i64 1)) rfl)) fun a F => ?_)
                          refine ls (qv F (r_pickT (F.ev (x := .tmp 84) rfl) (F.ev (x := .tmp 88) rfl)) fun a F => ?_)
                          refine mv F rfl fun a F => ?_
                          by_cases c85 : (a0.Body.length : Int) ≥ 1
                          · rw [if_pos c85] at k_12
                            rw [decide_eq_true c85] at F
                            refine ls (qv F (r_fa (off := 4) (F.ev (x := .tmp 5) rfl) fa24_4) fun a F => ?_)
                            refine ls (qv F (r_ld (F.ev (x := .tmp 91) rfl) (cel_cell (o := 4) (H.cell 4 rfl) rfl) one22) fun a F => ?_)
                            refine ls (qv F (r_len (F.ev (x := .tmp 92) rfl) Try.underlying22) fun a F => ?_)
                            refine ls (qv F (r_le (F.ev (x := .tmp 93) rfl) (F.ev (x := .const (.int .i64 50)) rfl)) fun a F => ?_)
                            refine ls (qv F (r_pickT (F.ev (x := .tmp 90) rfl) (F.ev (x := .tmp 94) rfl)) fun a F => ?_)
                            refine as_ F rfl fun a F => ?_
                            refine wpList_nil ?_
                            replace F := F.only [10] (l' := [(10, .bool (decide ((a0.Body.length : Int) ≤ 50)))]) rfl
                            try dsimp only at k_12
                            obtain rfl := Option.some.inj k_12
                            exact ⟨_, rfl, F.only [10] rfl, H.px0.fx4.fx3.fx2.fx1.fx0⟩
                          · rw [if_neg c85] at k_12
                            rw [decide_eq_false c85] at F
                            refine ls (off F fun a F => ?_)
                            refine ls (off F fun a F => ?_)
                            refine ls (off F fun a F => ?_)
                            refine ls (off F fun a F => ?_)
                            refine ls (qv F (r_pickF (F.ev (x := .tmp 90) rfl) (F.ev (x := .const (.bool false)) rfl)) fun a F => ?_)
                            refine as_ F rfl fun a F => ?_
                            refine wpList_nil ?_
                            replace F := F.only [10] (l' := [(10, .bool false)]) rfl
                            try dsimp only at k_12
                            obtain rfl := Option.some.inj k_12
                            exact ⟨_, rfl, F.only [10] rfl, H.px0.fx4.fx3.fx2.fx1.fx0⟩
                        · rw [if_neg c84] at k_12
                          rw [Bool.eq_false_iff.2 c84] at F
                          refine ls (off F fun a F => ?_)
                          refine ls (off F fun a F => ?_)
                          refine ls (off F fun a F => ?_)
                          refine ls (off F fun a F => ?_)
                          refine ls (qv F (r_pickF (F.ev (x := .tmp 84) rfl) (F.ev (x := .const (.bool false)) rfl)) fun a F => ?_)
                          refine mv F rfl fun a F => ?_
                          refine ls (off F fun a F => ?_)
                          refine ls (off F fun a F => ?_)
                          refine ls (off F fun a F => ?_)
                          refine ls (off F fun a F => ?_)
                          refine ls (qv F (r_pickF (F.ev (x := .tmp 90) rfl) (F.ev (x := .const (.bool false)) rfl)) fun a F => ?_)
                          refine as_ F rfl fun a F => ?_
                          refine wpList_nil ?_
                          replace F := F.only [10] (l' := [(10, .bool false)]) rfl
                          try dsimp only at k_12
                          obtain rfl := Option.some.inj k_12
                          exact ⟨_, rfl, F.only [10] rfl, H.px0.fx4.fx3.fx2.fx1.fx0⟩
                    · rw [if_neg c78] at k_12
                      rw [Bool.eq_false_iff.2 c78] at F
                      refine ls (off F fun a F => ?_)
                      refine ls (off F fun a F => ?_)
                      refine ls (off F fun a F => ?_)
                      refine ls (off F fun a F => ?_)
                      refine ls (off F fun a F => ?_)
                      refine ls (off F fun a F => ?_)
                      refine ls (off F fun a F => ?_)
                      refine ls (off F fun a F => ?_)
                      refine ls (off F fun a F => ?_)
                      refine ls (qv F (r_pickF (F.ev (x := .tmp 73) rfl) (F.ev (x := .const (.bool false)) rfl)) fun a F => ?_)
                      refine mv F rfl fun a F => ?_
                      refine ls (off F fun a F => ?_)
                      refine ls (off F fun a F => ?_)
                      refine ls (off F fun a F => ?_)
                      refine ls (off F fun a F => ?_)
                      refine ls (qv F (r_pickF (F.ev (x := .tmp 84) rfl) (F.ev (x := .const (.bool false)) rfl)) fun a F => ?_)
                      refine mv F rfl fun a F => ?_
                      refine ls (off F fun a F => ?_)
                      refine ls (off F fun a F => ?_)
                      refine ls (off F fun a F => ?_)
                      refine ls (off F fun a F => ?_)
                      refine ls (qv F (r_pickF (F.ev (x := .tmp 90) rfl) (F.ev (x := .const (.bool false)) rfl)) fun a F => ?_)
                      refine as_ F rfl fun a F => ?_
                      refine wpList_nil ?_
                      replace F := F.only [10] (l' := [(10, .bool false)]) rfl
                      try dsimp only at k_12
                      obtain rfl := Option.some.inj k_12
                      exact ⟨_, rfl, F.only [10] rfl, H.px0.fx4.fx3.fx2.fx1.fx0⟩
                · rw [if_neg c66] at k_12
                  rw [Bool.eq_false_iff.2 c66] at F
                  refine ls (off F fun a F => ?_)
                  refine ls (off F fun a F => ?_)
                  refine ls (off F fun a F => ?_)
                  refine ls (off F fun a F => ?_)
                  refine ls (off F fun a F => ?_)
                  refine ls (off F fun a F => ?_)
                  refine ls (off F fun a F => ?_)
                  refine ls (off F fun a F => ?_)
                  refine ls (off F fun a F => ?_)
                  refine ls (qv F (r_pickF (F.ev (x := .tmp 62) rfl) (F.ev (x := .const (.bool false)) rfl)) fun a F => ?_)
                  refine mv F rfl fun a F => ?_
                  refine ls (off F fun a F => ?_)
                  refine ls (off F fun a F => ?_)
                  refine ls (off F fun a F => ?_)
                  refine ls (off F fun a F => ?_)
                  refine ls (off F fun a F => ?_)
                  refine ls (off F fun a F => ?_)
                  refine ls (off F fun a F => ?_)
                  refine ls (off F fun a F => ?_)
                  refine ls (off F fun a F => ?_)
                  refine ls (qv F (r_pickF (F.ev (x := .tmp 73) rfl) (F.ev (x := .const (.bool false)) rfl)) fun a F => ?_)
                  refine mv F rfl fun a F => ?_
                  refine ls (off F fun a F => ?_)
                  refine ls (off F fun a F => ?_)
                  refine ls (off F fun a F => ?_)
                  refine ls (off F fun a F => ?_)
                  refine ls (qv F (r_pickF (F.ev (x := .tmp 84) rfl) (F.ev (x := .const (.bool false)) rfl)) fun a F => ?_)
                  refine mv F rfl fun a F => ?_
                  refine ls (off F fun a F => ?_)
                  refine ls (off F fun a F => ?_)
                  refine ls (off F fun a F => ?_)
                  refine ls (off F fun a F => ?_)
                  refine ls (qv F (r_pickF (F.ev (x := .tmp 90) rfl) (F.ev (x := .const (.bool false)) rfl)) fun a F => ?_)
                  refine as_ F rfl fun a F => ?_
                  refine wpList_nil ?_
                  replace F := F.only [10] (l' := [(10, .bool false)]) rfl
                  try dsimp only at k_12
                  obtain rfl := Option.some.inj k_12
                  exact ⟨_, rfl, F.only [10] rfl, H.px0.fx4.fx3.fx2.fx1.fx0⟩
              · rw [if_neg c65] at k_12
                rw [decide_eq_false c65] at F
                refine ls (off F fun a F => ?_)
                refine ls (off F fun a F => ?_)
                refine ls (qv F (r_pickF (F.ev (x := .tmp 56) rfl) (F.ev (x := .const (.bool false)) rfl)) fun a F => ?_)
                refine ls (qv F (r_beq (F.ev (x := .tmp 53) rfl) (F.ev (x := .tmp 59) rfl) Try.underlying4) fun a F => ?_)
                refine ls (qv F (r_pickT (F.ev (x := .tmp 51) rfl) (F.ev (x := .tmp 60) rfl)) fun a F => ?_)
                refine mv F rfl fun a F => ?_
                by_cases c86 : (x63 == false) = true
                · rw [if_pos c86] at k_12
                  rw [c86] at F
                  refine ls (qv F (r_ldA (F.ev (x := .tmp 14) rfl) (cel_range (o := 0) (n := 5) (vs := [.int .i64 a0.Gen, .int .i64 a0.Place, .int .i64 a3, .int .i64 a0.Kept, .slice A0_4 a0.Body.length c0_4]) (H.cell 1 rfl) rfl) agg24 rfl) fun a F => ?_)
                  obtain ⟨x87, e88, k_12⟩ := Option.bind_eq_some_iff.1 k_12
                  try dsimp only at k_12
                  refine ls (call F Try.func12 (sector_Right_ok (a0 := (⟨a0.Gen, a0.Place, a3, a0.Kept, a0.Body⟩ : api_Sector)) (H.p0) e88) rfl rfl fun v w hR a F => ?_)
                  obtain ⟨rfl, H⟩ := hR
                  refine mv F rfl fun a F => ?_
                  refine ls (qv F (r_ge (F.ev (x := .tmp 65) rfl) (F.ev (x := .const (.int .i64 1)) rfl)) fun a F => ?_)
                  refine mv F rfl fun a F => ?_
                  by_cases c89 : a3 ≥ 1
                  · rw [if_pos c89] at k_12
                    rw [decide_eq_true c89] at F
                    refine mv F rfl fun a F => ?_
                    refine ls (qv F (r_le (F.ev (x := .tmp 68) rfl) (F.ev (x := .const (.int .i64 32)) rfl)) fun a F => ?_)
                    refine ls (qv F (r_pickT (F.ev (x := .tmp 67) rfl) (F.ev (x := .tmp 69) rfl)) fun a F => ?_)
                    refine ls (qv F (r_beq (F.ev (x := .tmp 64) rfl) (F.ev (x := .tmp 70) rfl) Try.underlying4) fun a F => ?_)
                    refine ls (qv F (r_pickT (F.ev (x := .tmp 62) rfl) (F.ev (x := .tmp 71) rfl)) fun a F => ?_)
                    refine mv F rfl fun a F => ?_
                    by_cases c90 : ((x87 == (decide (a3 ≤ 32)))) = true
                    · rw [if_pos c90] at k_12
                      rw [c90] at F
                      refine ls (qv F (r_ldA (F.ev (x := .tmp 15) rfl) (cel_range (o := 0) (n := 5) (vs := [.int .i64 a0.Gen, .int .i64 a0.Place, .int .i64 a0.Parts, .int .i64 a4, .slice A0_4 a0.Body.length c0_4]) (H.cell 0 rfl) rfl) agg24 rfl) fun a F => ?_)
                      obtain ⟨x91, e92, k_12⟩ := Option.bind_eq_some_iff.1 k_12
                      try dsimp only at k_12
                      refine ls (call F Try.func12 (sector_Right_ok (a0 := (⟨a0.Gen, a0.Place, a0.Parts, a4, a0.Body⟩ : api_Sector)) (H.p0) e92) rfl rfl fun v w hR a F => ?_)
                      obtain ⟨rfl, H⟩ := hR
                      refine mv F rfl fun a F => ?_
                      refine ls (qv F (r_ge (F.ev (x := .tmp 76) rfl) (F.ev (x := .const (.int .i64 0)) rfl)) fun a F => ?_)
                      refine mv F rfl fun a F => ?_
                      by_cases c93 : a4 ≥ 0
                      · rw [if_pos c93] at k_12
                        rw [decide_eq_true c93] at F
                        refine mv F rfl fun a F => ?_
                        refine ls (qv F (r_le (F.ev (x := .tmp 79) rfl) (F.ev (x := .const (.int .i64 1000)) rfl)) fun a F => ?_)
                        refine ls (qv F (r_pickT (F.ev (x := .tmp 78) rfl) (F.ev (x := .tmp 80) rfl)) fun a F => ?_)
                        refine ls (qv F (r_beq (F.ev (x := .tmp 75) rfl) (F.ev (x := .tmp 81) rfl) Try.underlying4) fun a F => ?_)
                        refine ls (qv F (r_pickT (F.ev (x := .tmp 73) rfl) (F.ev (x := .tmp 82) rfl)) fun a F => ?_)
                        refine mv F rfl fun a F => ?_
                        by_cases c94 : ((x91 == (decide (a4 ≤ 1000)))) = true
                        · rw [if_pos c94] at k_12
                          rw [c94] at F
                          refine ls (qv F (r_fa (off := 4) (F.ev (x := .tmp 5) rfl) fa24_4) fun a F => ?_)
                          refine ls (qv F (r_ld (F.ev (x := .tmp 85) rfl) (cel_cell (o := 4) (H.cell 4 rfl) rfl) one22) fun a F => ?_)
                          refine ls (qv F (r_len (F.ev (x := .tmp 86) rfl) Try.underlying22) fun a F => ?_)
                          refine ls (qv F (r_ge (F.ev (x := .tmp 87) rfl) (F.ev (x := .const (.int .i64 1)) rfl)) fun a F => ?_)
                          refine ls (qv F (r_pickT (F.ev (x := .tmp 84) rfl) (F.ev (x := .tmp 88) rfl)) fun a F => ?_)
                          refine mv F rfl fun a F => ?_
                          by_cases c95 : (a0.Body.length : Int) ≥ 1
                          · rw [if_pos c95] at k_12
                            rw [decide_eq_true c95] at F
                            refine ls (qv F (r_fa (off := 4) (F.ev (x := .tmp 5) rfl) fa24_4) fun a F => ?_)
                            refine ls (qv F (r_ld (F.ev (x := .tmp 91) rfl) (cel_cell (o := 4) (H.cell 4 rfl) rfl) one22) fun a F => ?_)
                            refine ls (qv F (r_len (F.ev (x := .tmp 92) rfl) Try.underlying22) fun a F => ?_)
                            refine ls (qv F (r_le (F.ev (x := .tmp 93) rfl) (F.ev (x := .const (.int .i64 50)) rfl)) fun a F => ?_)
                            refine ls (qv F (r_pickT (F.ev (x := .tmp 90) rfl) (F.ev (x := .tmp 94) rfl)) fun a F => ?_)
                            refine as_ F rfl fun a F => ?_
                            refine wpList_nil ?_
                            replace F := F.only [10] (l' := [(10, .bool (decide ((a0.Body.length : Int) ≤ 50)))]) rfl
                            try dsimp only at k_12
                            obtain rfl := Option.some.inj k_12
                            exact ⟨_, rfl, F.only [10] rfl, H.px0.fx4.fx3.fx2.fx1.fx0⟩
                          · rw [if_neg c95] at k_12
                            rw [decide_eq_false c95] at F
                            refine ls (off F fun a F => ?_)
                            refine ls (off F fun a F => ?_)
                            refine ls (off F fun a F => ?_)
                            refine ls (off F fun a F => ?_)
                            refine ls (qv F (r_pickF (F.ev (x := .tmp 90) rfl) (F.ev (x := .const (.bool false)) rfl)) fun a F => ?_)
                            refine as_ F rfl fun a F => ?_
                            refine wpList_nil ?_
                            replace F := F.only [10] (l' := [(10, .bool false)]) rfl
                            try dsimp only at k_12
                            obtain rfl := Option.some.inj k_12
                            exact ⟨_, rfl, F.only [10] rfl, H.px0.fx4.fx3.fx2.fx1.fx0⟩
                        · rw [if_neg c94] at k_12
                          rw [Bool.eq_false_iff.2 c94] at F
                          refine ls (off F fun a F => ?_)
                          refine ls (off F fun a F => ?_)
                          refine ls (off F fun a F => ?_)
                          refine ls (off F fun a F => ?_)
                          refine ls (qv F (r_pickF (F.ev (x := .tmp 84) rfl) (F.ev (x := .const (.bool false)) rfl)) fun a F => ?_)
                          refine mv F rfl fun a F => ?_
                          refine ls (off F fun a F => ?_)
                          refine ls (off F fun a F => ?_)
                          refine ls (off F fun a F => ?_)
                          refine ls (off F fun a F => ?_)
                          refine ls (qv F (r_pickF (F.ev (x := .tmp 90) rfl) (F.ev (x := .const (.bool false)) rfl)) fun a F => ?_)
                          refine as_ F rfl fun a F => ?_
                          refine wpList_nil ?_
                          replace F := F.only [10] (l' := [(10, .bool false)]) rfl
                          try dsimp only at k_12
                          obtain rfl := Option.some.inj k_12
                          exact ⟨_, rfl, F.only [10] rfl, H.px0.fx4.fx3.fx2.fx1.fx0⟩
                      · rw [if_neg c93] at k_12
                        rw [decide_eq_false c93] at F
                        refine ls (off F fun a F => ?_)
                        refine ls (off F fun a F => ?_)
                        refine ls (qv F (r_pickF (F.ev (x := .tmp 78) rfl) (F.ev (x := .const (.bool false)) rfl)) fun a F => ?_)
                        refine ls (qv F (r_beq (F.ev (x := .tmp 75) rfl) (F.ev (x := .tmp 81) rfl) Try.underlying4) fun a F => ?_)
                        refine ls (qv F (r_pickT (F.ev (x := .tmp 73) rfl) (F.ev (x := .tmp 82) rfl)) fun a F => ?_)
                        refine mv F rfl fun a F => ?_
                        by_cases c96 : (x91 == false) = true
                        · rw [if_pos c96] at k_12
                          rw [c96] at F
                          refine ls (qv F (r_fa (off := 4) (F.ev (x := .tmp 5) rfl) fa24_4) fun a F => ?_)
                          refine ls (qv F (r_ld (F.ev (x := .tmp 85) rfl) (cel_cell (o := 4) (H.cell 4 rfl) rfl) one22) fun a F => ?_)
                          refine ls (qv F (r_len (F.ev (x := .tmp 86) rfl) Try.underlying22) fun a F => ?_)
                          refine ls (qv F (r_ge (F.ev (x := .tmp 87) rfl) (F.ev (x := .const (.int .i64 1)) rfl)) fun a F => ?_)
                          refine ls (qv F (r_pickT (F.ev (x := .tmp 84) rfl) (F.ev (x := .tmp 88) rfl)) fun a F => ?_)
                          refine mv F rfl fun a F => ?_
                          by_cases c97 : (a0.Body.length : Int) ≥ 1
                          · rw [if_pos c97] at k_12
                            rw [decide_eq_true c97] at F
                            refine ls (qv F (r_fa (off := 4) (F.ev (x := .tmp 5) rfl) fa24_4) fun a F => ?_)
                            refine ls (qv F (r_ld (F.ev (x := .tmp 91) rfl) (cel_cell (o := 4) (H.cell 4 rfl) rfl) one22) fun a F => ?_)
                            refine ls (qv F (r_len (F.ev (x := .tmp 92) rfl) Try.underlying22) fun a F => ?_)
                            refine ls (qv F (r_le (F.ev (x := .tmp 93) rfl) (F.ev (x := .const (.int .i64 50)) rfl)) fun a F => ?_)
                            refine ls (qv F (r_pickT (F.ev (x := .tmp 90) rfl) (F.ev (x := .tmp 94) rfl)) fun a F => ?_)
                            refine as_ F rfl fun a F => ?_
                            refine wpList_nil ?_
                            replace F := F.only [10] (l' := [(10, .bool (decide ((a0.Body.length : Int) ≤ 50)))]) rfl
                            try dsimp only at k_12
                            obtain rfl := Option.some.inj k_12
                            exact ⟨_, rfl, F.only [10] rfl, H.px0.fx4.fx3.fx2.fx1.fx0⟩
                          · rw [if_neg c97] at k_12
                            rw [decide_eq_false c97] at F
                            refine ls (off F fun a F => ?_)
                            refine ls (off F fun a F => ?_)
                            refine ls (off F fun a F => ?_)
                            refine ls (off F fun a F => ?_)
                            refine ls (qv F (r_pickF (F.ev (x := .tmp 90) rfl) (F.ev (x := .const (.bool false)) rfl)) fun a F => ?_)
                            refine as_ F rfl fun a F => ?_
                            refine wpList_nil ?_
                            replace F := F.only [10] (l' := [(10, .bool false)]) rfl
                            try dsimp only at k_12
                            obtain rfl := Option.some.inj k_12
                            exact ⟨_, rfl, F.only [10] rfl, H.px0.fx4.fx3.fx2.fx1.fx0⟩
                        · rw [if_neg c96] at k_12
                          rw [Bool.eq_false_iff.2 c96] at F
                          refine ls (off F fun a F => ?_)
                          refine ls (off F fun a F => ?_)
                          refine ls (off F fun a F => ?_)
                          refine ls (off F fun a F => ?_)
                          refine ls (qv F (r_pickF (F.ev (x := .tmp 84) rfl) (F.ev (x := .const (.bool false)) rfl)) fun a F => ?_)
                          refine mv F rfl fun a F => ?_
                          refine ls (off F fun a F => ?_)
                          refine ls (off F fun a F => ?_)
                          refine ls (off F fun a F => ?_)
                          refine ls (off F fun a F => ?_)
                          refine ls (qv F (r_pickF (F.ev (x := .tmp 90) rfl) (F.ev (x := .const (.bool false)) rfl)) fun a F => ?_)
                          refine as_ F rfl fun a F => ?_
                          refine wpList_nil ?_
                          replace F := F.only [10] (l' := [(10, .bool false)]) rfl
                          try dsimp only at k_12
                          obtain rfl := Option.some.inj k_12
                          exact ⟨_, rfl, F.only [10] rfl, H.px0.fx4.fx3.fx2.fx1.fx0⟩
                    · rw [if_neg c90] at k_12
                      rw [Bool.eq_false_iff.2 c90] at F
                      refine ls (off F fun a F => ?_)
                      refine ls (off F fun a F => ?_)
                      refine ls (off F fun a F => ?_)
                      refine ls (off F fun a F => ?_)
                      refine ls (off F fun a F => ?_)
                      refine ls (off F fun a F => ?_)
                      refine ls (off F fun a F => ?_)
                      refine ls (off F fun a F => ?_)
                      refine ls (off F fun a F => ?_)
                      refine ls (qv F (r_pickF (F.ev (x := .tmp 73) rfl) (F.ev (x := .const (.bool false)) rfl)) fun a F => ?_)
                      refine mv F rfl fun a F => ?_
                      refine ls (off F fun a F => ?_)
                      refine ls (off F fun a F => ?_)
                      refine ls (off F fun a F => ?_)
                      refine ls (off F fun a F => ?_)
                      refine ls (qv F (r_pickF (F.ev (x := .tmp 84) rfl) (F.ev (x := .const (.bool false)) rfl)) fun a F => ?_)
                      refine mv F rfl fun a F => ?_
                      refine ls (off F fun a F => ?_)
                      refine ls (off F fun a F => ?_)
                      refine ls (off F fun a F => ?_)
                      refine ls (off F fun a F => ?_)
                      refine ls (qv F (r_pickF (F.ev (x := .tmp 90) rfl) (F.ev (x := .const (.bool false)) rfl)) fun a F => ?_)
                      refine as_ F rfl fun a F => ?_
                      refine wpList_nil ?_
                      replace F := F.only [10] (l' := [(10, .bool false)]) rfl
                      try dsimp only at k_12
                      obtain rfl := Option.some.inj k_12
                      exact ⟨_, rfl, F.only [10] rfl, H.px0.fx4.fx3.fx2.fx1.fx0⟩
                  · rw [if_neg c89] at k_12
                    rw [decide_eq_false c89] at F
                    refine ls (off F fun a F => ?_)
                    refine ls (off F fun a F => ?_)
                    refine ls (qv F (r_pickF (F.ev (x := .tmp 67) rfl) (F.ev (x := .const (.bool false)) rfl)) fun a F => ?_)
                    refine ls (qv F (r_beq (F.ev (x := .tmp 64) rfl) (F.ev (x := .tmp 70) rfl) Try.underlying4) fun a F => ?_)
                    refine ls (qv F (r_pickT (F.ev (x := .tmp 62) rfl) (F.ev (x := .tmp 71) rfl)) fun a F => ?_)
                    refine mv F rfl fun a F => ?_
                    by_cases c98 : (x87 == false) = true
                    · rw [if_pos c98] at k_12
                      rw [c98] at F
                      refine ls (qv F (r_ldA (F.ev (x := .tmp 15) rfl) (cel_range (o := 0) (n := 5) (vs := [.int .i64 a0.Gen, .int .i64 a0.Place, .int .i64 a0.Parts, .int .i64 a4, .slice A0_4 a0.Body.length c0_4]) (H.cell 0 rfl) rfl) agg24 rfl) fun a F => ?_)
                      obtain ⟨x99, e100, k_12⟩ := Option.bind_eq_some_iff.1 k_12
                      try dsimp only at k_12
                      refine ls (call F Try.func12 (sector_Right_ok (a0 := (⟨a0.Gen, a0.Place, a0.Parts, a4, a0.Body⟩ : api_Sector)) (H.p0) e100) rfl rfl fun v w hR a F => ?_)
                      obtain ⟨rfl, H⟩ := hR
                      refine mv F rfl fun a F => ?_
                      refine ls (qv F (r_ge (F.ev (x := .tmp 76) rfl) (F.ev (x := .const (.int .i64 0)) rfl)) fun a F => ?_)
                      refine mv F rfl fun a F => ?_
                      by_cases c101 : a4 ≥ 0
                      · rw [if_pos c101] at k_12
                        rw [decide_eq_true c101] at F
                        refine mv F rfl fun a F => ?_
                        refine ls (qv F (r_le (F.ev (x := .tmp 79) rfl) (F.ev (x := .const (.int .i64 1000)) rfl)) fun a F => ?_)
                        refine ls (qv F (r_pickT (F.ev (x := .tmp 78) rfl) (F.ev (x := .tmp 80) rfl)) fun a F => ?_)
                        refine ls (qv F (r_beq (F.ev (x := .tmp 75) rfl) (F.ev (x := .tmp 81) rfl) Try.underlying4) fun a F => ?_)
                        refine ls (qv F (r_pickT (F.ev (x := .tmp 73) rfl) (F.ev (x := .tmp 82) rfl)) fun a F => ?_)
                        refine mv F rfl fun a F => ?_
                        by_cases c102 : ((x99 == (decide (a4 ≤ 1000)))) = true
                        · rw [if_pos c102] at k_12
                          rw [c102] at F
                          refine ls (qv F (r_fa (off := 4) (F.ev (x := .tmp 5) rfl) fa24_4) fun a F => ?_)
                          refine ls (qv F (r_ld (F.ev (x := .tmp 85) rfl) (cel_cell (o := 4) (H.cell 4 rfl) rfl) one22) fun a F => ?_)
                          refine ls (qv F (r_len (F.ev (x := .tmp 86) rfl) Try.underlying22) fun a F => ?_)
                          refine ls (qv F (r_ge (F.ev (x := .tmp 87) rfl) (F.ev (x := .const (.int .i64 1)) rfl)) fun a F => ?_)
                          refine ls (qv F (r_pickT (F.ev (x := .tmp 84) rfl) (F.ev (x := .tmp 88) rfl)) fun a F => ?_)
                          refine mv F rfl fun a F => ?_
                          by_cases c103 : (a0.Body.length : Int) ≥ 1
                          · rw [if_pos c103] at k_12
                            rw [decide_eq_true c103] at F
                            refine ls (qv F (r_fa (off := 4) (F.ev (x := .tmp 5) rfl) fa24_4) fun a F => ?_)
                            refine ls (qv F (r_ld (F.ev (x := .tmp 91) rfl) (cel_cell (o := 4) (H.cell 4 rfl) rfl) one22) fun a F => ?_)
                            refine ls (qv F (r_len (F.ev (x := .tmp 92) rfl) Try.underlying22) fun a F => ?_)
                            refine ls (qv F (r_le (F.ev (x := .tmp 93) rfl) (F.ev (x := .const (.int .i64 50)) rfl)) fun a F => ?_)
                            refine ls (qv F (r_pickT (F.ev (x := .tmp 90) rfl) (F.ev (x := .tmp 94) rfl)) fun a F => ?_)
                            refine as_ F rfl fun a F => ?_
                            refine wpList_nil ?_
                            replace F := F.only [10] (l' := [(10, .bool (decide ((a0.Body.length : Int) ≤ 50)))]) rfl
                            try dsimp only at k_12
                            obtain rfl := Option.some.inj k_12
                            exact ⟨_, rfl, F.only [10] rfl, H.px0.fx4.fx3.fx2.fx1.fx0⟩
                          · rw [if_neg c103] at k_12
                            rw [decide_eq_false c103] at F
                            refine ls (off F fun a F => ?_)
                            refine ls (off F fun a F => ?_)
                            refine ls (off F fun a F => ?_)
                            refine ls (off F fun a F => ?_)
                            refine ls (qv F (r_pickF (F.ev (x := .tmp 90) rfl) (F.ev (x := .const (.bool false)) rfl)) fun a F => ?_)
                            refine as_ F rfl fun a F => ?_
                            refine wpList_nil ?_
                            replace F := F.only [10] (l' := [(10, .bool false)]) rfl
                            try dsimp only at k_12
                            obtain rfl := Option.some.inj k_12
                            exact ⟨_, rfl, F.only [10] rfl, H.px0.fx4.fx3.fx2.fx1.fx0⟩
                        · rw [if_neg c102] at k_12
                          rw [Bool.eq_false_iff.2 c102] at F
                          refine ls (off F fun a F => ?_)
                          refine ls (off F fun a F => ?_)
                          refine ls (off F fun a F => ?_)
                          refine ls (off F fun a F => ?_)
                          refine ls (qv F (r_pickF (F.ev (x := .tmp 84) rfl) (F.ev (x := .const (.bool false)) rfl)) fun a F => ?_)
                          refine mv F rfl fun a F => ?_
                          refine ls (off F fun a F => ?_)
                          refine ls (off F fun a F => ?_)
                          refine ls (off F fun a F => ?_)
                          refine ls (off F fun a F => ?_)
                          refine ls (qv F (r_pickF (F.ev (x := .tmp 90) rfl) (F.ev (x := .const (.bool false)) rfl)) fun a F => ?_)
                          refine as_ F rfl fun a F => ?_
                          refine wpList_nil ?_
                          replace F := F.only [10] (l' := [(10, .bool false)]) rfl
                          try dsimp only at k_12
                          obtain rfl := Option.some.inj k_12
                          exact ⟨_, rfl, F.only [10] rfl, H.px0.fx4.fx3.fx2.fx1.fx0⟩
                      · rw [if_neg c101] at k_12
                        rw [decide_eq_false c101] at F
                        refine ls (off F fun a F => ?_)
                        refine ls (off F fun a F => ?_)
                        refine ls (qv F (r_pickF (F.ev (x := .tmp 78) rfl) (F.ev (x := .const (.bool false)) rfl)) fun a F => ?_)
                        refine ls (qv F (r_beq (F.ev (x := .tmp 75) rfl) (F.ev (x := .tmp 81) rfl) Try.underlying4) fun a F => ?_)
                        refine ls (qv F (r_pickT (F.ev (x := .tmp 73) rfl) (F.ev (x := .tmp 82) rfl)) fun a F => ?_)
                        refine mv F rfl fun a F => ?_
                        by_cases c104 : (x99 == false) = true
                        · rw [if_pos c104] at k_12
                          rw [c104] at F
                          refine ls (qv F (r_fa (off := 4) (F.ev (x := .tmp 5) rfl) fa24_4) fun a F => ?_)
                          refine ls (qv F (r_ld (F.ev (x := .tmp 85) rfl) (cel_cell (o := 4) (H.cell 4 rfl) rfl) one22) fun a F => ?_)
                          refine ls (qv F (r_len (F.ev (x := .tmp 86) rfl) Try.underlying22) fun a F => ?_)
                          refine ls (qv F (r_ge (F.ev (x := .tmp 87) rfl) (F.ev (x := .const (.int .i64 1)) rfl)) fun a F => ?_)
                          refine ls (qv F (r_pickT (F.ev (x := .tmp 84) rfl) (F.ev (x := .tmp 88) rfl)) fun a F => ?_)
                          refine mv F rfl fun a F => ?_
                          by_cases c105 : (a0.Body.length : Int) ≥ 1
                          · rw [if_pos c105] at k_12
                            rw [decide_eq_true c105] at F
                            refine ls (qv F (r_fa (off := 4) (F.ev (x := .tmp 5) rfl) fa24_4) fun a F => ?_)
                            refine ls (qv F (r_ld (F.ev (x := .tmp 91) rfl) (cel_cell (o := 4) (H.cell 4 rfl) rfl) one22) fun a F => ?_)
                            refine ls (qv F (r_len (F.ev (x := .tmp 92) rfl) Try.underlying22) fun a F => ?_)
                            refine ls (qv F (r_le (F.ev (x := .tmp 93) rfl) (F.ev (x := .const (.int .i64 50)) rfl)) fun a F => ?_)
                            refine ls (qv F (r_pickT (F.ev (x := .tmp 90) rfl) (F.ev (x := .tmp 94) rfl)) fun a F => ?_)
                            refine as_ F rfl fun a F => ?_
                            refine wpList_nil ?_
                            replace F := F.only [10] (l' := [(10, .bool (decide ((a0.Body.length : Int) ≤ 50)))]) rfl
                            try dsimp only at k_12
                            obtain rfl := Option.some.inj k_12
                            exact ⟨_, rfl, F.only [10] rfl, H.px0.fx4.fx3.fx2.fx1.fx0⟩
                          · rw [if_neg c105] at k_12
                            rw [decide_eq_false c105] at F
                            refine ls (off F fun a F => ?_)
                            refine ls (off F fun a F => ?_)
                            refine ls (off F fun a F => ?_)
                            refine ls (off F fun a F => ?_)
                            refine ls (qv F (r_pickF (F.ev (x := .tmp 90) rfl) (F.ev (x := .const (.bool false)) rfl)) fun a F => ?_)
                            refine as_ F rfl fun a F => ?_
                            refine wpList_nil ?_
                            replace F := F.only [10] (l' := [(10, .bool false)]) rfl
                            try dsimp only at k_12
                            obtain rfl := Option.some.inj k_12
                            exact ⟨_, rfl, F.only [10] rfl, H.px0.fx4.fx3.fx2.fx1.fx0⟩
                        · rw [if_neg c104] at k_12
                          rw [Bool.eq_false_iff.2 c104] at F
                          refine ls (off F fun a F => ?_)
                          refine ls (off F fun a F => ?_)
                          refine ls (off F fun a F => ?_)
                          refine ls (off F fun a F => ?_)
                          refine ls (qv F (r_pickF (F.ev (x := .tmp 84) rfl) (F.ev (x := .const (.bool false)) rfl)) fun a F => ?_)
                          refine mv F rfl fun a F => ?_
                          refine ls (off F fun a F => ?_)
                          refine ls (off F fun a F => ?_)
                          refine ls (off F fun a F => ?_)
                          refine ls (off F fun a F => ?_)
                          refine ls (qv F (r_pickF (F.ev (x := .tmp 90) rfl) (F.ev (x := .const (.bool false)) rfl)) fun a F => ?_)
                          refine as_ F rfl fun a F => ?_
                          refine wpList_nil ?_
                          replace F := F.only [10] (l' := [(10, .bool false)]) rfl
                          try dsimp only at k_12
                          obtain rfl := Option.some.inj k_12
                          exact ⟨_, rfl, F.only [10] rfl, H.px0.fx4.fx3.fx2.fx1.fx0⟩
                    · rw [if_neg c98] at k_12
                      rw [Bool.eq_false_iff.2 c98] at F
                      refine ls (off F fun a F => ?_)
                      refine ls (off F fun a F => ?_)
                      refine ls (off F fun a F => ?_)
                      refine ls (off F fun a F => ?_)
                      refine ls (off F fun a F => ?_)
                      refine ls (off F fun a F => ?_)
                      refine ls (off F fun a F => ?_)
                      refine ls (off F fun a F => ?_)
                      refine ls (off F fun a F => ?_)
                      refine ls (qv F (r_pickF (F.ev (x := .tmp 73) rfl) (F.ev (x := .const (.bool false)) rfl)) fun a F => ?_)
                      refine mv F rfl fun a F => ?_
                      refine ls (off F fun a F => ?_)
                      refine ls (off F fun a F => ?_)
                      refine ls (off F fun a F => ?_)
                      refine ls (off F fun a F => ?_)
                      refine ls (qv F (r_pickF (F.ev (x := .tmp 84) rfl) (F.ev (x := .const (.bool false)) rfl)) fun a F => ?_)
                      refine mv F rfl fun a F => ?_
                      refine ls (off F fun a F => ?_)
                      refine ls (off F fun a F => ?_)
                      refine ls (off F fun a F => ?_)
                      refine ls (off F fun a F => ?_)
                      refine ls (qv F (r_pickF (F.ev (x := .tmp 90) rfl) (F.ev (x := .const (.bool false)) rfl)) fun a F => ?_)
                      refine as_ F rfl fun a F => ?_
                      refine wpList_nil ?_
                      replace F := F.only [10] (l' := [(10, .bool false)]) rfl
                      try dsimp only at k_12
                      obtain rfl := Option.some.inj k_12
                      exact ⟨_, rfl, F.only [10] rfl, H.px0.fx4.fx3.fx2.fx1.fx0⟩
                · rw [if_neg c86] at k_12
                  rw [Bool.eq_false_iff.2 c86] at F
                  refine ls (off F fun a F => ?_)
                  refine ls (off F fun a F => ?_)
                  refine ls (off F fun a F => ?_)
                  refine ls (off F fun a F => ?_)
                  refine ls (off F fun a F => ?_)
                  refine ls (off F fun a F => ?_)
                  refine ls (off F fun a F => ?_)
                  refine ls (off F fun a F => ?_)
                  refine ls (off F fun a F => ?_)
                  refine ls (qv F (r_pickF (F.ev (x := .tmp 62) rfl) (F.ev (x := .const (.bool false)) rfl)) fun a F => ?_)
                  refine mv F rfl fun a F => ?_
                  refine ls (off F fun a F => ?_)
                  refine ls (off F fun a F => ?_)
                  refine ls (off F fun a F => ?_)
                  refine ls (off F fun a F => ?_)
                  refine ls (off F fun a F => ?_)
                  refine ls (off F fun a F => ?_)
                  refine ls (off F fun a F => ?_)
                  refine ls (off F fun a F => ?_)
                  refine ls (off F fun a F => ?_)
                  refine ls (qv F (r_pickF (F.ev (x := .tmp 73) rfl) (F.ev (x := .const (.bool false)) rfl)) fun a F => ?_)
                  refine mv F rfl fun a F => ?_
                  refine ls (off F fun a F => ?_)
                  refine ls (off F fun a F => ?_)
                  refine ls (off F fun a F => ?_)
                  refine ls (off F fun a F => ?_)
                  refine ls (qv F (r_pickF (F.ev (x := .tmp 84) rfl) (F.ev (x := .const (.bool false)) rfl)) fun a F => ?_)
                  refine mv F rfl fun a F => ?_
                  refine ls (off F fun a F => ?_)
                  refine ls (off F fun a F => ?_)
                  refine ls (off F fun a F => ?_)
                  refine ls (off F fun a F => ?_)
                  refine ls (qv F (r_pickF (F.ev (x := .tmp 90) rfl) (F.ev (x := .const (.bool false)) rfl)) fun a F => ?_)
                  refine as_ F rfl fun a F => ?_
                  refine wpList_nil ?_
                  replace F := F.only [10] (l' := [(10, .bool false)]) rfl
                  try dsimp only at k_12
                  obtain rfl := Option.some.inj k_12
                  exact ⟨_, rfl, F.only [10] rfl, H.px0.fx4.fx3.fx2.fx1.fx0⟩
            · rw [if_neg c62] at k_12
              rw [Bool.eq_false_iff.2 c62] at F
              refine ls (off F fun a F => ?_)
              refine ls (off F fun a F => ?_)
              refine ls (off F fun a F => ?_)
              refine ls (off F fun a F => ?_)
              refine ls (off F fun a F => ?_)
              refine ls (off F fun a F => ?_)
              refine ls (off F fun a F => ?_)
              refine ls (off F fun a F => ?_)
              refine ls (off F fun a F => ?_)
              refine ls (qv F (r_pickF (F.ev (x := .tmp 51) rfl) (F.ev (x := .const (.bool false)) rfl)) fun a F => ?_)
              refine mv F rfl fun a F => ?_
              refine ls (off F fun a F => ?_)
              refine ls (off F fun a F => ?_)
              refine ls (off F fun a F => ?_)
              refine ls (off F fun a F => ?_)
              refine ls (off F fun a F => ?_)
              refine ls (off F fun a F => ?_)
              refine ls (off F fun a F => ?_)
              refine ls (off F fun a F => ?_)
              refine ls (off F fun a F => ?_)
              refine ls (qv F (r_pickF (F.ev (x := .tmp 62) rfl) (F.ev (x := .const (.bool false)) rfl)) fun a F => ?_)
              refine mv F rfl fun a F => ?_
              refine ls (off F fun a F => ?_)
              refine ls (off F fun a F => ?_)
              refine ls (off F fun a F => ?_)
              refine ls (off F fun a F => ?_)
              refine ls (off F fun a F => ?_)
              refine ls (off F fun a F => ?_)
              refine ls (off F fun a F => ?_)
              refine ls (off F fun a F => ?_)
              refine ls (off F fun a F => ?_)
              refine ls (qv F (r_pickF (F.ev (x := .tmp 73) rfl) (F.ev (x := .const (.bool false)) rfl)) fun a F => ?_)
              refine mv F rfl fun a F => ?_
              refine ls (off F fun a F => ?_)
              refine ls (off F fun a F => ?_)
              refine ls (off F fun a F => ?_)
              refine ls (off F fun a F => ?_)
              refine ls (qv F (r_pickF (F.ev (x := .tmp 84) rfl) (F.ev (x := .const (.bool false)) rfl)) fun a F => ?_)
              refine mv F rfl fun a F => ?_
              refine ls (off F fun a F => ?_)
              refine ls (off F fun a F => ?_)
              refine ls (off F fun a F => ?_)
              refine ls (off F fun a F => ?_)
              refine ls (qv F (r_pickF (F.ev (x := .tmp 90) rfl) (F.ev (x := .const (.bool false)) rfl)) fun a F => ?_)
              refine as_ F rfl fun a F => ?_
              refine wpList_nil ?_
              replace F := F.only [10] (l' := [(10, .bool false)]) rfl
              try dsimp only at k_12
              obtain rfl := Option.some.inj k_12
              exact ⟨_, rfl, F.only [10] rfl, H.px0.fx4.fx3.fx2.fx1.fx0⟩
        · rw [if_neg c14] at k_12
          rw [Bool.eq_false_iff.2 c14] at F
          refine ls (off F fun a F => ?_)
          refine ls (off F fun a F => ?_)
          refine ls (off F fun a F => ?_)
          refine ls (off F fun a F => ?_)
          refine ls (off F fun a F => ?_)
          refine ls (off F fun a F => ?_)
          refine ls (off F fun a F => ?_)
          refine ls (off F fun a F => ?_)
          refine ls (off F fun a F => ?_)
          refine ls (qv F (r_pickF (F.ev (x := .tmp 40) rfl) (F.ev (x := .const (.bool false)) rfl)) fun a F => ?_)
          refine mv F rfl fun a F => ?_
          refine ls (off F fun a F => ?_)
          refine ls (off F fun a F => ?_)
          refine ls (off F fun a F => ?_)
          refine ls (off F fun a F => ?_)
          refine ls (off F fun a F => ?_)
          refine ls (off F fun a F => ?_)
          refine ls (off F fun a F => ?_)
          refine ls (off F fun a F => ?_)
          refine ls (off F fun a F => ?_)
          refine ls (qv F (r_pickF (F.ev (x := .tmp 51) rfl) (F.ev (x := .const (.bool false)) rfl)) fun a F => ?_)
          refine mv F rfl fun a F => ?_
          refine ls (off F fun a F => ?_)
          refine ls (off F fun a F => ?_)
          refine ls (off F fun a F => ?_)
          refine ls (off F fun a F => ?_)
          refine ls (off F fun a F => ?_)
          refine ls (off F fun a F => ?_)
          refine ls (off F fun a F => ?_)
          refine ls (off F fun a F => ?_)
          refine ls (off F fun a F => ?_)
          refine ls (qv F (r_pickF (F.ev (x := .tmp 62) rfl) (F.ev (x := .const (.bool false)) rfl)) fun a F => ?_)
          refine mv F rfl fun a F => ?_
          refine ls (off F fun a F => ?_)
          refine ls (off F fun a F => ?_)
          refine ls (off F fun a F => ?_)
          refine ls (off F fun a F => ?_)
          refine ls (off F fun a F => ?_)
          refine ls (off F fun a F => ?_)
          refine ls (off F fun a F => ?_)
          refine ls (off F fun a F => ?_)
          refine ls (off F fun a F => ?_)
          refine ls (qv F (r_pickF (F.ev (x := .tmp 73) rfl) (F.ev (x := .const (.bool false)) rfl)) fun a F => ?_)
          refine mv F rfl fun a F => ?_
          refine ls (off F fun a F => ?_)
          refine ls (off F fun a F => ?_)
          refine ls (off F fun a F => ?_)
          refine ls (off F fun a F => ?_)
          refine ls (qv F (r_pickF (F.ev (x := .tmp 84) rfl) (F.ev (x := .const (.bool false)) rfl)) fun a F => ?_)
          refine mv F rfl fun a F => ?_
          refine ls (off F fun a F => ?_)
          refine ls (off F fun a F => ?_)
          refine ls (off F fun a F => ?_)
          refine ls (off F fun a F => ?_)
          refine ls (qv F (r_pickF (F.ev (x := .tmp 90) rfl) (F.ev (x := .const (.bool false)) rfl)) fun a F => ?_)
          refine as_ F rfl fun a F => ?_
          refine wpList_nil ?_
          replace F := F.only [10] (l' := [(10, .bool false)]) rfl
          try dsimp only at k_12
          obtain rfl := Option.some.inj k_12
          exact ⟨_, rfl, F.only [10] rfl, H.px0.fx4.fx3.fx2.fx1.fx0⟩
      · rintro a w ⟨x12, rfl, F, H⟩
        try dsimp only at h F H
        refine wp_ret ?_
        try dsimp only at h
        obtain rfl := Option.some.inj h
        exact RET _ _ (ret1 F rfl rfl ⟨_, rfl, rfl, H⟩)
    · rw [if_neg c7] at h
      rw [Bool.eq_false_iff.2 c7] at F
      refine wp_cond_true (F.ev rfl) ?_
      refine rg ?_
      refine mv F rfl fun a F => ?_
      refine as_ F rfl fun a F => ?_
      refine rgend ?_
      replace F := F.only [10] (l' := [(10, .bool x2)]) rfl
      refine wp_ret ?_
      try dsimp only at h
      obtain rfl := Option.some.inj h
      exact RET _ _ (ret1 F rfl rfl ⟨_, rfl, rfl, H.px0.fx0⟩)
end Go.Proofs.Ytpijdclonniibaa
