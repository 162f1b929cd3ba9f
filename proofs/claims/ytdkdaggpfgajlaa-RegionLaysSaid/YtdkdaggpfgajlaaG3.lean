/- What the functions compute. Printed by wip/gen. -/
import Derived.Test.YtdkdaggpfgajlaaG2
set_option linter.unusedVariables false
set_option linter.unusedSimpArgs false
namespace Go.Proofs.Ytdkdaggpfgajlaa
open Go Go.RowKit
def ref17_sector_f (a0 : ref15_Disk) (a1 : Int) (a2 : Int) (a3 : Int) : Option (api_Sector × Bool) :=
  (if a1 < 0 then some (((⟨0, 0, 0, 0, []⟩ : api_Sector), false)) else (if a1 > 4096 then some (((⟨0, 0, 0, 0, []⟩ : api_Sector), false)) else (if a3 ≥ a2 then some (((⟨0, 0, 0, 0, []⟩ : api_Sector), false)) else (if a3 > 4096 then some (((⟨0, 0, 0, 0, []⟩ : api_Sector), false)) else ((ref15_Disk_Read_f a0 (IntKind.i64.wrap (a1 + a3))).bind fun (x6, x7) => (if x7 ≠ 0 then some (((⟨0, 0, 0, 0, []⟩ : api_Sector), false)) else ((ref16_Get_f x6).bind fun (x12, x13) => some (x12, x13))))))))
set_option maxHeartbeats 4000000 in
set_option maxRecDepth 20000 in
theorem ref17_sector_ok {w0 w : World} {ps : List PF} {fs : List SF} {a0 : ref15_Disk} {g0_ : Nat} {a1 : Int} {a2 : Int} {a3 : Int} {r0 : api_Sector} {r1 : Bool} (H : Hp w0 ps (obj_ref15_Disk g0_ a0 :: fs) w) (h : ref17_sector_f a0 a1 a2 a3 = some (r0, r1)) :
    Calls Try.prog 36 [.pointer (some ⟨g0_, 0, none⟩), .int .i64 a1, .int .i64 a2, .int .i64 a3].toArray w fun e w' => ∃ v, e = .returned v ∧ ∃ (A0_4 : Option Addr) (c0_4 : Nat), v = .tuple #[.agg #[.int .i64 r0.Gen, .int .i64 r0.Place, .int .i64 r0.Parts, .int .i64 r0.Kept, .slice A0_4 r0.Body.length c0_4], .bool r1] ∧ Hp w0 (rd kByte A0_4 c0_4 r0.Body :: ps) (obj_ref15_Disk g0_ a0 :: fs) w' := by
  refine enter [.pointer (some ⟨g0_, 0, none⟩), .int .i64 a1, .int .i64 a2, .int .i64 a3] 48 Try.func36 fun Q a NP RET NRM F => ?_
  replace NP : ∀ c a w, ¬ Q (.panic c) a w := fun c a w h => by rcases NP c a w h with h | ⟨w, v, h, _⟩ <;> cases h
  unfold ref17_sector_f at h
  refine rg ?_
  refine ls (lal F H ti26 (cs := [.int .i64 0, .int .i64 0, .int .i64 0, .int .i64 0, .slice none 0 0]) rfl fun g1 w a H F => ?_)
  refine as_ F (v := .bool false) rfl fun a F => ?_
  refine rgend ?_
  refine wp_seq ?_
  refine rg ?_
  refine mv F rfl fun a F => ?_
  refine ls (qv F (r_lt (F.ev (x := .tmp 14) rfl) (F.ev (x := .const (.int .i64 0)) rfl)) fun a F => ?_)
  refine mv F rfl fun a F => ?_
  by_cases c2 : a1 < 0
  · rw [if_pos c2] at h
    rw [decide_eq_true c2] at F
    refine ls (off F fun a F => ?_)
    refine ls (off F fun a F => ?_)
    refine ls (qv F (r_pickT (F.ev (x := .tmp 16) rfl) (F.ev (x := .const (.bool true)) rfl)) fun a F => ?_)
    refine mv F rfl fun a F => ?_
    refine ls (off F fun a F => ?_)
    refine ls (off F fun a F => ?_)
    refine ls (off F fun a F => ?_)
    refine ls (qv F (r_pickT (F.ev (x := .tmp 20) rfl) (F.ev (x := .const (.bool true)) rfl)) fun a F => ?_)
    refine mv F rfl fun a F => ?_
    refine ls (off F fun a F => ?_)
    refine ls (off F fun a F => ?_)
    refine ls (qv F (r_pickT (F.ev (x := .tmp 25) rfl) (F.ev (x := .const (.bool true)) rfl)) fun a F => ?_)
    refine rgend ?_
    replace F := F.only [28, 8, 0, 1, 3] (l' := [(28, .bool true), (8, .pointer (some ⟨g1, 0, none⟩)), (0, .pointer (some ⟨g0_, 0, none⟩)), (1, .int .i64 a1), (3, .int .i64 a3)]) rfl
    refine wp_cond_true (F.ev rfl) ?_
    refine rg ?_
    refine ls (lbd F (vs := []) (cs := [.int .i64 0, .int .i64 0, .int .i64 0, .int .i64 0, .slice none 0 0]) rfl (fun w => by kernel_rfl) fun a F => ?_)
    obtain ⟨_, hr, H⟩ := Hp.store (t := 26) (o := 0) (n := 5) (vs := [.int .i64 0, .int .i64 0, .int .i64 0, .int .i64 0, .slice none 0 0]) (cs' := [.int .i64 0, .int .i64 0, .int .i64 0, .int .i64 0, .slice none 0 0]) (H) (F.ev (x := .tmp 8) rfl) (F.ev (x := .tmp 29) rfl) rfl sz26 rfl (Nat.le_of_ble_eq_true rfl) rfl rfl
    refine ls (qn F (.inl rfl) (hr _ _ _ _) fun a F => ?_)
    refine as_ F (v := .bool false) rfl fun a F => ?_
    refine rgend ?_
    replace F := F.only [9, 8] (l' := [(9, .bool false), (8, .pointer (some ⟨g1, 0, none⟩))]) rfl
    refine wp_ret ?_
    replace H := H.nilRd kByte
    try dsimp only at h
    obtain ⟨rfl, rfl⟩ := Prod.mk.inj (Option.some.inj h)
    exact RET _ _ (retC2 F rfl rfl rfl (ldvA (cel_range (o := 0) (n := 5) (vs := [.int .i64 0, .int .i64 0, .int .i64 0, .int .i64 0, .slice none 0 0]) (H.cell 0 rfl) rfl) agg26 rfl) ⟨_, rfl, none, 0, rfl, H.fx0⟩)
  · rw [if_neg c2] at h
    rw [decide_eq_false c2] at F
    refine mv F rfl fun a F => ?_
    refine ls (qv F (r_gt (F.ev (x := .tmp 17) rfl) (F.ev (x := .const (.int .i64 4096)) rfl)) fun a F => ?_)
    refine ls (qv F (r_pickF (F.ev (x := .tmp 16) rfl) (F.ev (x := .tmp 18) rfl)) fun a F => ?_)
    refine mv F rfl fun a F => ?_
    by_cases c3 : a1 > 4096
    · rw [if_pos c3] at h
      rw [decide_eq_true c3] at F
      refine ls (off F fun a F => ?_)
      refine ls (off F fun a F => ?_)
      refine ls (off F fun a F => ?_)
      refine ls (qv F (r_pickT (F.ev (x := .tmp 20) rfl) (F.ev (x := .const (.bool true)) rfl)) fun a F => ?_)
      refine mv F rfl fun a F => ?_
      refine ls (off F fun a F => ?_)
      refine ls (off F fun a F => ?_)
      refine ls (qv F (r_pickT (F.ev (x := .tmp 25) rfl) (F.ev (x := .const (.bool true)) rfl)) fun a F => ?_)
      refine rgend ?_
      replace F := F.only [28, 8, 0, 1, 3] (l' := [(28, .bool true), (8, .pointer (some ⟨g1, 0, none⟩)), (0, .pointer (some ⟨g0_, 0, none⟩)), (1, .int .i64 a1), (3, .int .i64 a3)]) rfl
      refine wp_cond_true (F.ev rfl) ?_
      refine rg ?_
      refine ls (lbd F (vs := []) (cs := [.int .i64 0, .int .i64 0, .int .i64 0, .int .i64 0, .slice none 0 0]) rfl (fun w => by kernel_rfl) fun a F => ?_)
      obtain ⟨_, hr, H⟩ := Hp.store (t := 26) (o := 0) (n := 5) (vs := [.int .i64 0, .int .i64 0, .int .i64 0, .int .i64 0, .slice none 0 0]) (cs' := [.int .i64 0, .int .i64 0, .int .i64 0, .int .i64 0, .slice none 0 0]) (H) (F.ev (x := .tmp 8) rfl) (F.ev (x := .tmp 29) rfl) rfl sz26 rfl (Nat.le_of_ble_eq_true rfl) rfl rfl
      refine ls (qn F (.inl rfl) (hr _ _ _ _) fun a F => ?_)
      refine as_ F (v := .bool false) rfl fun a F => ?_
      refine rgend ?_
      replace F := F.only [9, 8] (l' := [(9, .bool false), (8, .pointer (some ⟨g1, 0, none⟩))]) rfl
      refine wp_ret ?_
      replace H := H.nilRd kByte
      try dsimp only at h
      obtain ⟨rfl, rfl⟩ := Prod.mk.inj (Option.some.inj h)
      exact RET _ _ (retC2 F rfl rfl rfl (ldvA (cel_range (o := 0) (n := 5) (vs := [.int .i64 0, .int .i64 0, .int .i64 0, .int .i64 0, .slice none 0 0]) (H.cell 0 rfl) rfl) agg26 rfl) ⟨_, rfl, none, 0, rfl, H.fx0⟩)
    · rw [if_neg c3] at h
      rw [decide_eq_false c3] at F
      refine mv F rfl fun a F => ?_
      refine mv F rfl fun a F => ?_
      refine ls (qv F (r_ge (F.ev (x := .tmp 21) rfl) (F.ev (x := .tmp 22) rfl)) fun a F => ?_)
      refine ls (qv F (r_pickF (F.ev (x := .tmp 20) rfl) (F.ev (x := .tmp 23) rfl)) fun a F => ?_)
      refine mv F rfl fun a F => ?_
      by_cases c4 : a3 ≥ a2
      · rw [if_pos c4] at h
        rw [decide_eq_true c4] at F
        refine ls (off F fun a F => ?_)
        refine ls (off F fun a F => ?_)
        refine ls (qv F (r_pickT (F.ev (x := .tmp 25) rfl) (F.ev (x := .const (.bool true)) rfl)) fun a F => ?_)
        refine rgend ?_
        replace F := F.only [28, 8, 0, 1, 3] (l' := [(28, .bool true), (8, .pointer (some ⟨g1, 0, none⟩)), (0, .pointer (some ⟨g0_, 0, none⟩)), (1, .int .i64 a1), (3, .int .i64 a3)]) rfl
        refine wp_cond_true (F.ev rfl) ?_
        refine rg ?_
        refine ls (lbd F (vs := []) (cs := [.int .i64 0, .int .i64 0, .int .i64 0, .int .i64 0, .slice none 0 0]) rfl (fun w => by kernel_rfl) fun a F => ?_)
        obtain ⟨_, hr, H⟩ := Hp.store (t := 26) (o := 0) (n := 5) (vs := [.int .i64 0, .int .i64 0, .int .i64 0, .int .i64 0, .slice none 0 0]) (cs' := [.int .i64 0, .int .i64 0, .int .i64 0, .int .i64 0, .slice none 0 0]) (H) (F.ev (x := .tmp 8) rfl) (F.ev (x := .tmp 29) rfl) rfl sz26 rfl (Nat.le_of_ble_eq_true rfl) rfl rfl
        refine ls (qn F (.inl rfl) (hr _ _ _ _) fun a F => ?_)
        refine as_ F (v := .bool false) rfl fun a F => ?_
        refine rgend ?_
        replace F := F.only [9, 8] (l' := [(9, .bool false), (8, .pointer (some ⟨g1, 0, none⟩))]) rfl
        refine wp_ret ?_
        replace H := H.nilRd kByte
        try dsimp only at h
        obtain ⟨rfl, rfl⟩ := Prod.mk.inj (Option.some.inj h)
        exact RET _ _ (retC2 F rfl rfl rfl (ldvA (cel_range (o := 0) (n := 5) (vs := [.int .i64 0, .int .i64 0, .int .i64 0, .int .i64 0, .slice none 0 0]) (H.cell 0 rfl) rfl) agg26 rfl) ⟨_, rfl, none, 0, rfl, H.fx0⟩)
      · rw [if_neg c4] at h
        rw [decide_eq_false c4] at F
        refine mv F rfl fun a F => ?_
        refine ls (qv F (r_gt (F.ev (x := .tmp 26) rfl) (F.ev (x := .const (.int .i64 4096)) rfl)) fun a F => ?_)
        refine ls (qv F (r_pickF (F.ev (x := .tmp 25) rfl) (F.ev (x := .tmp 27) rfl)) fun a F => ?_)
        refine rgend ?_
        replace F := F.only [28, 8, 0, 1, 3] (l' := [(28, .bool (decide (a3 > 4096))), (8, .pointer (some ⟨g1, 0, none⟩)), (0, .pointer (some ⟨g0_, 0, none⟩)), (1, .int .i64 a1), (3, .int .i64 a3)]) rfl
        by_cases c5 : a3 > 4096
        · rw [if_pos c5] at h
          rw [decide_eq_true c5] at F
          refine wp_cond_true (F.ev rfl) ?_
          refine rg ?_
          refine ls (lbd F (vs := []) (cs := [.int .i64 0, .int .i64 0, .int .i64 0, .int .i64 0, .slice none 0 0]) rfl (fun w => by kernel_rfl) fun a F => ?_)
          obtain ⟨_, hr, H⟩ := Hp.store (t := 26) (o := 0) (n := 5) (vs := [.int .i64 0, .int .i64 0, .int .i64 0, .int .i64 0, .slice none 0 0]) (cs' := [.int .i64 0, .int .i64 0, .int .i64 0, .int .i64 0, .slice none 0 0]) (H) (F.ev (x := .tmp 8) rfl) (F.ev (x := .tmp 29) rfl) rfl sz26 rfl (Nat.le_of_ble_eq_true rfl) rfl rfl
          refine ls (qn F (.inl rfl) (hr _ _ _ _) fun a F => ?_)
          refine as_ F (v := .bool false) rfl fun a F => ?_
          refine rgend ?_
          replace F := F.only [9, 8] (l' := [(9, .bool false), (8, .pointer (some ⟨g1, 0, none⟩))]) rfl
          refine wp_ret ?_
          replace H := H.nilRd kByte
          try dsimp only at h
          obtain ⟨rfl, rfl⟩ := Prod.mk.inj (Option.some.inj h)
          exact RET _ _ (retC2 F rfl rfl rfl (ldvA (cel_range (o := 0) (n := 5) (vs := [.int .i64 0, .int .i64 0, .int .i64 0, .int .i64 0, .slice none 0 0]) (H.cell 0 rfl) rfl) agg26 rfl) ⟨_, rfl, none, 0, rfl, H.fx0⟩)
        · rw [if_neg c5] at h
          rw [decide_eq_false c5] at F
          refine wp_cond_false (F.ev rfl) ?_
          refine wp_skip ?_
          refine rg ?_
          refine mv F rfl fun a F => ?_
          refine mv F rfl fun a F => ?_
          refine mv F rfl fun a F => ?_
          refine ls (qv F (r_add (F.ev (x := .tmp 32) rfl) (F.ev (x := .tmp 33) rfl)) fun a F => ?_)
          obtain ⟨⟨x6, x7⟩, e8, h⟩ := Option.bind_eq_some_iff.1 h
          try dsimp only at h
          refine ls (call F Try.func57 (ref15_Disk_Read_ok (H.f1) e8) rfl rfl fun v w hR a F => ?_)
          obtain ⟨A9, c10, rfl, H⟩ := hR
          refine mv F rfl fun a F => ?_
          refine ls (qv F (r_ex (F.ev (x := .tmp 30) rfl) rfl) fun a F => ?_)
          refine ls (qv F (r_ex (F.ev (x := .tmp 30) rfl) rfl) fun a F => ?_)
          refine as_ F rfl fun a F => ?_
          refine as_ F rfl fun a F => ?_
          refine rgend ?_
          replace F := F.only [11, 10, 8] (l' := [(11, .int .i64 x7), (10, .slice A9 x6.length c10), (8, .pointer (some ⟨g1, 0, none⟩))]) rfl
          refine wp_seq ?_
          refine rg ?_
          refine mv F rfl fun a F => ?_
          refine ls (qv F (r_ne (F.ev (x := .tmp 38) rfl) (F.ev (x := .const (.int .i64 0)) rfl)) fun a F => ?_)
          refine rgend ?_
          by_cases c11 : x7 ≠ 0
          · rw [if_pos c11] at h
            rw [decide_eq_true c11] at F
            refine wp_cond_true (F.ev rfl) ?_
            refine rg ?_
            refine ls (lbd F (vs := []) (cs := [.int .i64 0, .int .i64 0, .int .i64 0, .int .i64 0, .slice none 0 0]) rfl (fun w => by kernel_rfl) fun a F => ?_)
            obtain ⟨_, hr, H⟩ := Hp.store (t := 26) (o := 0) (n := 5) (vs := [.int .i64 0, .int .i64 0, .int .i64 0, .int .i64 0, .slice none 0 0]) (cs' := [.int .i64 0, .int .i64 0, .int .i64 0, .int .i64 0, .slice none 0 0]) (H.f1.f1.f2) (F.ev (x := .tmp 8) rfl) (F.ev (x := .tmp 40) rfl) rfl sz26 rfl (Nat.le_of_ble_eq_true rfl) rfl rfl
            refine ls (qn F (.inl rfl) (hr _ _ _ _) fun a F => ?_)
            refine as_ F (v := .bool false) rfl fun a F => ?_
            refine rgend ?_
            replace F := F.only [9, 8] (l' := [(9, .bool false), (8, .pointer (some ⟨g1, 0, none⟩))]) rfl
            refine wp_ret ?_
            replace H := H.nilRd kByte
            try dsimp only at h
            obtain ⟨rfl, rfl⟩ := Prod.mk.inj (Option.some.inj h)
            exact RET _ _ (retC2 F rfl rfl rfl (ldvA (cel_range (o := 0) (n := 5) (vs := [.int .i64 0, .int .i64 0, .int .i64 0, .int .i64 0, .slice none 0 0]) (H.cell 0 rfl) rfl) agg26 rfl) ⟨_, rfl, none, 0, rfl, H.fx1.fx0⟩)
          · rw [if_neg c11] at h
            rw [decide_eq_false c11] at F
            refine wp_cond_false (F.ev rfl) ?_
            refine wp_skip ?_
            refine rg ?_
            refine mv F rfl fun a F => ?_
            replace H := (H).freeze
            obtain ⟨⟨x12, x13⟩, e14, h⟩ := Option.bind_eq_some_iff.1 h
            try dsimp only at h
            refine ls (call F Try.func65 (ref16_Get_ok (H.p0) e14) rfl rfl fun v w hR a F => ?_)
            obtain ⟨A15, c16, rfl, H⟩ := hR
            refine mv F rfl fun a F => ?_
            refine ls (qv F (r_ex (F.ev (x := .tmp 41) rfl) rfl) fun a F => ?_)
            refine ls (qv F (r_ex (F.ev (x := .tmp 41) rfl) rfl) fun a F => ?_)
            refine ls (lal F H ti26 (cs := [.int .i64 0, .int .i64 0, .int .i64 0, .int .i64 0, .slice none 0 0]) rfl fun g17 w a H F => ?_)
            obtain ⟨_, hr, H⟩ := Hp.store (t := 26) (o := 0) (n := 5) (vs := [.int .i64 x12.Gen, .int .i64 x12.Place, .int .i64 x12.Parts, .int .i64 x12.Kept, .slice A15 x12.Body.length c16]) (cs' := [.int .i64 x12.Gen, .int .i64 x12.Place, .int .i64 x12.Parts, .int .i64 x12.Kept, .slice A15 x12.Body.length c16]) (H) (F.ev (x := .tmp 12) rfl) (F.ev (x := .tmp 44) rfl) rfl sz26 rfl (Nat.le_of_ble_eq_true rfl) rfl rfl
            refine ls (qn F (.inl rfl) (hr _ _ _ _) fun a F => ?_)
            refine as_ F rfl fun a F => ?_
            refine rgend ?_
            replace F := F.only [13, 12, 8] (l' := [(13, .bool x13), (12, .pointer (some ⟨g17, 0, none⟩)), (8, .pointer (some ⟨g1, 0, none⟩))]) rfl
            refine rg ?_
            refine ls (qv F (r_ldA (F.ev (x := .tmp 12) rfl) (cel_range (o := 0) (n := 5) (vs := [.int .i64 x12.Gen, .int .i64 x12.Place, .int .i64 x12.Parts, .int .i64 x12.Kept, .slice A15 x12.Body.length c16]) (H.cell 0 rfl) rfl) agg26 rfl) fun a F => ?_)
            refine mv F rfl fun a F => ?_
            obtain ⟨_, hr, H⟩ := Hp.store (t := 26) (o := 0) (n := 5) (vs := [.int .i64 x12.Gen, .int .i64 x12.Place, .int .i64 x12.Parts, .int .i64 x12.Kept, .slice A15 x12.Body.length c16]) (cs' := [.int .i64 x12.Gen, .int .i64 x12.Place, .int .i64 x12.Parts, .int .i64 x12.Kept, .slice A15 x12.Body.length c16]) (H.f1.f1.f2) (F.ev (x := .tmp 8) rfl) (F.ev (x := .tmp 46) rfl) rfl sz26 rfl (Nat.le_of_ble_eq_true rfl) rfl rfl
            refine ls (qn F (.inl rfl) (hr _ _ _ _) fun a F => ?_)
            refine as_ F rfl fun a F => ?_
            refine rgend ?_
            replace F := F.only [9, 8] (l' := [(9, .bool x13), (8, .pointer (some ⟨g1, 0, none⟩))]) rfl
            refine wp_ret ?_
            try dsimp only at h
            obtain ⟨rfl, rfl⟩ := Prod.mk.inj (Option.some.inj h)
            exact RET _ _ (retC2 F rfl rfl rfl (ldvA (cel_range (o := 0) (n := 5) (vs := [.int .i64 x12.Gen, .int .i64 x12.Place, .int .i64 x12.Parts, .int .i64 x12.Kept, .slice A15 x12.Body.length c16]) (H.cell 0 rfl) rfl) agg26 rfl) ⟨_, rfl, A15, c16, rfl, H.px1.fx1.fx0⟩)
def ref17_like_f (a0 : ref15_Disk) (a1 : Int) (a2 : Int) (a3 : Int) (a4 : api_Sector) : Option (api_Sector × Bool) :=
  ((ref17_sector_f a0 a1 a2 a3).bind fun (x3, x4) => (if x4 = true then (if x3.Place ≠ a3 then some (((⟨0, 0, 0, 0, []⟩ : api_Sector), false)) else (if x3.Gen ≠ a4.Gen then some (((⟨0, 0, 0, 0, []⟩ : api_Sector), false)) else (if x3.Parts ≠ a4.Parts then some (((⟨0, 0, 0, 0, []⟩ : api_Sector), false)) else (if x3.Kept ≠ a4.Kept then some (((⟨0, 0, 0, 0, []⟩ : api_Sector), false)) else some (x3, true))))) else some (((⟨0, 0, 0, 0, []⟩ : api_Sector), false))))
set_option maxHeartbeats 4000000 in
set_option maxRecDepth 20000 in
theorem ref17_like_ok {w0 w : World} {ps : List PF} {fs : List SF} {a0 : ref15_Disk} {g0_ : Nat} {a1 : Int} {a2 : Int} {a3 : Int} {a4 : api_Sector} {A4_4 : Option Addr} {c4_4 : Nat} {r0 : api_Sector} {r1 : Bool} (H : Hp w0 (rd kByte A4_4 c4_4 a4.Body :: ps) (obj_ref15_Disk g0_ a0 :: fs) w) (h : ref17_like_f a0 a1 a2 a3 a4 = some (r0, r1)) :
    Calls Try.prog 37 [.pointer (some ⟨g0_, 0, none⟩), .int .i64 a1, .int .i64 a2, .int .i64 a3, .agg #[.int .i64 a4.Gen, .int .i64 a4.Place, .int .i64 a4.Parts, .int .i64 a4.Kept, .slice A4_4 a4.Body.length c4_4]].toArray w fun e w' => ∃ v, e = .returned v ∧ ∃ (A0_4 : Option Addr) (c0_4 : Nat), v = .tuple #[.agg #[.int .i64 r0.Gen, .int .i64 r0.Place, .int .i64 r0.Parts, .int .i64 r0.Kept, .slice A0_4 r0.Body.length c0_4], .bool r1] ∧ Hp w0 (rd kByte A0_4 c0_4 r0.Body :: ps) (obj_ref15_Disk g0_ a0 :: fs) w' := by
  refine enter [.pointer (some ⟨g0_, 0, none⟩), .int .i64 a1, .int .i64 a2, .int .i64 a3, .agg #[.int .i64 a4.Gen, .int .i64 a4.Place, .int .i64 a4.Parts, .int .i64 a4.Kept, .slice A4_4 a4.Body.length c4_4]] 53 Try.func37 fun Q a NP RET NRM F => ?_
  replace NP : ∀ c a w, ¬ Q (.panic c) a w := fun c a w h => by rcases NP c a w h with h | ⟨w, v, h, _⟩ <;> cases h
  unfold ref17_like_f at h
  refine rg ?_
  refine ls (lbox F H rfl (cs := [.int .i64 a4.Gen, .int .i64 a4.Place, .int .i64 a4.Parts, .int .i64 a4.Kept, .slice A4_4 a4.Body.length c4_4]) rfl fun g1 w a H F => ?_)
  refine ls (lal F H ti26 (cs := [.int .i64 0, .int .i64 0, .int .i64 0, .int .i64 0, .slice none 0 0]) rfl fun g2 w a H F => ?_)
  refine as_ F (v := .bool false) rfl fun a F => ?_
  refine rgend ?_
  refine rg ?_
  refine mv F rfl fun a F => ?_
  refine mv F rfl fun a F => ?_
  refine mv F rfl fun a F => ?_
  refine mv F rfl fun a F => ?_
  obtain ⟨⟨x3, x4⟩, e5, h⟩ := Option.bind_eq_some_iff.1 h
  try dsimp only at h
  refine ls (call F Try.func36 (ref17_sector_ok (H.f1.f1.f2) e5) rfl rfl fun v w hR a F => ?_)
  obtain ⟨A6, c7, rfl, H⟩ := hR
  refine mv F rfl fun a F => ?_
  refine ls (qv F (r_ex (F.ev (x := .tmp 14) rfl) rfl) fun a F => ?_)
  refine ls (qv F (r_ex (F.ev (x := .tmp 14) rfl) rfl) fun a F => ?_)
  refine ls (lal F H ti26 (cs := [.int .i64 0, .int .i64 0, .int .i64 0, .int .i64 0, .slice none 0 0]) rfl fun g8 w a H F => ?_)
  obtain ⟨_, hr, H⟩ := Hp.store (t := 26) (o := 0) (n := 5) (vs := [.int .i64 x3.Gen, .int .i64 x3.Place, .int .i64 x3.Parts, .int .i64 x3.Kept, .slice A6 x3.Body.length c7]) (cs' := [.int .i64 x3.Gen, .int .i64 x3.Place, .int .i64 x3.Parts, .int .i64 x3.Kept, .slice A6 x3.Body.length c7]) (H) (F.ev (x := .tmp 12) rfl) (F.ev (x := .tmp 20) rfl) rfl sz26 rfl (Nat.le_of_ble_eq_true rfl) rfl rfl
  refine ls (qn F (.inl rfl) (hr _ _ _ _) fun a F => ?_)
  refine as_ F rfl fun a F => ?_
  refine rgend ?_
  replace F := F.only [13, 12, 10, 9, 3] (l' := [(13, .bool x4), (12, .pointer (some ⟨g8, 0, none⟩)), (10, .pointer (some ⟨g2, 0, none⟩)), (9, .pointer (some ⟨g1, 0, none⟩)), (3, .int .i64 a3)]) rfl
  refine wp_seq ?_
  refine rg ?_
  refine mv F rfl fun a F => ?_
  refine ls (qv F (r_not (F.ev (x := .tmp 22) rfl)) fun a F => ?_)
  refine mv F rfl fun a F => ?_
  by_cases c9 : x4 = true
  · rw [if_pos c9] at h
    rw [c9] at F
    refine ls (qv F (r_fa (off := 1) (F.ev (x := .tmp 12) rfl) fa26_1) fun a F => ?_)
    refine ls (qv F (r_ld (F.ev (x := .tmp 25) rfl) (cel_cell (o := 1) (H.cell 0 rfl) rfl) one3) fun a F => ?_)
    refine mv F rfl fun a F => ?_
    refine ls (qv F (r_ne (F.ev (x := .tmp 26) rfl) (F.ev (x := .tmp 27) rfl)) fun a F => ?_)
    refine ls (qv F (r_pickF (F.ev (x := .tmp 24) rfl) (F.ev (x := .tmp 28) rfl)) fun a F => ?_)
    refine mv F rfl fun a F => ?_
    by_cases c10 : x3.Place ≠ a3
    · rw [if_pos c10] at h
      rw [decide_eq_true c10] at F
      refine ls (off F fun a F => ?_)
      refine ls (off F fun a F => ?_)
      refine ls (off F fun a F => ?_)
      refine ls (off F fun a F => ?_)
      refine ls (off F fun a F => ?_)
      refine ls (qv F (r_pickT (F.ev (x := .tmp 30) rfl) (F.ev (x := .const (.bool true)) rfl)) fun a F => ?_)
      refine mv F rfl fun a F => ?_
      refine ls (off F fun a F => ?_)
      refine ls (off F fun a F => ?_)
      refine ls (off F fun a F => ?_)
      refine ls (off F fun a F => ?_)
      refine ls (off F fun a F => ?_)
      refine ls (qv F (r_pickT (F.ev (x := .tmp 37) rfl) (F.ev (x := .const (.bool true)) rfl)) fun a F => ?_)
      refine mv F rfl fun a F => ?_
      refine ls (off F fun a F => ?_)
      refine ls (off F fun a F => ?_)
      refine ls (off F fun a F => ?_)
      refine ls (off F fun a F => ?_)
      refine ls (off F fun a F => ?_)
      refine ls (qv F (r_pickT (F.ev (x := .tmp 44) rfl) (F.ev (x := .const (.bool true)) rfl)) fun a F => ?_)
      refine rgend ?_
      replace F := F.only [50, 12, 10] (l' := [(50, .bool true), (12, .pointer (some ⟨g8, 0, none⟩)), (10, .pointer (some ⟨g2, 0, none⟩))]) rfl
      refine wp_cond_true (F.ev rfl) ?_
      refine rg ?_
      refine ls (lbd F (vs := []) (cs := [.int .i64 0, .int .i64 0, .int .i64 0, .int .i64 0, .slice none 0 0]) rfl (fun w => by kernel_rfl) fun a F => ?_)
      obtain ⟨_, hr, H⟩ := Hp.store (t := 26) (o := 0) (n := 5) (vs := [.int .i64 0, .int .i64 0, .int .i64 0, .int .i64 0, .slice none 0 0]) (cs' := [.int .i64 0, .int .i64 0, .int .i64 0, .int .i64 0, .slice none 0 0]) (H.f3.f2.f2.f3) (F.ev (x := .tmp 10) rfl) (F.ev (x := .tmp 51) rfl) rfl sz26 rfl (Nat.le_of_ble_eq_true rfl) rfl rfl
      refine ls (qn F (.inl rfl) (hr _ _ _ _) fun a F => ?_)
      refine as_ F (v := .bool false) rfl fun a F => ?_
      refine rgend ?_
      refine wp_ret ?_
      replace H := H.nilRd kByte
      try dsimp only at h
      obtain ⟨rfl, rfl⟩ := Prod.mk.inj (Option.some.inj h)
      exact RET _ _ (retC2 F rfl rfl rfl (ldvA (cel_range (o := 0) (n := 5) (vs := [.int .i64 0, .int .i64 0, .int .i64 0, .int .i64 0, .slice none 0 0]) (H.cell 0 rfl) rfl) agg26 rfl) ⟨_, rfl, none, 0, rfl, H.px2.px1.fx3.fx1.fx0⟩)
    · rw [if_neg c10] at h
      rw [decide_eq_false c10] at F
      refine ls (qv F (r_fa (off := 0) (F.ev (x := .tmp 12) rfl) fa26_0) fun a F => ?_)
      refine ls (qv F (r_ld (F.ev (x := .tmp 31) rfl) (cel_cell (o := 0) (H.cell 0 rfl) rfl) one2) fun a F => ?_)
      refine ls (qv F (r_fa (off := 0) (F.ev (x := .tmp 9) rfl) fa26_0) fun a F => ?_)
      refine ls (qv F (r_ld (F.ev (x := .tmp 33) rfl) (cel_cell (o := 0) (H.cell 3 rfl) rfl) one2) fun a F => ?_)
      refine ls (qv F (r_ne (F.ev (x := .tmp 32) rfl) (F.ev (x := .tmp 34) rfl)) fun a F => ?_)
      refine ls (qv F (r_pickF (F.ev (x := .tmp 30) rfl) (F.ev (x := .tmp 35) rfl)) fun a F => ?_)
      refine mv F rfl fun a F => ?_
      by_cases c11 : x3.Gen ≠ a4.Gen
      · rw [if_pos c11] at h
        rw [decide_eq_true c11] at F
        refine ls (off F fun a F => ?_)
        refine ls (off F fun a F => ?_)
        refine ls (off F fun a F => ?_)
        refine ls (off F fun a F => ?_)
        refine ls (off F fun a F => ?_)
        refine ls (qv F (r_pickT (F.ev (x := .tmp 37) rfl) (F.ev (x := .const (.bool true)) rfl)) fun a F => ?_)
        refine mv F rfl fun a F => ?_
        refine ls (off F fun a F => ?_)
        refine ls (off F fun a F => ?_)
        refine ls (off F fun a F => ?_)
        refine ls (off F fun a F => ?_)
        refine ls (off F fun a F => ?_)
        refine ls (qv F (r_pickT (F.ev (x := .tmp 44) rfl) (F.ev (x := .const (.bool true)) rfl)) fun a F => ?_)
        refine rgend ?_
        replace F := F.only [50, 12, 10] (l' := [(50, .bool true), (12, .pointer (some ⟨g8, 0, none⟩)), (10, .pointer (some ⟨g2, 0, none⟩))]) rfl
        refine wp_cond_true (F.ev rfl) ?_
        refine rg ?_
        refine ls (lbd F (vs := []) (cs := [.int .i64 0, .int .i64 0, .int .i64 0, .int .i64 0, .slice none 0 0]) rfl (fun w => by kernel_rfl) fun a F => ?_)
        obtain ⟨_, hr, H⟩ := Hp.store (t := 26) (o := 0) (n := 5) (vs := [.int .i64 0, .int .i64 0, .int .i64 0, .int .i64 0, .slice none 0 0]) (cs' := [.int .i64 0, .int .i64 0, .int .i64 0, .int .i64 0, .slice none 0 0]) (H.f3.f2.f2.f3) (F.ev (x := .tmp 10) rfl) (F.ev (x := .tmp 51) rfl) rfl sz26 rfl (Nat.le_of_ble_eq_true rfl) rfl rfl
        refine ls (qn F (.inl rfl) (hr _ _ _ _) fun a F => ?_)
        refine as_ F (v := .bool false) rfl fun a F => ?_
        refine rgend ?_
        refine wp_ret ?_
        replace H := H.nilRd kByte
        try dsimp only at h
        obtain ⟨rfl, rfl⟩ := Prod.mk.inj (Option.some.inj h)
        exact RET _ _ (retC2 F rfl rfl rfl (ldvA (cel_range (o := 0) (n := 5) (vs := [.int .i64 0, .int .i64 0, .int .i64 0, .int .i64 0, .slice none 0 0]) (H.cell 0 rfl) rfl) agg26 rfl) ⟨_, rfl, none, 0, rfl, H.px2.px1.fx3.fx1.fx0⟩)
      · rw [if_neg c11] at h
        rw [decide_eq_false c11] at F
        refine ls (qv F (r_fa (off := 2) (F.ev (x := .tmp 12) rfl) fa26_2) fun a F => ?_)
        refine ls (qv F (r_ld (F.ev (x := .tmp 38) rfl) (cel_cell (o := 2) (H.cell 0 rfl) rfl) one3) fun a F => ?_)
        refine ls (qv F (r_fa (off := 2) (F.ev (x := .tmp 9) rfl) fa26_2) fun a F => ?_)
        refine ls (qv F (r_ld (F.ev (x := .tmp 40) rfl) (cel_cell (o := 2) (H.cell 3 rfl) rfl) one3) fun a F => ?_)
        refine ls (qv F (r_ne (F.ev (x := .tmp 39) rfl) (F.ev (x := .tmp 41) rfl)) fun a F => ?_)
        refine ls (qv F (r_pickF (F.ev (x := .tmp 37) rfl) (F.ev (x := .tmp 42) rfl)) fun a F => ?_)
        refine mv F rfl fun a F => ?_
        by_cases c12 : x3.Parts ≠ a4.Parts
        · rw [if_pos c12] at h
          rw [decide_eq_true c12] at F
          refine ls (off F fun a F => ?_)
          refine ls (off F fun a F => ?_)
          refine ls (off F fun a F => ?_)
          refine ls (off F fun a F => ?_)
          refine ls (off F fun a F => ?_)
          refine ls (qv F (r_pickT (F.ev (x := .tmp 44) rfl) (F.ev (x := .const (.bool true)) rfl)) fun a F => ?_)
          refine rgend ?_
          replace F := F.only [50, 12, 10] (l' := [(50, .bool true), (12, .pointer (some ⟨g8, 0, none⟩)), (10, .pointer (some ⟨g2, 0, none⟩))]) rfl
          refine wp_cond_true (F.ev rfl) ?_
          refine rg ?_
          refine ls (lbd F (vs := []) (cs := [.int .i64 0, .int .i64 0, .int .i64 0, .int .i64 0, .slice none 0 0]) rfl (fun w => by kernel_rfl) fun a F => ?_)
          obtain ⟨_, hr, H⟩ := Hp.store (t := 26) (o := 0) (n := 5) (vs := [.int .i64 0, .int .i64 0, .int .i64 0, .int .i64 0, .slice none 0 0]) (cs' := [.int .i64 0, .int .i64 0, .int .i64 0, .int .i64 0, .slice none 0 0]) (H.f3.f2.f2.f3) (F.ev (x := .tmp 10) rfl) (F.ev (x := .tmp 51) rfl) rfl sz26 rfl (Nat.le_of_ble_eq_true rfl) rfl rfl
          refine ls (qn F (.inl rfl) (hr _ _ _ _) fun a F => ?_)
          refine as_ F (v := .bool false) rfl fun a F => ?_
          refine rgend ?_
          refine wp_ret ?_
          replace H := H.nilRd kByte
          try dsimp only at h
          obtain ⟨rfl, rfl⟩ := Prod.mk.inj (Option.some.inj h)
          exact RET _ _ (retC2 F rfl rfl rfl (ldvA (cel_range (o := 0) (n := 5) (vs := [.int .i64 0, .int .i64 0, .int .i64 0, .int .i64 0, .slice none 0 0]) (H.cell 0 rfl) rfl) agg26 rfl) ⟨_, rfl, none, 0, rfl, H.px2.px1.fx3.fx1.fx0⟩)
        · rw [if_neg c12] at h
          rw [decide_eq_false c12] at F
          refine ls (qv F (r_fa (off := 3) (F.ev (x := .tmp 12) rfl) fa26_3) fun a F => ?_)
          refine ls (qv F (r_ld (F.ev (x := .tmp 45) rfl) (cel_cell (o := 3) (H.cell 0 rfl) rfl) one3) fun a F => ?_)
          refine ls (qv F (r_fa (off := 3) (F.ev (x := .tmp 9) rfl) fa26_3) fun a F => ?_)
          refine ls (qv F (r_ld (F.ev (x := .tmp 47) rfl) (cel_cell (o := 3) (H.cell 3 rfl) rfl) one3) fun a F => ?_)
          refine ls (qv F (r_ne (F.ev (x := .tmp 46) rfl) (F.ev (x := .tmp 48) rfl)) fun a F => ?_)
          refine ls (qv F (r_pickF (F.ev (x := .tmp 44) rfl) (F.ev (x := .tmp 49) rfl)) fun a F => ?_)
          refine rgend ?_
          replace F := F.only [50, 12, 10] (l' := [(50, .bool (decide (x3.Kept ≠ a4.Kept))), (12, .pointer (some ⟨g8, 0, none⟩)), (10, .pointer (some ⟨g2, 0, none⟩))]) rfl
          by_cases c13 : x3.Kept ≠ a4.Kept
          · rw [if_pos c13] at h
            rw [decide_eq_true c13] at F
            refine wp_cond_true (F.ev rfl) ?_
            refine rg ?_
            refine ls (lbd F (vs := []) (cs := [.int .i64 0, .int .i64 0, .int .i64 0, .int .i64 0, .slice none 0 0]) rfl (fun w => by kernel_rfl) fun a F => ?_)
            obtain ⟨_, hr, H⟩ := Hp.store (t := 26) (o := 0) (n := 5) (vs := [.int .i64 0, .int .i64 0, .int .i64 0, .int .i64 0, .slice none 0 0]) (cs' := [.int .i64 0, .int .i64 0, .int .i64 0, .int .i64 0, .slice none 0 0]) (H.f3.f2.f2.f3) (F.ev (x := .tmp 10) rfl) (F.ev (x := .tmp 51) rfl) rfl sz26 rfl (Nat.le_of_ble_eq_true rfl) rfl rfl
            refine ls (qn F (.inl rfl) (hr _ _ _ _) fun a F => ?_)
            refine as_ F (v := .bool false) rfl fun a F => ?_
            refine rgend ?_
            refine wp_ret ?_
            replace H := H.nilRd kByte
            try dsimp only at h
            obtain ⟨rfl, rfl⟩ := Prod.mk.inj (Option.some.inj h)
            exact RET _ _ (retC2 F rfl rfl rfl (ldvA (cel_range (o := 0) (n := 5) (vs := [.int .i64 0, .int .i64 0, .int .i64 0, .int .i64 0, .slice none 0 0]) (H.cell 0 rfl) rfl) agg26 rfl) ⟨_, rfl, none, 0, rfl, H.px2.px1.fx3.fx1.fx0⟩)
          · rw [if_neg c13] at h
            rw [decide_eq_false c13] at F
            refine wp_cond_false (F.ev rfl) ?_
            refine wp_skip ?_
            refine rg ?_
            refine ls (qv F (r_ldA (F.ev (x := .tmp 12) rfl) (cel_range (o := 0) (n := 5) (vs := [.int .i64 x3.Gen, .int .i64 x3.Place, .int .i64 x3.Parts, .int .i64 x3.Kept, .slice A6 x3.Body.length c7]) (H.cell 0 rfl) rfl) agg26 rfl) fun a F => ?_)
            obtain ⟨_, hr, H⟩ := Hp.store (t := 26) (o := 0) (n := 5) (vs := [.int .i64 x3.Gen, .int .i64 x3.Place, .int .i64 x3.Parts, .int .i64 x3.Kept, .slice A6 x3.Body.length c7]) (cs' := [.int .i64 x3.Gen, .int .i64 x3.Place, .int .i64 x3.Parts, .int .i64 x3.Kept, .slice A6 x3.Body.length c7]) (H.f3.f2.f2.f3) (F.ev (x := .tmp 10) rfl) (F.ev (x := .tmp 52) rfl) rfl sz26 rfl (Nat.le_of_ble_eq_true rfl) rfl rfl
            refine ls (qn F (.inl rfl) (hr _ _ _ _) fun a F => ?_)
            refine as_ F (v := .bool true) rfl fun a F => ?_
            refine rgend ?_
            refine wp_ret ?_
            try dsimp only at h
            obtain ⟨rfl, rfl⟩ := Prod.mk.inj (Option.some.inj h)
            exact RET _ _ (retC2 F rfl rfl rfl (ldvA (cel_range (o := 0) (n := 5) (vs := [.int .i64 x3.Gen, .int .i64 x3.Place, .int .i64 x3.Parts, .int .i64 x3.Kept, .slice A6 x3.Body.length c7]) (H.cell 0 rfl) rfl) agg26 rfl) ⟨_, rfl, A6, c7, rfl, H.px1.fx3.fx1.fx0⟩)
  · rw [if_neg c9] at h
    rw [Bool.eq_false_iff.2 c9] at F
    refine ls (off F fun a F => ?_)
    refine ls (off F fun a F => ?_)
    refine ls (off F fun a F => ?_)
    refine ls (off F fun a F => ?_)
    refine ls (qv F (r_pickT (F.ev (x := .tmp 24) rfl) (F.ev (x := .const (.bool true)) rfl)) fun a F => ?_)
    refine mv F rfl fun a F => ?_
    refine ls (off F fun a F => ?_)
    refine ls (off F fun a F => ?_)
    refine ls (off F fun a F => ?_)
    refine ls (off F fun a F => ?_)
    refine ls (off F fun a F => ?_)
    refine ls (qv F (r_pickT (F.ev (x := .tmp 30) rfl) (F.ev (x := .const (.bool true)) rfl)) fun a F => ?_)
    refine mv F rfl fun a F => ?_
    refine ls (off F fun a F => ?_)
    refine ls (off F fun a F => ?_)
    refine ls (off F fun a F => ?_)
    refine ls (off F fun a F => ?_)
    refine ls (off F fun a F => ?_)
    refine ls (qv F (r_pickT (F.ev (x := .tmp 37) rfl) (F.ev (x := .const (.bool true)) rfl)) fun a F => ?_)
    refine mv F rfl fun a F => ?_
    refine ls (off F fun a F => ?_)
    refine ls (off F fun a F => ?_)
    refine ls (off F fun a F => ?_)
    refine ls (off F fun a F => ?_)
    refine ls (off F fun a F => ?_)
    refine ls (qv F (r_pickT (F.ev (x := .tmp 44) rfl) (F.ev (x := .const (.bool true)) rfl)) fun a F => ?_)
    refine rgend ?_
    replace F := F.only [50, 12, 10] (l' := [(50, .bool true), (12, .pointer (some ⟨g8, 0, none⟩)), (10, .pointer (some ⟨g2, 0, none⟩))]) rfl
    refine wp_cond_true (F.ev rfl) ?_
    refine rg ?_
    refine ls (lbd F (vs := []) (cs := [.int .i64 0, .int .i64 0, .int .i64 0, .int .i64 0, .slice none 0 0]) rfl (fun w => by kernel_rfl) fun a F => ?_)
    obtain ⟨_, hr, H⟩ := Hp.store (t := 26) (o := 0) (n := 5) (vs := [.int .i64 0, .int .i64 0, .int .i64 0, .int .i64 0, .slice none 0 0]) (cs' := [.int .i64 0, .int .i64 0, .int .i64 0, .int .i64 0, .slice none 0 0]) (H.f3.f2.f2.f3) (F.ev (x := .tmp 10) rfl) (F.ev (x := .tmp 51) rfl) rfl sz26 rfl (Nat.le_of_ble_eq_true rfl) rfl rfl
    refine ls (qn F (.inl rfl) (hr _ _ _ _) fun a F => ?_)
    refine as_ F (v := .bool false) rfl fun a F => ?_
    refine rgend ?_
    refine wp_ret ?_
    replace H := H.nilRd kByte
    try dsimp only at h
    obtain ⟨rfl, rfl⟩ := Prod.mk.inj (Option.some.inj h)
    exact RET _ _ (retC2 F rfl rfl rfl (ldvA (cel_range (o := 0) (n := 5) (vs := [.int .i64 0, .int .i64 0, .int .i64 0, .int .i64 0, .slice none 0 0]) (H.cell 0 rfl) rfl) agg26 rfl) ⟨_, rfl, none, 0, rfl, H.px2.px1.fx3.fx1.fx0⟩)
def ref17_Read_b1 (a0 : ref15_Disk) (a1 : Int) (a2 : Int) (x2 : api_Sector) (x19 : List Int) (x22 : List (List Int)) : (Int × (List (List Int))) → Option (Int × (List (List Int)) ⊕ ((List (List Int)) ⊕ (api_Region × Bool)))
  | (x53, x54) => (if x53 < a2 then ((ref17_like_f a0 a1 a2 x53 x2).bind fun (x62, x63) => (if x63 = true then (if (x54.length + 1) * 24 ≤ 140737488355328 then some (.inl (IntKind.i64.wrap (x53 + 1), (x54 ++ ([x62.Body])))) else none) else some (.inr (.inr (((⟨x2.Gen, x19, x22, x54⟩ : api_Region), true)))))) else some (.inr (.inl x54)))
def ref17_Read_b0 (a0 : ref15_Disk) (a1 : Int) (a2 : Int) (x2 : api_Sector) : (Int × (List Int) × (List (List Int))) → Option (Int × (List Int) × (List (List Int)) ⊕ (((List Int) × (List (List Int))) ⊕ (api_Region × Bool)))
  | (x12, x13, x16) => (if x12 < (IntKind.i64.wrap (x2.Parts + x2.Kept)) then ((ref17_like_f a0 a1 a2 x12 x2).bind fun (x27, x28) => (((if x28 = true then (if (IntKind.i64.wrap (x12 + 1)) < x2.Parts then some ((decide ((x27.Body.length : Int) ≠ 50))) else some false) else some true) : Option (Bool)).bind fun x33 => (if x33 = true then some (.inr (.inr (((⟨0, [], [], []⟩ : api_Region), false)))) else (((if x12 < x2.Parts then (if (x13.length + x27.Body.length) * 1 ≤ 140737488355328 then some ((x13 ++ x27.Body), x16) else none) else (if (x16.length + 1) * 24 ≤ 140737488355328 then some (x13, (x16 ++ ([x27.Body]))) else none)) : Option ((List Int) × (List (List Int)))).bind fun (x38, x41) => some (.inl (IntKind.i64.wrap (x12 + 1), x38, x41)))))) else some (.inr (.inl (x13, x16))))
def ref17_Read_f (a0 : ref15_Disk) (a1 : Int) (a2 : Int) : Option (api_Region × Bool) :=
  ((ref17_sector_f a0 a1 a2 0).bind fun (x2, x3) => (if x3 = true then (if x2.Place ≠ 0 then some (((⟨0, [], [], []⟩ : api_Region), false)) else (if (IntKind.i64.wrap (x2.Parts + x2.Kept)) > a2 then some (((⟨0, [], [], []⟩ : api_Region), false)) else ((lp (ref17_Read_b0 a0 a1 a2 x2) (0, [], [])).bind fun q => match q with | .inl (x19, x22) => ((lp (ref17_Read_b1 a0 a1 a2 x2 x19 x22) (IntKind.i64.wrap (x2.Parts + x2.Kept), [])).bind fun q => match q with | .inl x57 => some (((⟨x2.Gen, x19, x22, x57⟩ : api_Region), true)) | .inr r => some r) | .inr r => some r))) else some (((⟨0, [], [], []⟩ : api_Region), false))))
set_option maxHeartbeats 4000000 in
set_option maxRecDepth 20000 in
theorem ref17_Read_ok {w0 w : World} {ps : List PF} {fs : List SF} {a0 : ref15_Disk} {g0_ : Nat} {a1 : Int} {a2 : Int} {r0 : api_Region} {r1 : Bool} (H : Hp w0 ps (obj_ref15_Disk g0_ a0 :: fs) w) (h : ref17_Read_f a0 a1 a2 = some (r0, r1)) :
    Calls Try.prog 13 [.pointer (some ⟨g0_, 0, none⟩), .int .i64 a1, .int .i64 a2].toArray w fun e w' => ∃ v, e = .returned v ∧ ∃ (A0_1 : Option Addr) (c0_1 : Nat) (A0_2 : Option Addr) (c0_2 : Nat) (A0_3 : Option Addr) (c0_3 : Nat), v = .tuple #[.agg #[.int .i64 r0.Gen, .slice A0_1 r0.State.length c0_1, .slice A0_2 r0.Kept.length c0_2, .slice A0_3 r0.More.length c0_3], .bool r1] ∧ Hp w0 (rd kByte A0_1 c0_1 r0.State :: rd (kSlice kByte) A0_2 c0_2 r0.Kept :: rd (kSlice kByte) A0_3 c0_3 r0.More :: ps) (obj_ref15_Disk g0_ a0 :: fs) w' := by
  refine enter [.pointer (some ⟨g0_, 0, none⟩), .int .i64 a1, .int .i64 a2] 125 Try.func13 fun Q a NP RET NRM F => ?_
  replace NP : ∀ c a w, ¬ Q (.panic c) a w := fun c a w h => by rcases NP c a w h with h | ⟨w, v, h, _⟩ <;> cases h
  unfold ref17_Read_f at h
  refine rg ?_
  refine ls (lal F H ti34 (cs := [.int .i64 0, .slice none 0 0, .slice none 0 0, .slice none 0 0]) rfl fun g1 w a H F => ?_)
  refine as_ F (v := .bool false) rfl fun a F => ?_
  refine rgend ?_
  refine rg ?_
  refine mv F rfl fun a F => ?_
  refine mv F rfl fun a F => ?_
  refine mv F rfl fun a F => ?_
  obtain ⟨⟨x2, x3⟩, e4, h⟩ := Option.bind_eq_some_iff.1 h
  try dsimp only at h
  refine ls (call F Try.func36 (ref17_sector_ok (H.f1) e4) rfl rfl fun v w hR a F => ?_)
  obtain ⟨A5, c6, rfl, H⟩ := hR
  refine mv F rfl fun a F => ?_
  refine ls (qv F (r_ex (F.ev (x := .tmp 17) rfl) rfl) fun a F => ?_)
  refine ls (qv F (r_ex (F.ev (x := .tmp 17) rfl) rfl) fun a F => ?_)
  refine ls (lal F H ti26 (cs := [.int .i64 0, .int .i64 0, .int .i64 0, .int .i64 0, .slice none 0 0]) rfl fun g7 w a H F => ?_)
  obtain ⟨_, hr, H⟩ := Hp.store (t := 26) (o := 0) (n := 5) (vs := [.int .i64 x2.Gen, .int .i64 x2.Place, .int .i64 x2.Parts, .int .i64 x2.Kept, .slice A5 x2.Body.length c6]) (cs' := [.int .i64 x2.Gen, .int .i64 x2.Place, .int .i64 x2.Parts, .int .i64 x2.Kept, .slice A5 x2.Body.length c6]) (H) (F.ev (x := .tmp 8) rfl) (F.ev (x := .tmp 22) rfl) rfl sz26 rfl (Nat.le_of_ble_eq_true rfl) rfl rfl
  refine ls (qn F (.inl rfl) (hr _ _ _ _) fun a F => ?_)
  refine as_ F rfl fun a F => ?_
  refine rgend ?_
  replace F := F.only [9, 8, 6, 0, 1, 2] (l' := [(9, .bool x3), (8, .pointer (some ⟨g7, 0, none⟩)), (6, .pointer (some ⟨g1, 0, none⟩)), (0, .pointer (some ⟨g0_, 0, none⟩)), (1, .int .i64 a1), (2, .int .i64 a2)]) rfl
  refine wp_seq ?_
  refine rg ?_
  refine mv F rfl fun a F => ?_
  refine ls (qv F (r_not (F.ev (x := .tmp 24) rfl)) fun a F => ?_)
  refine mv F rfl fun a F => ?_
  by_cases c8 : x3 = true
  · rw [if_pos c8] at h
    rw [c8] at F
    refine ls (qv F (r_fa (off := 1) (F.ev (x := .tmp 8) rfl) fa26_1) fun a F => ?_)
    refine ls (qv F (r_ld (F.ev (x := .tmp 27) rfl) (cel_cell (o := 1) (H.cell 0 rfl) rfl) one3) fun a F => ?_)
    refine ls (qv F (r_ne (F.ev (x := .tmp 28) rfl) (F.ev (x := .const (.int .i64 0)) rfl)) fun a F => ?_)
    refine ls (qv F (r_pickF (F.ev (x := .tmp 26) rfl) (F.ev (x := .tmp 29) rfl)) fun a F => ?_)
    refine mv F rfl fun a F => ?_
    by_cases c9 : x2.Place ≠ 0
    · rw [if_pos c9] at h
      rw [decide_eq_true c9] at F
      refine ls (off F fun a F => ?_)
      refine ls (off F fun a F => ?_)
      refine ls (off F fun a F => ?_)
      refine ls (off F fun a F => ?_)
      refine ls (off F fun a F => ?_)
      refine ls (off F fun a F => ?_)
      refine ls (off F fun a F => ?_)
      refine ls (qv F (r_pickT (F.ev (x := .tmp 31) rfl) (F.ev (x := .const (.bool true)) rfl)) fun a F => ?_)
      refine rgend ?_
      replace F := F.only [39, 8, 6, 0, 1, 2] (l' := [(39, .bool true), (8, .pointer (some ⟨g7, 0, none⟩)), (6, .pointer (some ⟨g1, 0, none⟩)), (0, .pointer (some ⟨g0_, 0, none⟩)), (1, .int .i64 a1), (2, .int .i64 a2)]) rfl
      refine wp_cond_true (F.ev rfl) ?_
      refine rg ?_
      refine ls (lbd F (vs := []) (cs := [.int .i64 0, .slice none 0 0, .slice none 0 0, .slice none 0 0]) rfl (fun w => by kernel_rfl) fun a F => ?_)
      obtain ⟨_, hr, H⟩ := Hp.store (t := 34) (o := 0) (n := 4) (vs := [.int .i64 0, .slice none 0 0, .slice none 0 0, .slice none 0 0]) (cs' := [.int .i64 0, .slice none 0 0, .slice none 0 0, .slice none 0 0]) (H.f1.f1.f2) (F.ev (x := .tmp 6) rfl) (F.ev (x := .tmp 40) rfl) rfl sz34 rfl (Nat.le_of_ble_eq_true rfl) rfl rfl
      refine ls (qn F (.inl rfl) (hr _ _ _ _) fun a F => ?_)
      refine as_ F (v := .bool false) rfl fun a F => ?_
      refine rgend ?_
      replace F := F.only [7, 6] (l' := [(7, .bool false), (6, .pointer (some ⟨g1, 0, none⟩))]) rfl
      refine wp_ret ?_
      replace H := H.nilRd kByte
      replace H := H.nilRd (kSlice kByte)
      try dsimp only at h
      obtain ⟨rfl, rfl⟩ := Prod.mk.inj (Option.some.inj h)
      exact RET _ _ (retC2 F rfl rfl rfl (ldvA (cel_range (o := 0) (n := 4) (vs := [.int .i64 0, .slice none 0 0, .slice none 0 0, .slice none 0 0]) (H.cell 0 rfl) rfl) agg34 rfl) ⟨_, rfl, none, 0, none, 0, none, 0, rfl, H.p0.p1.p3.px3.px3.px3.fx1.fx0⟩)
    · rw [if_neg c9] at h
      rw [decide_eq_false c9] at F
      refine ls (qv F (r_fa (off := 2) (F.ev (x := .tmp 8) rfl) fa26_2) fun a F => ?_)
      refine ls (qv F (r_ld (F.ev (x := .tmp 32) rfl) (cel_cell (o := 2) (H.cell 0 rfl) rfl) one3) fun a F => ?_)
      refine ls (qv F (r_fa (off := 3) (F.ev (x := .tmp 8) rfl) fa26_3) fun a F => ?_)
      refine ls (qv F (r_ld (F.ev (x := .tmp 34) rfl) (cel_cell (o := 3) (H.cell 0 rfl) rfl) one3) fun a F => ?_)
      refine ls (qv F (r_add (F.ev (x := .tmp 33) rfl) (F.ev (x := .tmp 35) rfl)) fun a F => ?_)
      refine mv F rfl fun a F => ?_
      refine ls (qv F (r_gt (F.ev (x := .tmp 36) rfl) (F.ev (x := .tmp 37) rfl)) fun a F => ?_)
      refine ls (qv F (r_pickF (F.ev (x := .tmp 31) rfl) (F.ev (x := .tmp 38) rfl)) fun a F => ?_)
      refine rgend ?_
      replace F := F.only [39, 8, 6, 0, 1, 2] (l' := [(39, .bool (decide ((IntKind.i64.wrap (x2.Parts + x2.Kept)) > a2))), (8, .pointer (some ⟨g7, 0, none⟩)), (6, .pointer (some ⟨g1, 0, none⟩)), (0, .pointer (some ⟨g0_, 0, none⟩)), (1, .int .i64 a1), (2, .int .i64 a2)]) rfl
      by_cases c10 : (IntKind.i64.wrap (x2.Parts + x2.Kept)) > a2
      · rw [if_pos c10] at h
        rw [decide_eq_true c10] at F
        refine wp_cond_true (F.ev rfl) ?_
        refine rg ?_
        refine ls (lbd F (vs := []) (cs := [.int .i64 0, .slice none 0 0, .slice none 0 0, .slice none 0 0]) rfl (fun w => by kernel_rfl) fun a F => ?_)
        obtain ⟨_, hr, H⟩ := Hp.store (t := 34) (o := 0) (n := 4) (vs := [.int .i64 0, .slice none 0 0, .slice none 0 0, .slice none 0 0]) (cs' := [.int .i64 0, .slice none 0 0, .slice none 0 0, .slice none 0 0]) (H.f1.f1.f2) (F.ev (x := .tmp 6) rfl) (F.ev (x := .tmp 40) rfl) rfl sz34 rfl (Nat.le_of_ble_eq_true rfl) rfl rfl
        refine ls (qn F (.inl rfl) (hr _ _ _ _) fun a F => ?_)
        refine as_ F (v := .bool false) rfl fun a F => ?_
        refine rgend ?_
        replace F := F.only [7, 6] (l' := [(7, .bool false), (6, .pointer (some ⟨g1, 0, none⟩))]) rfl
        refine wp_ret ?_
        replace H := H.nilRd kByte
        replace H := H.nilRd (kSlice kByte)
        try dsimp only at h
        obtain ⟨rfl, rfl⟩ := Prod.mk.inj (Option.some.inj h)
        exact RET _ _ (retC2 F rfl rfl rfl (ldvA (cel_range (o := 0) (n := 4) (vs := [.int .i64 0, .slice none 0 0, .slice none 0 0, .slice none 0 0]) (H.cell 0 rfl) rfl) agg34 rfl) ⟨_, rfl, none, 0, none, 0, none, 0, rfl, H.p0.p1.p3.px3.px3.px3.fx1.fx0⟩)
      · rw [if_neg c10] at h
        rw [decide_eq_false c10] at F
        refine wp_cond_false (F.ev rfl) ?_
        refine wp_skip ?_
        refine rg ?_
        refine ls (qv F (r_fa (off := 0) (F.ev (x := .tmp 8) rfl) fa26_0) fun a F => ?_)
        refine ls (qv F (r_ld (F.ev (x := .tmp 41) rfl) (cel_cell (o := 0) (H.cell 0 rfl) rfl) one2) fun a F => ?_)
        refine ls (lbd F (vs := [(0, .int .i64 x2.Gen)]) (cs := [.int .i64 x2.Gen, .slice none 0 0, .slice none 0 0, .slice none 0 0]) rfl (fun w => by kernel_rfl) fun a F => ?_)
        refine ls (lal F H ti34 (cs := [.int .i64 0, .slice none 0 0, .slice none 0 0, .slice none 0 0]) rfl fun g11 w a H F => ?_)
        obtain ⟨_, hr, H⟩ := Hp.store (t := 34) (o := 0) (n := 4) (vs := [.int .i64 x2.Gen, .slice none 0 0, .slice none 0 0, .slice none 0 0]) (cs' := [.int .i64 x2.Gen, .slice none 0 0, .slice none 0 0, .slice none 0 0]) (H) (F.ev (x := .tmp 10) rfl) (F.ev (x := .tmp 43) rfl) rfl sz34 rfl (Nat.le_of_ble_eq_true rfl) rfl rfl
        refine ls (qn F (.inl rfl) (hr _ _ _ _) fun a F => ?_)
        refine rgend ?_
        replace F := F.only [10, 8, 6, 0, 1, 2] (l' := [(10, .pointer (some ⟨g11, 0, none⟩)), (8, .pointer (some ⟨g7, 0, none⟩)), (6, .pointer (some ⟨g1, 0, none⟩)), (0, .pointer (some ⟨g0_, 0, none⟩)), (1, .int .i64 a1), (2, .int .i64 a2)]) rfl
        refine wp_seq ?_
        refine rg ?_
        refine as_ F (v := .int .i64 0) rfl fun a F => ?_
        refine rgend ?_
        replace H := H.nilOwn kByte 5
        replace H := H.nilOwn (kSlice kByte) 23
        obtain ⟨o_24, k_24, h⟩ := Option.bind_eq_some_iff.1 h
        refine cut (fun a w => ∃ (x19 : List Int) (x22 : List (List Int)), Sum.inl (x19, x22) = o_24 ∧ ∃ (A20 : Option Addr) (c21 : Nat) (A23 : Option Addr) (c24 : Nat), Fr 125 [] [(0, .pointer (some ⟨g0_, 0, none⟩)), (1, .int .i64 a1), (2, .int .i64 a2), (6, .pointer (some ⟨g1, 0, none⟩)), (8, .pointer (some ⟨g7, 0, none⟩)), (10, .pointer (some ⟨g11, 0, none⟩))] a ∧ Hp w0 (rd kByte A5 c6 x2.Body :: ps) (own kByte 5 A20 c21 x19 :: own (kSlice kByte) 23 A23 c24 x22 :: cel g11 [.int .i64 x2.Gen, .slice A20 x19.length c21, .slice A23 x22.length c24, .slice none 0 0] 34 :: obj_ref15_Disk g0_ a0 :: cel g1 [.int .i64 0, .slice none 0 0, .slice none 0 0, .slice none 0 0] 34 :: cel g7 [.int .i64 x2.Gen, .int .i64 x2.Place, .int .i64 x2.Parts, .int .i64 x2.Kept, .slice A5 x2.Body.length c6] 26 :: fs) w) (wp_block ?_) ?_
        · refine wloop (ref17_Read_b0 a0 a1 a2 x2) (fun (s : Int × (List Int) × (List (List Int))) a w => ∃ (A14 : Option Addr) (c15 : Nat) (A17 : Option Addr) (c18 : Nat), Fr 125 [] [(0, .pointer (some ⟨g0_, 0, none⟩)), (1, .int .i64 a1), (2, .int .i64 a2), (6, .pointer (some ⟨g1, 0, none⟩)), (8, .pointer (some ⟨g7, 0, none⟩)), (10, .pointer (some ⟨g11, 0, none⟩)), (11, .int .i64 s.1)] a ∧ Hp w0 (rd kByte A5 c6 x2.Body :: ps) (own kByte 5 A14 c15 s.2.1 :: own (kSlice kByte) 23 A17 c18 s.2.2 :: cel g11 [.int .i64 x2.Gen, .slice A14 s.2.1.length c15, .slice A17 s.2.2.length c18, .slice none 0 0] 34 :: obj_ref15_Disk g0_ a0 :: cel g1 [.int .i64 0, .slice none 0 0, .slice none 0 0, .slice none 0 0] 34 :: cel g7 [.int .i64 x2.Gen, .int .i64 x2.Place, .int .i64 x2.Parts, .int .i64 x2.Kept, .slice A5 x2.Body.length c6] 26 :: fs) w) k_24 ⟨none, 0, none, 0, F.only [0, 1, 2, 6, 8, 10, 11] rfl, H.f3.f5.f5.f5.f4.f5⟩ ?_
          rintro ⟨x12, x13, x16⟩ a w q_24 j_24 u_24 ⟨A14, c15, A17, c18, F, H⟩
          unfold ref17_Read_b0 at j_24
          try dsimp only at j_24 F H
          refine wp_seq ?_
          refine rg ?_
          refine mv F rfl fun a F => ?_
          refine ls (qv F (r_fa (off := 2) (F.ev (x := .tmp 8) rfl) fa26_2) fun a F => ?_)
          refine ls (qv F (r_ld (F.ev (x := .tmp 45) rfl) (cel_cell (o := 2) (H.cell 5 rfl) rfl) one3) fun a F => ?_)
          refine ls (qv F (r_fa (off := 3) (F.ev (x := .tmp 8) rfl) fa26_3) fun a F => ?_)
          refine ls (qv F (r_ld (F.ev (x := .tmp 47) rfl) (cel_cell (o := 3) (H.cell 5 rfl) rfl) one3) fun a F => ?_)
          refine ls (qv F (r_add (F.ev (x := .tmp 46) rfl) (F.ev (x := .tmp 48) rfl)) fun a F => ?_)
          refine ls (qv F (r_lt (F.ev (x := .tmp 44) rfl) (F.ev (x := .tmp 49) rfl)) fun a F => ?_)
          refine rgend ?_
          replace F := F.only [50, 0, 1, 2, 6, 8, 10, 11] (l' := [(50, .bool (decide (x12 < (IntKind.i64.wrap (x2.Parts + x2.Kept))))), (0, .pointer (some ⟨g0_, 0, none⟩)), (1, .int .i64 a1), (2, .int .i64 a2), (6, .pointer (some ⟨g1, 0, none⟩)), (8, .pointer (some ⟨g7, 0, none⟩)), (10, .pointer (some ⟨g11, 0, none⟩)), (11, .int .i64 x12)]) rfl
          by_cases c26 : x12 < (IntKind.i64.wrap (x2.Parts + x2.Kept))
          · rw [if_pos c26] at j_24
            rw [decide_eq_true c26] at F
            refine wp_cond_true (F.ev rfl) ?_
            refine wp_skip ?_
            refine wp_seq ?_
            refine wp_block ?_
            refine rg ?_
            refine mv F rfl fun a F => ?_
            refine mv F rfl fun a F => ?_
            refine mv F rfl fun a F => ?_
            refine mv F rfl fun a F => ?_
            refine ls (qv F (r_ldA (F.ev (x := .tmp 8) rfl) (cel_range (o := 0) (n := 5) (vs := [.int .i64 x2.Gen, .int .i64 x2.Place, .int .i64 x2.Parts, .int .i64 x2.Kept, .slice A5 x2.Body.length c6]) (H.cell 5 rfl) rfl) agg26 rfl) fun a F => ?_)
            obtain ⟨⟨x27, x28⟩, e29, j_24⟩ := Option.bind_eq_some_iff.1 j_24
            try dsimp only at j_24
            refine ls (call F Try.func37 (ref17_like_ok (a4 := x2) (H.p0.f5.f5.f4.f4.f4.f5) e29) rfl rfl fun v w hR a F => ?_)
            obtain ⟨A30, c31, rfl, H⟩ := hR
            refine mv F rfl fun a F => ?_
            refine ls (qv F (r_ex (F.ev (x := .tmp 53) rfl) rfl) fun a F => ?_)
            refine ls (qv F (r_ex (F.ev (x := .tmp 53) rfl) rfl) fun a F => ?_)
            refine ls (lal F H ti26 (cs := [.int .i64 0, .int .i64 0, .int .i64 0, .int .i64 0, .slice none 0 0]) rfl fun g32 w a H F => ?_)
            obtain ⟨_, hr, H⟩ := Hp.store (t := 26) (o := 0) (n := 5) (vs := [.int .i64 x27.Gen, .int .i64 x27.Place, .int .i64 x27.Parts, .int .i64 x27.Kept, .slice A30 x27.Body.length c31]) (cs' := [.int .i64 x27.Gen, .int .i64 x27.Place, .int .i64 x27.Parts, .int .i64 x27.Kept, .slice A30 x27.Body.length c31]) (H) (F.ev (x := .tmp 12) rfl) (F.ev (x := .tmp 60) rfl) rfl sz26 rfl (Nat.le_of_ble_eq_true rfl) rfl rfl
            refine ls (qn F (.inl rfl) (hr _ _ _ _) fun a F => ?_)
            refine as_ F rfl fun a F => ?_
            refine rgend ?_
            replace F := F.only [13, 12, 0, 1, 2, 6, 8, 10, 11] (l' := [(13, .bool x28), (12, .pointer (some ⟨g32, 0, none⟩)), (0, .pointer (some ⟨g0_, 0, none⟩)), (1, .int .i64 a1), (2, .int .i64 a2), (6, .pointer (some ⟨g1, 0, none⟩)), (8, .pointer (some ⟨g7, 0, none⟩)), (10, .pointer (some ⟨g11, 0, none⟩)), (11, .int .i64 x12)]) rfl
            refine wp_seq ?_
            refine wp_seq ?_
            obtain ⟨o_33, k_33, j_24⟩ := Option.bind_eq_some_iff.1 j_24
            refine cut (fun a w => ∃ (x33 : Bool), x33 = o_33 ∧ Fr 125 [] [(0, .pointer (some ⟨g0_, 0, none⟩)), (1, .int .i64 a1), (2, .int .i64 a2), (6, .pointer (some ⟨g1, 0, none⟩)), (8, .pointer (some ⟨g7, 0, none⟩)), (10, .pointer (some ⟨g11, 0, none⟩)), (11, .int .i64 x12), (12, .pointer (some ⟨g32, 0, none⟩)), (76, .bool x33)] a ∧ Hp w0 (rd kByte A30 c31 x27.Body :: rd kByte A5 c6 x2.Body :: ps) (own kByte 5 A14 c15 x13 :: own (kSlice kByte) 23 A17 c18 x16 :: cel g11 [.int .i64 x2.Gen, .slice A14 x13.length c15, .slice A17 x16.length c18, .slice none 0 0] 34 :: obj_ref15_Disk g0_ a0 :: cel g32 [.int .i64 x27.Gen, .int .i64 x27.Place, .int .i64 x27.Parts, .int .i64 x27.Kept, .slice A30 x27.Body.length c31] 26 :: cel g1 [.int .i64 0, .slice none 0 0, .slice none 0 0, .slice none 0 0] 34 :: cel g7 [.int .i64 x2.Gen, .int .i64 x2.Place, .int .i64 x2.Parts, .int .i64 x2.Kept, .slice A5 x2.Body.length c6] 26 :: fs) w) ?_ ?_
            · skip
              refine wp_region_lit ?_
              refine mv F rfl fun a F => ?_
              refine ls (qv F (r_not (F.ev (x := .tmp 62) rfl)) fun a F => ?_)
              refine mv F rfl fun a F => ?_
              by_cases c35 : x28 = true
              · rw [if_pos c35] at k_33
                rw [c35] at F
                refine mv F rfl fun a F => ?_
                refine ls (qv F (r_add (F.ev (x := .tmp 65) rfl) (F.ev (x := .const (.int .i64 1)) rfl)) fun a F => ?_)
                refine ls (qv F (r_fa (off := 2) (F.ev (x := .tmp 8) rfl) fa26_2) fun a F => ?_)
                refine ls (qv F (r_ld (F.ev (x := .tmp 67) rfl) (cel_cell (o := 2) (H.cell 6 rfl) rfl) one3) fun a F => ?_)
                refine ls (qv F (r_lt (F.ev (x := .tmp 66) rfl) (F.ev (x := .tmp 68) rfl)) fun a F => ?_)
                refine mv F rfl fun a F => ?_
                by_cases c36 : (IntKind.i64.wrap (x12 + 1)) < x2.Parts
                · rw [if_pos c36] at k_33
                  rw [decide_eq_true c36] at F
                  refine ls (qv F (r_fa (off := 4) (F.ev (x := .tmp 12) rfl) fa26_4) fun a F => ?_)
                  refine ls (qv F (r_ld (F.ev (x := .tmp 71) rfl) (cel_cell (o := 4) (H.cell 0 rfl) rfl) one23) fun a F => ?_)
                  refine ls (qv F (r_len (F.ev (x := .tmp 72) rfl) Try.underlying23) fun a F => ?_)
                  refine ls (qv F (r_ne (F.ev (x := .tmp 73) rfl) (F.ev (x := .const (.int .i64 50)) rfl)) fun a F => ?_)
                  refine ls (qv F (r_pickT (F.ev (x := .tmp 70) rfl) (F.ev (x := .tmp 74) rfl)) fun a F => ?_)
                  refine ls (qv F (r_pickF (F.ev (x := .tmp 64) rfl) (F.ev (x := .tmp 75) rfl)) fun a F => ?_)
                  refine wpList_nil ?_
                  replace F := F.only [76, 12, 0, 1, 2, 6, 8, 10, 11] (l' := [(76, .bool (decide ((x27.Body.length : Int) ≠ 50))), (12, .pointer (some ⟨g32, 0, none⟩)), (0, .pointer (some ⟨g0_, 0, none⟩)), (1, .int .i64 a1), (2, .int .i64 a2), (6, .pointer (some ⟨g1, 0, none⟩)), (8, .pointer (some ⟨g7, 0, none⟩)), (10, .pointer (some ⟨g11, 0, none⟩)), (11, .int .i64 x12)]) rfl
                  try dsimp only at k_33
                  obtain rfl := Option.some.inj k_33
                  exact ⟨_, rfl, F.only [0, 1, 2, 6, 8, 10, 11, 12, 76] rfl, H.f6.f6.f2.f3.f6.f6.f6⟩
                · rw [if_neg c36] at k_33
                  rw [decide_eq_false c36] at F
                  refine ls (off F fun a F => ?_)
                  refine ls (off F fun a F => ?_)
                  refine ls (off F fun a F => ?_)
                  refine ls (off F fun a F => ?_)
                  refine ls (qv F (r_pickF (F.ev (x := .tmp 70) rfl) (F.ev (x := .const (.bool false)) rfl)) fun a F => ?_)
                  refine ls (qv F (r_pickF (F.ev (x := .tmp 64) rfl) (F.ev (x := .tmp 75) rfl)) fun a F => ?_)
                  refine wpList_nil ?_
                  replace F := F.only [76, 12, 0, 1, 2, 6, 8, 10, 11] (l' := [(76, .bool false), (12, .pointer (some ⟨g32, 0, none⟩)), (0, .pointer (some ⟨g0_, 0, none⟩)), (1, .int .i64 a1), (2, .int .i64 a2), (6, .pointer (some ⟨g1, 0, none⟩)), (8, .pointer (some ⟨g7, 0, none⟩)), (10, .pointer (some ⟨g11, 0, none⟩)), (11, .int .i64 x12)]) rfl
                  try dsimp only at k_33
                  obtain rfl := Option.some.inj k_33
                  exact ⟨_, rfl, F.only [0, 1, 2, 6, 8, 10, 11, 12, 76] rfl, H.f6.f6.f2.f3.f6.f6.f6⟩
              · rw [if_neg c35] at k_33
                rw [Bool.eq_false_iff.2 c35] at F
                refine ls (off F fun a F => ?_)
                refine ls (off F fun a F => ?_)
                refine ls (off F fun a F => ?_)
                refine ls (off F fun a F => ?_)
                refine ls (off F fun a F => ?_)
                refine ls (off F fun a F => ?_)
                refine ls (off F fun a F => ?_)
                refine ls (off F fun a F => ?_)
                refine ls (off F fun a F => ?_)
                refine ls (off F fun a F => ?_)
                refine ls (off F fun a F => ?_)
                refine ls (qv F (r_pickT (F.ev (x := .tmp 64) rfl) (F.ev (x := .const (.bool true)) rfl)) fun a F => ?_)
                refine wpList_nil ?_
                replace F := F.only [76, 12, 0, 1, 2, 6, 8, 10, 11] (l' := [(76, .bool true), (12, .pointer (some ⟨g32, 0, none⟩)), (0, .pointer (some ⟨g0_, 0, none⟩)), (1, .int .i64 a1), (2, .int .i64 a2), (6, .pointer (some ⟨g1, 0, none⟩)), (8, .pointer (some ⟨g7, 0, none⟩)), (10, .pointer (some ⟨g11, 0, none⟩)), (11, .int .i64 x12)]) rfl
                try dsimp only at k_33
                obtain rfl := Option.some.inj k_33
                exact ⟨_, rfl, F.only [0, 1, 2, 6, 8, 10, 11, 12, 76] rfl, H.f6.f6.f2.f3.f6.f6.f6⟩
            · rintro a w ⟨x33, rfl, F, H⟩
              try dsimp only at j_24 F H
              by_cases c37 : x33 = true
              · rw [if_pos c37] at j_24
                rw [c37] at F
                refine wp_cond_true (F.ev rfl) ?_
                refine rg ?_
                refine ls (lbd F (vs := []) (cs := [.int .i64 0, .slice none 0 0, .slice none 0 0, .slice none 0 0]) rfl (fun w => by kernel_rfl) fun a F => ?_)
                obtain ⟨_, hr, H⟩ := Hp.store (t := 34) (o := 0) (n := 4) (vs := [.int .i64 0, .slice none 0 0, .slice none 0 0, .slice none 0 0]) (cs' := [.int .i64 0, .slice none 0 0, .slice none 0 0, .slice none 0 0]) (H.f6.f5.f5.f5.f5.f5.f6) (F.ev (x := .tmp 6) rfl) (F.ev (x := .tmp 77) rfl) rfl sz34 rfl (Nat.le_of_ble_eq_true rfl) rfl rfl
                refine ls (qn F (.inl rfl) (hr _ _ _ _) fun a F => ?_)
                refine as_ F (v := .bool false) rfl fun a F => ?_
                refine rgend ?_
                replace F := F.only [7, 6] (l' := [(7, .bool false), (6, .pointer (some ⟨g1, 0, none⟩))]) rfl
                refine wp_ret ?_
                replace H := H.nilRd kByte
                replace H := H.nilRd (kSlice kByte)
                try dsimp only at j_24
                obtain rfl := Option.some.inj j_24
                obtain rfl := u_24 _ rfl
                try dsimp only at h
                obtain ⟨rfl, rfl⟩ := Prod.mk.inj (Option.some.inj h)
                exact RET _ _ (retC2 F rfl rfl rfl (ldvA (cel_range (o := 0) (n := 4) (vs := [.int .i64 0, .slice none 0 0, .slice none 0 0, .slice none 0 0]) (H.cell 0 rfl) rfl) agg34 rfl) ⟨_, rfl, none, 0, none, 0, none, 0, rfl, H.p0.p1.p3.px3.px3.px3.px3.fx6.fx5.fx3.fx2.fx1.fx0⟩)
              · rw [if_neg c37] at j_24
                rw [Bool.eq_false_iff.2 c37] at F
                refine wp_cond_false (F.ev rfl) ?_
                refine wp_skip ?_
                refine rg ?_
                refine mv F rfl fun a F => ?_
                refine ls (qv F (r_fa (off := 2) (F.ev (x := .tmp 8) rfl) fa26_2) fun a F => ?_)
                refine ls (qv F (r_ld (F.ev (x := .tmp 79) rfl) (cel_cell (o := 2) (H.cell 6 rfl) rfl) one3) fun a F => ?_)
                refine ls (qv F (r_lt (F.ev (x := .tmp 78) rfl) (F.ev (x := .tmp 80) rfl)) fun a F => ?_)
                refine rgend ?_
                replace F := F.only [81, 0, 1, 2, 6, 8, 10, 11, 12] (l' := [(81, .bool (decide (x12 < x2.Parts))), (0, .pointer (some ⟨g0_, 0, none⟩)), (1, .int .i64 a1), (2, .int .i64 a2), (6, .pointer (some ⟨g1, 0, none⟩)), (8, .pointer (some ⟨g7, 0, none⟩)), (10, .pointer (some ⟨g11, 0, none⟩)), (11, .int .i64 x12), (12, .pointer (some ⟨g32, 0, none⟩))]) rfl
                obtain ⟨o_43, k_43, j_24⟩ := Option.bind_eq_some_iff.1 j_24
                refine cut (fun a w => ∃ (x38 : List Int) (x41 : List (List Int)), (x38, x41) = o_43 ∧ ∃ (A39 : Option Addr) (c40 : Nat) (A42 : Option Addr) (c43 : Nat), Fr 125 [] [(0, .pointer (some ⟨g0_, 0, none⟩)), (1, .int .i64 a1), (2, .int .i64 a2), (6, .pointer (some ⟨g1, 0, none⟩)), (8, .pointer (some ⟨g7, 0, none⟩)), (10, .pointer (some ⟨g11, 0, none⟩)), (11, .int .i64 x12)] a ∧ Hp w0 (rd kByte A5 c6 x2.Body :: ps) (own kByte 5 A39 c40 x38 :: own (kSlice kByte) 23 A42 c43 x41 :: cel g11 [.int .i64 x2.Gen, .slice A39 x38.length c40, .slice A42 x41.length c43, .slice none 0 0] 34 :: obj_ref15_Disk g0_ a0 :: cel g1 [.int .i64 0, .slice none 0 0, .slice none 0 0, .slice none 0 0] 34 :: cel g7 [.int .i64 x2.Gen, .int .i64 x2.Place, .int .i64 x2.Parts, .int .i64 x2.Kept, .slice A5 x2.Body.length c6] 26 :: fs) w) ?_ ?_
                · skip
                  by_cases c45 : x12 < x2.Parts
                  · rw [if_pos c45] at k_43
                    rw [decide_eq_true c45] at F
                    refine wp_cond_true (F.ev rfl) ?_
                    refine wp_region_lit ?_
                    refine ls (qv F (r_fa (off := 1) (F.ev (x := .tmp 10) rfl) fa34_1) fun a F => ?_)
                    refine ls (qv F (r_ld (F.ev (x := .tmp 82) rfl) (cel_cell (o := 1) (H.cell 2 rfl) rfl) one23) fun a F => ?_)
                    refine ls (qv F (r_fa (off := 4) (F.ev (x := .tmp 12) rfl) fa26_4) fun a F => ?_)
                    refine ls (qv F (r_ld (F.ev (x := .tmp 84) rfl) (cel_cell (o := 4) (H.cell 4 rfl) rfl) one23) fun a F => ?_)
                    obtain ⟨c46, k_43⟩ := guardO k_43
                    obtain ⟨A47, c48, _, hr, H⟩ := Hp.appendRd (kd := kByte) (xs := x13) (ys := x27.Body) (H) 0 rfl (F.ev (x := .tmp 83) rfl) (F.ev (x := .tmp 85) rfl) Try.underlying23 ti5 rfl (by decide) (by decide) c46
                    refine ls (qv F (hr _ _ _ _ _) fun a F => ?_)
                    refine ls (qv F (r_fa (off := 1) (F.ev (x := .tmp 10) rfl) fa34_1) fun a F => ?_)
                    obtain ⟨_, hr, H⟩ := Hp.store (t := 23) (o := 1) (n := 1) (vs := [.slice A47 (x13 ++ x27.Body).length c48]) (cs' := [.int .i64 x2.Gen, .slice A47 (x13 ++ x27.Body).length c48, .slice A17 x16.length c18, .slice none 0 0]) (H.f6.f6.f6.f6.f5.f5.f6) (F.ev (x := .tmp 87) rfl) (F.ev (x := .tmp 86) rfl) rfl sz23 rfl (Nat.le_of_ble_eq_true rfl) rfl rfl
                    refine ls (qn F (.inl rfl) (hr _ _ _ _) fun a F => ?_)
                    refine wpList_nil ?_
                    replace F := F.only [0, 1, 2, 6, 8, 10, 11] (l' := [(0, .pointer (some ⟨g0_, 0, none⟩)), (1, .int .i64 a1), (2, .int .i64 a2), (6, .pointer (some ⟨g1, 0, none⟩)), (8, .pointer (some ⟨g7, 0, none⟩)), (10, .pointer (some ⟨g11, 0, none⟩)), (11, .int .i64 x12)]) rfl
                    try dsimp only at k_43
                    obtain rfl := Option.some.inj k_43
                    exact ⟨_, _, rfl, A47, c48, A17, c18, F.only [0, 1, 2, 6, 8, 10, 11] rfl, H.px0.f6.f6.f5.f3.f5.f5.fx6⟩
                  · rw [if_neg c45] at k_43
                    rw [decide_eq_false c45] at F
                    refine wp_cond_false (F.ev rfl) ?_
                    refine wp_region_lit ?_
                    refine ls (qv F (r_fa (off := 2) (F.ev (x := .tmp 10) rfl) fa34_2) fun a F => ?_)
                    refine ls (qv F (r_ld (F.ev (x := .tmp 88) rfl) (cel_cell (o := 2) (H.cell 2 rfl) rfl) one32) fun a F => ?_)
                    refine ls (qv F (r_fa (off := 4) (F.ev (x := .tmp 12) rfl) fa26_4) fun a F => ?_)
                    refine ls (qv F (r_ld (F.ev (x := .tmp 90) rfl) (cel_cell (o := 4) (H.cell 4 rfl) rfl) one23) fun a F => ?_)
                    refine ls (lbs F H (e := 23) (vs := [(0, .slice A30 x27.Body.length c31)]) (cs := [.slice A30 x27.Body.length c31]) rfl (fun w => by kernel_rfl) fun g49 w a H F => ?_)
                    obtain ⟨c50, k_43⟩ := guardO k_43
                    obtain ⟨A51, c52, _, hr, H⟩ := Hp.appendCelL (kd := (kSlice kByte)) (xs := x16) (ys := [x27.Body]) (H.f7.f7.f7.f7.f7.f6.f6.f7) (F.ev (x := .tmp 89) rfl) (F.ev (x := .tmp 92) rfl) Try.underlying32 ti23 rfl (by decide) (by decide) rfl ((SayL.cons (kd := (kSlice kByte)) (c1 := [.slice A30 x27.Body.length c31]) (y := x27.Body) (fun Z hp => ⟨A30, c31, rfl, pat hp 0 rfl⟩) SayL.nil)) c50
                    refine ls (qv F (hr _ _ _ _ _) fun a F => ?_)
                    refine ls (qv F (r_fa (off := 2) (F.ev (x := .tmp 10) rfl) fa34_2) fun a F => ?_)
                    obtain ⟨_, hr, H⟩ := Hp.store (t := 32) (o := 2) (n := 1) (vs := [.slice A51 ((x16 ++ ([x27.Body]))).length c52]) (cs' := [.int .i64 x2.Gen, .slice A14 x13.length c15, .slice A51 ((x16 ++ ([x27.Body]))).length c52, .slice none 0 0]) (H.f6.f6.f6.f6.f5.f5.f6) (F.ev (x := .tmp 94) rfl) (F.ev (x := .tmp 93) rfl) rfl sz32 rfl (Nat.le_of_ble_eq_true rfl) rfl rfl
                    refine ls (qn F (.inl rfl) (hr _ _ _ _) fun a F => ?_)
                    refine wpList_nil ?_
                    replace F := F.only [0, 1, 2, 6, 8, 10, 11] (l' := [(0, .pointer (some ⟨g0_, 0, none⟩)), (1, .int .i64 a1), (2, .int .i64 a2), (6, .pointer (some ⟨g1, 0, none⟩)), (8, .pointer (some ⟨g7, 0, none⟩)), (10, .pointer (some ⟨g11, 0, none⟩)), (11, .int .i64 x12)]) rfl
                    try dsimp only at k_43
                    obtain rfl := Option.some.inj k_43
                    exact ⟨_, _, rfl, A14, c15, A51, c52, F.only [0, 1, 2, 6, 8, 10, 11] rfl, H.px0.f6.f6.f5.f3.f4.f5.fx6⟩
                · rintro a w ⟨x38, x41, rfl, A39, c40, A42, c43, F, H⟩
                  try dsimp only at j_24 F H
                  refine wp_region_lit ?_
                  refine mv F rfl fun a F => ?_
                  refine ls (qv F (r_add (F.ev (x := .tmp 51) rfl) (F.ev (x := .const (.int .i64 1)) rfl)) fun a F => ?_)
                  refine as_ F rfl fun a F => ?_
                  refine wpList_nil ?_
                  try dsimp only at j_24
                  obtain rfl := Option.some.inj j_24
                  exact ⟨_, rfl, A39, c40, A42, c43, F.only [0, 1, 2, 6, 8, 10, 11] rfl, H⟩
          · rw [if_neg c26] at j_24
            rw [decide_eq_false c26] at F
            refine wp_cond_false (F.ev rfl) ?_
            refine wp_exit ?_
            try dsimp only at j_24
            obtain rfl := Option.some.inj j_24
            obtain rfl := u_24 _ rfl
            repeat (with_reducible refine exT ?_)
            with_reducible refine exB ?_
            exact ⟨_, _, rfl, A14, c15, A17, c18, F.only [0, 1, 2, 6, 8, 10] rfl, H⟩
        · rintro a w ⟨x19, x22, rfl, A20, c21, A23, c24, F, H⟩
          try dsimp only at h F H
          refine wp_seq ?_
          refine rg ?_
          refine ls (qv F (r_fa (off := 2) (F.ev (x := .tmp 8) rfl) fa26_2) fun a F => ?_)
          refine ls (qv F (r_ld (F.ev (x := .tmp 95) rfl) (cel_cell (o := 2) (H.cell 5 rfl) rfl) one3) fun a F => ?_)
          refine ls (qv F (r_fa (off := 3) (F.ev (x := .tmp 8) rfl) fa26_3) fun a F => ?_)
          refine ls (qv F (r_ld (F.ev (x := .tmp 97) rfl) (cel_cell (o := 3) (H.cell 5 rfl) rfl) one3) fun a F => ?_)
          refine ls (qv F (r_add (F.ev (x := .tmp 96) rfl) (F.ev (x := .tmp 98) rfl)) fun a F => ?_)
          refine as_ F rfl fun a F => ?_
          refine rgend ?_
          replace F := F.only [14, 0, 1, 2, 6, 8, 10] (l' := [(14, .int .i64 (IntKind.i64.wrap (x2.Parts + x2.Kept))), (0, .pointer (some ⟨g0_, 0, none⟩)), (1, .int .i64 a1), (2, .int .i64 a2), (6, .pointer (some ⟨g1, 0, none⟩)), (8, .pointer (some ⟨g7, 0, none⟩)), (10, .pointer (some ⟨g11, 0, none⟩))]) rfl
          replace H := H.nilOwn (kSlice kByte) 23
          obtain ⟨o_59, k_59, h⟩ := Option.bind_eq_some_iff.1 h
          refine cut (fun a w => ∃ (x57 : List (List Int)), Sum.inl x57 = o_59 ∧ ∃ (A58 : Option Addr) (c59 : Nat), Fr 125 [] [(6, .pointer (some ⟨g1, 0, none⟩)), (10, .pointer (some ⟨g11, 0, none⟩))] a ∧ Hp w0 ps (own (kSlice kByte) 23 A58 c59 x57 :: own kByte 5 A20 c21 x19 :: own (kSlice kByte) 23 A23 c24 x22 :: cel g11 [.int .i64 x2.Gen, .slice A20 x19.length c21, .slice A23 x22.length c24, .slice A58 x57.length c59] 34 :: obj_ref15_Disk g0_ a0 :: cel g1 [.int .i64 0, .slice none 0 0, .slice none 0 0, .slice none 0 0] 34 :: fs) w) (wp_block ?_) ?_
          · refine wloop (ref17_Read_b1 a0 a1 a2 x2 x19 x22) (fun (s : Int × (List (List Int))) a w => ∃ (A55 : Option Addr) (c56 : Nat), Fr 125 [] [(0, .pointer (some ⟨g0_, 0, none⟩)), (1, .int .i64 a1), (2, .int .i64 a2), (6, .pointer (some ⟨g1, 0, none⟩)), (8, .pointer (some ⟨g7, 0, none⟩)), (10, .pointer (some ⟨g11, 0, none⟩)), (14, .int .i64 s.1)] a ∧ Hp w0 (rd kByte A5 c6 x2.Body :: ps) (own (kSlice kByte) 23 A55 c56 s.2 :: own kByte 5 A20 c21 x19 :: own (kSlice kByte) 23 A23 c24 x22 :: cel g11 [.int .i64 x2.Gen, .slice A20 x19.length c21, .slice A23 x22.length c24, .slice A55 s.2.length c56] 34 :: obj_ref15_Disk g0_ a0 :: cel g1 [.int .i64 0, .slice none 0 0, .slice none 0 0, .slice none 0 0] 34 :: cel g7 [.int .i64 x2.Gen, .int .i64 x2.Place, .int .i64 x2.Parts, .int .i64 x2.Kept, .slice A5 x2.Body.length c6] 26 :: fs) w) k_59 ⟨none, 0, F.only [0, 1, 2, 6, 8, 10, 14] rfl, H⟩ ?_
            rintro ⟨x53, x54⟩ a w q_59 j_59 u_59 ⟨A55, c56, F, H⟩
            unfold ref17_Read_b1 at j_59
            try dsimp only at j_59 F H
            refine wp_seq ?_
            refine rg ?_
            refine mv F rfl fun a F => ?_
            refine mv F rfl fun a F => ?_
            refine ls (qv F (r_lt (F.ev (x := .tmp 100) rfl) (F.ev (x := .tmp 101) rfl)) fun a F => ?_)
            refine rgend ?_
            by_cases c61 : x53 < a2
            · rw [if_pos c61] at j_59
              rw [decide_eq_true c61] at F
              refine wp_cond_true (F.ev rfl) ?_
              refine wp_skip ?_
              refine wp_seq ?_
              refine wp_block ?_
              refine rg ?_
              refine mv F rfl fun a F => ?_
              refine mv F rfl fun a F => ?_
              refine mv F rfl fun a F => ?_
              refine mv F rfl fun a F => ?_
              refine ls (qv F (r_ldA (F.ev (x := .tmp 8) rfl) (cel_range (o := 0) (n := 5) (vs := [.int .i64 x2.Gen, .int .i64 x2.Place, .int .i64 x2.Parts, .int .i64 x2.Kept, .slice A5 x2.Body.length c6]) (H.cell 6 rfl) rfl) agg26 rfl) fun a F => ?_)
              obtain ⟨⟨x62, x63⟩, e64, j_59⟩ := Option.bind_eq_some_iff.1 j_59
              try dsimp only at j_59
              refine ls (call F Try.func37 (ref17_like_ok (a4 := x2) (H.p0.f6.f6.f5.f5.f5.f5.f6) e64) rfl rfl fun v w hR a F => ?_)
              obtain ⟨A65, c66, rfl, H⟩ := hR
              refine mv F rfl fun a F => ?_
              refine ls (qv F (r_ex (F.ev (x := .tmp 105) rfl) rfl) fun a F => ?_)
              refine ls (qv F (r_ex (F.ev (x := .tmp 105) rfl) rfl) fun a F => ?_)
              refine ls (lal F H ti26 (cs := [.int .i64 0, .int .i64 0, .int .i64 0, .int .i64 0, .slice none 0 0]) rfl fun g67 w a H F => ?_)
              obtain ⟨_, hr, H⟩ := Hp.store (t := 26) (o := 0) (n := 5) (vs := [.int .i64 x62.Gen, .int .i64 x62.Place, .int .i64 x62.Parts, .int .i64 x62.Kept, .slice A65 x62.Body.length c66]) (cs' := [.int .i64 x62.Gen, .int .i64 x62.Place, .int .i64 x62.Parts, .int .i64 x62.Kept, .slice A65 x62.Body.length c66]) (H) (F.ev (x := .tmp 15) rfl) (F.ev (x := .tmp 112) rfl) rfl sz26 rfl (Nat.le_of_ble_eq_true rfl) rfl rfl
              refine ls (qn F (.inl rfl) (hr _ _ _ _) fun a F => ?_)
              refine as_ F rfl fun a F => ?_
              refine rgend ?_
              replace F := F.only [16, 15, 0, 1, 2, 6, 8, 10, 14] (l' := [(16, .bool x63), (15, .pointer (some ⟨g67, 0, none⟩)), (0, .pointer (some ⟨g0_, 0, none⟩)), (1, .int .i64 a1), (2, .int .i64 a2), (6, .pointer (some ⟨g1, 0, none⟩)), (8, .pointer (some ⟨g7, 0, none⟩)), (10, .pointer (some ⟨g11, 0, none⟩)), (14, .int .i64 x53)]) rfl
              refine wp_seq ?_
              refine rg ?_
              refine mv F rfl fun a F => ?_
              refine ls (qv F (r_not (F.ev (x := .tmp 114) rfl)) fun a F => ?_)
              refine rgend ?_
              by_cases c68 : x63 = true
              · rw [if_pos c68] at j_59
                rw [c68] at F
                refine wp_cond_false (F.ev rfl) ?_
                refine wp_skip ?_
                refine wp_region_lit ?_
                refine ls (qv F (r_fa (off := 3) (F.ev (x := .tmp 10) rfl) fa34_3) fun a F => ?_)
                refine ls (qv F (r_ld (F.ev (x := .tmp 117) rfl) (cel_cell (o := 3) (H.cell 5 rfl) rfl) one32) fun a F => ?_)
                refine ls (qv F (r_fa (off := 4) (F.ev (x := .tmp 15) rfl) fa26_4) fun a F => ?_)
                refine ls (qv F (r_ld (F.ev (x := .tmp 119) rfl) (cel_cell (o := 4) (H.cell 0 rfl) rfl) one23) fun a F => ?_)
                refine ls (lbs F H (e := 23) (vs := [(0, .slice A65 x62.Body.length c66)]) (cs := [.slice A65 x62.Body.length c66]) rfl (fun w => by kernel_rfl) fun g69 w a H F => ?_)
                obtain ⟨c70, j_59⟩ := guardO j_59
                obtain ⟨A71, c72, _, hr, H⟩ := Hp.appendCelL (kd := (kSlice kByte)) (xs := x54) (ys := [x62.Body]) (H.f8.f8.f8.f8.f8.f7.f7.f7.f8) (F.ev (x := .tmp 118) rfl) (F.ev (x := .tmp 121) rfl) Try.underlying32 ti23 rfl (by decide) (by decide) rfl ((SayL.cons (kd := (kSlice kByte)) (c1 := [.slice A65 x62.Body.length c66]) (y := x62.Body) (fun Z hp => ⟨A65, c66, rfl, pat hp 0 rfl⟩) SayL.nil)) c70
                refine ls (qv F (hr _ _ _ _ _) fun a F => ?_)
                refine ls (qv F (r_fa (off := 3) (F.ev (x := .tmp 10) rfl) fa34_3) fun a F => ?_)
                obtain ⟨_, hr, H⟩ := Hp.store (t := 32) (o := 3) (n := 1) (vs := [.slice A71 ((x54 ++ ([x62.Body]))).length c72]) (cs' := [.int .i64 x2.Gen, .slice A20 x19.length c21, .slice A23 x22.length c24, .slice A71 ((x54 ++ ([x62.Body]))).length c72]) (H.f7.f7.f6.f6.f6.f6.f6.f7) (F.ev (x := .tmp 123) rfl) (F.ev (x := .tmp 122) rfl) rfl sz32 rfl (Nat.le_of_ble_eq_true rfl) rfl rfl
                refine ls (qn F (.inl rfl) (hr _ _ _ _) fun a F => ?_)
                refine wpList_nil ?_
                replace F := F.only [0, 1, 2, 6, 8, 10, 14] (l' := [(0, .pointer (some ⟨g0_, 0, none⟩)), (1, .int .i64 a1), (2, .int .i64 a2), (6, .pointer (some ⟨g1, 0, none⟩)), (8, .pointer (some ⟨g7, 0, none⟩)), (10, .pointer (some ⟨g11, 0, none⟩)), (14, .int .i64 x53)]) rfl
                refine wp_region_lit ?_
                refine mv F rfl fun a F => ?_
                refine ls (qv F (r_add (F.ev (x := .tmp 103) rfl) (F.ev (x := .const (.int .i64 1)) rfl)) fun a F => ?_)
                refine as_ F rfl fun a F => ?_
                refine wpList_nil ?_
                try dsimp only at j_59
                obtain rfl := Option.some.inj j_59
                exact ⟨_, rfl, A71, c72, F.only [0, 1, 2, 6, 8, 10, 14] rfl, H.px0.f7.f7.f5.f3.f7.f7.f6.fx7⟩
              · rw [if_neg c68] at j_59
                rw [Bool.eq_false_iff.2 c68] at F
                refine wp_cond_true (F.ev rfl) ?_
                refine rg ?_
                refine ls (qv F (r_ldA (F.ev (x := .tmp 10) rfl) (cel_range (o := 0) (n := 4) (vs := [.int .i64 x2.Gen, .slice A20 x19.length c21, .slice A23 x22.length c24, .slice A55 x54.length c56]) (H.cell 5 rfl) rfl) agg34 rfl) fun a F => ?_)
                obtain ⟨_, hr, H⟩ := Hp.store (t := 34) (o := 0) (n := 4) (vs := [.int .i64 x2.Gen, .slice A20 x19.length c21, .slice A23 x22.length c24, .slice A55 x54.length c56]) (cs' := [.int .i64 x2.Gen, .slice A20 x19.length c21, .slice A23 x22.length c24, .slice A55 x54.length c56]) (H.f7.f6.f6.f6.f6.f6.f6.f7) (F.ev (x := .tmp 6) rfl) (F.ev (x := .tmp 116) rfl) rfl sz34 rfl (Nat.le_of_ble_eq_true rfl) rfl rfl
                refine ls (qn F (.inl rfl) (hr _ _ _ _) fun a F => ?_)
                refine as_ F (v := .bool true) rfl fun a F => ?_
                refine rgend ?_
                replace F := F.only [7, 6] (l' := [(7, .bool true), (6, .pointer (some ⟨g1, 0, none⟩))]) rfl
                refine wp_ret ?_
                replace H := (H.f7.f7.f7.f6.f6.f6.f6.f7).freeze
                replace H := (H.f6.f6.f5.f5.f5.f5.f6).freeze
                replace H := (H.f5.f5.f4.f4.f4.f5).freeze
                try dsimp only at j_59
                obtain rfl := Option.some.inj j_59
                obtain rfl := u_59 _ rfl
                try dsimp only at h
                obtain ⟨rfl, rfl⟩ := Prod.mk.inj (Option.some.inj h)
                exact RET _ _ (retC2 F rfl rfl rfl (ldvA (cel_range (o := 0) (n := 4) (vs := [.int .i64 x2.Gen, .slice A20 x19.length c21, .slice A23 x22.length c24, .slice A55 x54.length c56]) (H.cell 0 rfl) rfl) agg34 rfl) ⟨_, rfl, A20, c21, A23, c24, A55, c56, rfl, H.p0.p2.p4.px3.px3.px3.px3.px3.fx4.fx3.fx1.fx0⟩)
            · rw [if_neg c61] at j_59
              rw [decide_eq_false c61] at F
              refine wp_cond_false (F.ev rfl) ?_
              refine wp_exit ?_
              try dsimp only at j_59
              obtain rfl := Option.some.inj j_59
              obtain rfl := u_59 _ rfl
              repeat (with_reducible refine exT ?_)
              with_reducible refine exB ?_
              exact ⟨_, rfl, A55, c56, F.only [6, 10] rfl, H.px0.fx6⟩
          · rintro a w ⟨x57, rfl, A58, c59, F, H⟩
            try dsimp only at h F H
            refine rg ?_
            refine ls (qv F (r_ldA (F.ev (x := .tmp 10) rfl) (cel_range (o := 0) (n := 4) (vs := [.int .i64 x2.Gen, .slice A20 x19.length c21, .slice A23 x22.length c24, .slice A58 x57.length c59]) (H.cell 3 rfl) rfl) agg34 rfl) fun a F => ?_)
            obtain ⟨_, hr, H⟩ := Hp.store (t := 34) (o := 0) (n := 4) (vs := [.int .i64 x2.Gen, .slice A20 x19.length c21, .slice A23 x22.length c24, .slice A58 x57.length c59]) (cs' := [.int .i64 x2.Gen, .slice A20 x19.length c21, .slice A23 x22.length c24, .slice A58 x57.length c59]) (H.f4.f4.f4.f4.f4.f5) (F.ev (x := .tmp 6) rfl) (F.ev (x := .tmp 124) rfl) rfl sz34 rfl (Nat.le_of_ble_eq_true rfl) rfl rfl
            refine ls (qn F (.inl rfl) (hr _ _ _ _) fun a F => ?_)
            refine as_ F (v := .bool true) rfl fun a F => ?_
            refine rgend ?_
            refine wp_ret ?_
            replace H := (H.f5.f5.f5.f4.f4.f5).freeze
            replace H := (H.f4.f4.f3.f3.f4).freeze
            replace H := (H.f3.f3.f2.f3).freeze
            try dsimp only at h
            obtain ⟨rfl, rfl⟩ := Prod.mk.inj (Option.some.inj h)
            exact RET _ _ (retC2 F rfl rfl rfl (ldvA (cel_range (o := 0) (n := 4) (vs := [.int .i64 x2.Gen, .slice A20 x19.length c21, .slice A23 x22.length c24, .slice A58 x57.length c59]) (H.cell 0 rfl) rfl) agg34 rfl) ⟨_, rfl, A20, c21, A23, c24, A58, c59, rfl, H.p0.p2.p4.px3.px3.px3.fx1.fx0⟩)
  · rw [if_neg c8] at h
    rw [Bool.eq_false_iff.2 c8] at F
    refine ls (off F fun a F => ?_)
    refine ls (off F fun a F => ?_)
    refine ls (off F fun a F => ?_)
    refine ls (qv F (r_pickT (F.ev (x := .tmp 26) rfl) (F.ev (x := .const (.bool true)) rfl)) fun a F => ?_)
    refine mv F rfl fun a F => ?_
    refine ls (off F fun a F => ?_)
    refine ls (off F fun a F => ?_)
    refine ls (off F fun a F => ?_)
    refine ls (off F fun a F => ?_)
    refine ls (off F fun a F => ?_)
    refine ls (off F fun a F => ?_)
    refine ls (off F fun a F => ?_)
    refine ls (qv F (r_pickT (F.ev (x := .tmp 31) rfl) (F.ev (x := .const (.bool true)) rfl)) fun a F => ?_)
    refine rgend ?_
    replace F := F.only [39, 8, 6, 0, 1, 2] (l' := [(39, .bool true), (8, .pointer (some ⟨g7, 0, none⟩)), (6, .pointer (some ⟨g1, 0, none⟩)), (0, .pointer (some ⟨g0_, 0, none⟩)), (1, .int .i64 a1), (2, .int .i64 a2)]) rfl
    refine wp_cond_true (F.ev rfl) ?_
    refine rg ?_
    refine ls (lbd F (vs := []) (cs := [.int .i64 0, .slice none 0 0, .slice none 0 0, .slice none 0 0]) rfl (fun w => by kernel_rfl) fun a F => ?_)
    obtain ⟨_, hr, H⟩ := Hp.store (t := 34) (o := 0) (n := 4) (vs := [.int .i64 0, .slice none 0 0, .slice none 0 0, .slice none 0 0]) (cs' := [.int .i64 0, .slice none 0 0, .slice none 0 0, .slice none 0 0]) (H.f1.f1.f2) (F.ev (x := .tmp 6) rfl) (F.ev (x := .tmp 40) rfl) rfl sz34 rfl (Nat.le_of_ble_eq_true rfl) rfl rfl
    refine ls (qn F (.inl rfl) (hr _ _ _ _) fun a F => ?_)
    refine as_ F (v := .bool false) rfl fun a F => ?_
    refine rgend ?_
    replace F := F.only [7, 6] (l' := [(7, .bool false), (6, .pointer (some ⟨g1, 0, none⟩))]) rfl
    refine wp_ret ?_
    replace H := H.nilRd kByte
    replace H := H.nilRd (kSlice kByte)
    try dsimp only at h
    obtain ⟨rfl, rfl⟩ := Prod.mk.inj (Option.some.inj h)
    exact RET _ _ (retC2 F rfl rfl rfl (ldvA (cel_range (o := 0) (n := 4) (vs := [.int .i64 0, .slice none 0 0, .slice none 0 0, .slice none 0 0]) (H.cell 0 rfl) rfl) agg34 rfl) ⟨_, rfl, none, 0, none, 0, none, 0, rfl, H.p0.p1.p3.px3.px3.px3.fx1.fx0⟩)
def ref17_Greatest_b0 (a0 : ref15_Disk) (a1 : Int) (a2 : Int) : (Int × Int) → Option (Int × Int ⊕ Int)
  | (x1, x2) => (((if x2 < a2 then some ((decide (x2 ≤ 4096))) else some false) : Option (Bool)).bind fun x5 => (if x5 = true then ((ref17_sector_f a0 a1 a2 x2).bind fun (x9, x10) => (((if x10 = true then some ((max x1 x9.Gen)) else some x1) : Option (Int)).bind fun x15 => some (.inl (x15, IntKind.i64.wrap (x2 + 1))))) else some (.inr x1)))
def ref17_Greatest_f (a0 : ref15_Disk) (a1 : Int) (a2 : Int) : Option (Int) :=
  ((lp (ref17_Greatest_b0 a0 a1 a2) (0, 0)).bind fun x3 => some x3)
set_option maxHeartbeats 4000000 in
set_option maxRecDepth 20000 in
theorem ref17_Greatest_ok {w0 w : World} {ps : List PF} {fs : List SF} {a0 : ref15_Disk} {g0_ : Nat} {a1 : Int} {a2 : Int} {r0 : Int} (H : Hp w0 ps (obj_ref15_Disk g0_ a0 :: fs) w) (h : ref17_Greatest_f a0 a1 a2 = some r0) :
    Calls Try.prog 16 [.pointer (some ⟨g0_, 0, none⟩), .int .i64 a1, .int .i64 a2].toArray w fun e w' => ∃ v, e = .returned v ∧ v = .int .i64 r0 ∧ Hp w0 ps (obj_ref15_Disk g0_ a0 :: fs) w' := by
  refine enter [.pointer (some ⟨g0_, 0, none⟩), .int .i64 a1, .int .i64 a2] 34 Try.func16 fun Q a NP RET NRM F => ?_
  replace NP : ∀ c a w, ¬ Q (.panic c) a w := fun c a w h => by rcases NP c a w h with h | ⟨w, v, h, _⟩ <;> cases h
  unfold ref17_Greatest_f at h
  refine rg ?_
  refine as_ F (v := .int .i64 0) rfl fun a F => ?_
  refine rgend ?_
  refine rg ?_
  refine as_ F (v := .int .i64 0) rfl fun a F => ?_
  refine rgend ?_
  refine wp_seq ?_
  refine rg ?_
  refine as_ F (v := .int .i64 0) rfl fun a F => ?_
  refine rgend ?_
  obtain ⟨o_3, k_3, h⟩ := Option.bind_eq_some_iff.1 h
  refine cut (fun a w => ∃ (x3 : Int), x3 = o_3 ∧ Fr 34 [] [(7, .int .i64 x3)] a ∧ Hp w0 ps (obj_ref15_Disk g0_ a0 :: fs) w) (wp_block ?_) ?_
  · refine wloop (ref17_Greatest_b0 a0 a1 a2) (fun (s : Int × Int) a w => Fr 34 [] [(0, .pointer (some ⟨g0_, 0, none⟩)), (1, .int .i64 a1), (2, .int .i64 a2), (7, .int .i64 s.1), (8, .int .i64 s.2)] a ∧ Hp w0 ps (obj_ref15_Disk g0_ a0 :: fs) w) k_3 ⟨F.only [0, 1, 2, 7, 8] rfl, H⟩ ?_
    rintro ⟨x1, x2⟩ a w q_3 j_3 u_3 ⟨F, H⟩
    unfold ref17_Greatest_b0 at j_3
    try dsimp only at j_3 F H
    refine wp_seq ?_
    refine wp_seq ?_
    obtain ⟨o_5, k_5, j_3⟩ := Option.bind_eq_some_iff.1 j_3
    refine cut (fun a w => ∃ (x5 : Bool), x5 = o_5 ∧ Fr 34 [] [(0, .pointer (some ⟨g0_, 0, none⟩)), (1, .int .i64 a1), (2, .int .i64 a2), (7, .int .i64 x1), (8, .int .i64 x2), (17, .bool x5)] a ∧ Hp w0 ps (obj_ref15_Disk g0_ a0 :: fs) w) ?_ ?_
    · skip
      refine wp_region_lit ?_
      refine mv F rfl fun a F => ?_
      refine mv F rfl fun a F => ?_
      refine ls (qv F (r_lt (F.ev (x := .tmp 11) rfl) (F.ev (x := .tmp 12) rfl)) fun a F => ?_)
      refine mv F rfl fun a F => ?_
      by_cases c7 : x2 < a2
      · rw [if_pos c7] at k_5
        rw [decide_eq_true c7] at F
        refine mv F rfl fun a F => ?_
        refine ls (qv F (r_le (F.ev (x := .tmp 15) rfl) (F.ev (x := .const (.int .i64 4096)) rfl)) fun a F => ?_)
        refine ls (qv F (r_pickT (F.ev (x := .tmp 14) rfl) (F.ev (x := .tmp 16) rfl)) fun a F => ?_)
        refine wpList_nil ?_
        replace F := F.only [17, 0, 1, 2, 7, 8] (l' := [(17, .bool (decide (x2 ≤ 4096))), (0, .pointer (some ⟨g0_, 0, none⟩)), (1, .int .i64 a1), (2, .int .i64 a2), (7, .int .i64 x1), (8, .int .i64 x2)]) rfl
        try dsimp only at k_5
        obtain rfl := Option.some.inj k_5
        exact ⟨_, rfl, F.only [0, 1, 2, 7, 8, 17] rfl, H⟩
      · rw [if_neg c7] at k_5
        rw [decide_eq_false c7] at F
        refine ls (off F fun a F => ?_)
        refine ls (off F fun a F => ?_)
        refine ls (qv F (r_pickF (F.ev (x := .tmp 14) rfl) (F.ev (x := .const (.bool false)) rfl)) fun a F => ?_)
        refine wpList_nil ?_
        replace F := F.only [17, 0, 1, 2, 7, 8] (l' := [(17, .bool false), (0, .pointer (some ⟨g0_, 0, none⟩)), (1, .int .i64 a1), (2, .int .i64 a2), (7, .int .i64 x1), (8, .int .i64 x2)]) rfl
        try dsimp only at k_5
        obtain rfl := Option.some.inj k_5
        exact ⟨_, rfl, F.only [0, 1, 2, 7, 8, 17] rfl, H⟩
    · rintro a w ⟨x5, rfl, F, H⟩
      try dsimp only at j_3 F H
      by_cases c8 : x5 = true
      · rw [if_pos c8] at j_3
        rw [c8] at F
        refine wp_cond_true (F.ev rfl) ?_
        refine wp_skip ?_
        refine wp_seq ?_
        refine wp_block ?_
        refine rg ?_
        refine mv F rfl fun a F => ?_
        refine mv F rfl fun a F => ?_
        refine mv F rfl fun a F => ?_
        refine mv F rfl fun a F => ?_
        obtain ⟨⟨x9, x10⟩, e11, j_3⟩ := Option.bind_eq_some_iff.1 j_3
        try dsimp only at j_3
        refine ls (call F Try.func36 (ref17_sector_ok (H) e11) rfl rfl fun v w hR a F => ?_)
        obtain ⟨A12, c13, rfl, H⟩ := hR
        refine mv F rfl fun a F => ?_
        refine ls (qv F (r_ex (F.ev (x := .tmp 20) rfl) rfl) fun a F => ?_)
        refine ls (qv F (r_ex (F.ev (x := .tmp 20) rfl) rfl) fun a F => ?_)
        refine ls (lal F H ti26 (cs := [.int .i64 0, .int .i64 0, .int .i64 0, .int .i64 0, .slice none 0 0]) rfl fun g14 w a H F => ?_)
        obtain ⟨_, hr, H⟩ := Hp.store (t := 26) (o := 0) (n := 5) (vs := [.int .i64 x9.Gen, .int .i64 x9.Place, .int .i64 x9.Parts, .int .i64 x9.Kept, .slice A12 x9.Body.length c13]) (cs' := [.int .i64 x9.Gen, .int .i64 x9.Place, .int .i64 x9.Parts, .int .i64 x9.Kept, .slice A12 x9.Body.length c13]) (H) (F.ev (x := .tmp 9) rfl) (F.ev (x := .tmp 26) rfl) rfl sz26 rfl (Nat.le_of_ble_eq_true rfl) rfl rfl
        refine ls (qn F (.inl rfl) (hr _ _ _ _) fun a F => ?_)
        refine as_ F rfl fun a F => ?_
        refine rgend ?_
        replace F := F.only [10, 9, 0, 1, 2, 7, 8] (l' := [(10, .bool x10), (9, .pointer (some ⟨g14, 0, none⟩)), (0, .pointer (some ⟨g0_, 0, none⟩)), (1, .int .i64 a1), (2, .int .i64 a2), (7, .int .i64 x1), (8, .int .i64 x2)]) rfl
        refine rg ?_
        refine mv F rfl fun a F => ?_
        refine rgend ?_
        obtain ⟨o_15, k_15, j_3⟩ := Option.bind_eq_some_iff.1 j_3
        refine cut (fun a w => ∃ (x15 : Int), x15 = o_15 ∧ Fr 34 [] [(0, .pointer (some ⟨g0_, 0, none⟩)), (1, .int .i64 a1), (2, .int .i64 a2), (7, .int .i64 x15), (8, .int .i64 x2)] a ∧ Hp w0 ps (obj_ref15_Disk g0_ a0 :: fs) w) ?_ ?_
        · skip
          by_cases c17 : x10 = true
          · rw [if_pos c17] at k_15
            rw [c17] at F
            refine wp_cond_true (F.ev rfl) ?_
            refine wp_region_lit ?_
            refine mv F rfl fun a F => ?_
            refine ls (qv F (r_fa (off := 0) (F.ev (x := .tmp 9) rfl) fa26_0) fun a F => ?_)
            refine ls (qv F (r_ld (F.ev (x := .tmp 30) rfl) (cel_cell (o := 0) (H.cell 0 rfl) rfl) one2) fun a F => ?_)
            refine ls (qv F (r_max (F.ev (x := .tmp 29) rfl) (F.ev (x := .tmp 31) rfl)) fun a F => ?_)
            refine as_ F rfl fun a F => ?_
            refine wpList_nil ?_
            replace F := F.only [7, 0, 1, 2, 8] (l' := [(7, .int .i64 (max x1 x9.Gen)), (0, .pointer (some ⟨g0_, 0, none⟩)), (1, .int .i64 a1), (2, .int .i64 a2), (8, .int .i64 x2)]) rfl
            try dsimp only at k_15
            obtain rfl := Option.some.inj k_15
            exact ⟨_, rfl, F.only [0, 1, 2, 7, 8] rfl, H.px0.fx0⟩
          · rw [if_neg c17] at k_15
            rw [Bool.eq_false_iff.2 c17] at F
            refine wp_cond_false (F.ev rfl) ?_
            refine wp_skip ?_
            try dsimp only at k_15
            obtain rfl := Option.some.inj k_15
            exact ⟨_, rfl, F.only [0, 1, 2, 7, 8] rfl, H.px0.fx0⟩
        · rintro a w ⟨x15, rfl, F, H⟩
          try dsimp only at j_3 F H
          refine wp_region_lit ?_
          refine mv F rfl fun a F => ?_
          refine ls (qv F (r_add (F.ev (x := .tmp 18) rfl) (F.ev (x := .const (.int .i64 1)) rfl)) fun a F => ?_)
          refine as_ F rfl fun a F => ?_
          refine wpList_nil ?_
          try dsimp only at j_3
          obtain rfl := Option.some.inj j_3
          exact ⟨_, rfl, F.only [0, 1, 2, 7, 8] rfl, H⟩
      · rw [if_neg c8] at j_3
        rw [Bool.eq_false_iff.2 c8] at F
        refine wp_cond_false (F.ev rfl) ?_
        refine wp_exit ?_
        try dsimp only at j_3
        obtain rfl := Option.some.inj j_3
        obtain rfl := u_3 _ rfl
        repeat (with_reducible refine exT ?_)
        with_reducible refine exB ?_
        exact ⟨_, rfl, F.only [7] rfl, H⟩
  · rintro a w ⟨x3, rfl, F, H⟩
    try dsimp only at h F H
    refine rg ?_
    refine mv F rfl fun a F => ?_
    refine as_ F rfl fun a F => ?_
    refine rgend ?_
    refine wp_ret ?_
    try dsimp only at h
    obtain rfl := Option.some.inj h
    exact RET _ _ (ret1 F rfl rfl ⟨_, rfl, rfl, H⟩)
def ref17_Lay_b1 (a1 : Int) (a3 : Int) (a4 : List Int) (a5 : List (List Int)) (x19 : Int) : (Int × ref15_Disk) → Option (Int × ref15_Disk ⊕ (ref15_Disk ⊕ (Int × ref15_Disk)))
  | (x22, x23) => (if x22 < (IntKind.i64.wrap (x19 + (a5.length : Int))) then (((if x22 < x19 then (if 0 ≤ IntKind.i64.wrap (50 * x22) ∧ IntKind.i64.wrap (50 * x22) ≤ min (IntKind.i64.wrap ((IntKind.i64.wrap (50 * x22)) + 50)) (a4.length : Int) ∧ min (IntKind.i64.wrap ((IntKind.i64.wrap (50 * x22)) + 50)) (a4.length : Int) ≤ (a4.length : Int) then some ((((a4.take (min (IntKind.i64.wrap ((IntKind.i64.wrap (50 * x22)) + 50)) (a4.length : Int)).toNat).drop (IntKind.i64.wrap (50 * x22)).toNat))) else none) else (if 0 ≤ IntKind.i64.wrap (x22 - x19) ∧ IntKind.i64.wrap (x22 - x19) < (a5.length : Int) then some (((a5.getD (IntKind.i64.wrap (x22 - x19) : Int).toNat []))) else none)) : Option (List Int)).bind fun x28 => ((ref16_Put_f ((⟨a3, x22, x19, (a5.length : Int), x28⟩ : api_Sector))).bind fun x42 => ((ref15_Disk_Write_f x23 (IntKind.i64.wrap (a1 + x22)) x42).bind fun (x46, x47) => (if x46 ≠ 0 then some (.inr (.inr (x46, x47))) else some (.inl (IntKind.i64.wrap (x22 + 1), x47)))))) else some (.inr (.inl x23)))
def ref17_Lay_b0 (a0 : ref15_Disk) (a5 : List (List Int)) : Int → Option (Int ⊕ (Unit ⊕ (Int × ref15_Disk)))
  | x7 => (if x7 < (a5.length : Int) then (if 0 ≤ x7 ∧ x7 < (a5.length : Int) then ((ref17_Entry_f ((a5.getD (x7 : Int).toNat []))).bind fun x16 => (if x16 = true then some (.inl (IntKind.i64.wrap (x7 + 1))) else some (.inr (.inr (1, a0))))) else none) else some (.inr (.inl ())))
def ref17_Lay_f (a0 : ref15_Disk) (a1 : Int) (a2 : Int) (a3 : Int) (a4 : List Int) (a5 : List (List Int)) : Option (Int × ref15_Disk) :=
  (if a3 < 1 then some (1, a0) else (if a3 > 281474976710656 then some (1, a0) else ((ref17_State_f a4).bind fun x3 => (if x3 = true then (if (a5.length : Int) > 1000 then some (1, a0) else ((lp (ref17_Lay_b0 a0 a5) 0).bind fun q => match q with | .inl _ => ((ref17_Parts_f a4).bind fun x19 => (if (IntKind.i64.wrap (x19 + (a5.length : Int))) > a2 then some (5, a0) else ((lp (ref17_Lay_b1 a1 a3 a4 a5 x19) (0, a0)).bind fun q => match q with | .inl x24 => some (0, x24) | .inr r => some r))) | .inr r => some r)) else some (1, a0)))))
set_option maxHeartbeats 4000000 in
set_option maxRecDepth 20000 in
theorem ref17_Lay_ok {w0 w : World} {ps : List PF} {fs : List SF} {a0 : ref15_Disk} {g0_ : Nat} {a1 : Int} {a2 : Int} {a3 : Int} {a4 : List Int} {A4_ : Option Addr} {c4_ : Nat} {a5 : List (List Int)} {A5_ : Option Addr} {c5_ : Nat} {r0 : Int} {s0 : ref15_Disk} (H : Hp w0 (rd kByte A4_ c4_ a4 :: rd (kSlice kByte) A5_ c5_ a5 :: ps) (obj_ref15_Disk g0_ a0 :: fs) w) (h : ref17_Lay_f a0 a1 a2 a3 a4 a5 = some (r0, s0)) :
    Calls Try.prog 29 [.pointer (some ⟨g0_, 0, none⟩), .int .i64 a1, .int .i64 a2, .int .i64 a3, .slice A4_ a4.length c4_, .slice A5_ a5.length c5_].toArray w fun e w' => ∃ v, e = .returned v ∧ v = .int .i64 r0 ∧ Hp w0 ps (obj_ref15_Disk g0_ s0 :: fs) w' := by
  refine enter [.pointer (some ⟨g0_, 0, none⟩), .int .i64 a1, .int .i64 a2, .int .i64 a3, .slice A4_ a4.length c4_, .slice A5_ a5.length c5_] 99 Try.func29 fun Q a NP RET NRM F => ?_
  replace NP : ∀ c a w, ¬ Q (.panic c) a w := fun c a w h => by rcases NP c a w h with h | ⟨w, v, h, _⟩ <;> cases h
  unfold ref17_Lay_f at h
  refine rg ?_
  refine as_ F (v := .int .i64 0) rfl fun a F => ?_
  refine rgend ?_
  refine wp_seq ?_
  refine rg ?_
  refine mv F rfl fun a F => ?_
  refine ls (qv F (r_lt (F.ev (x := .tmp 18) rfl) (F.ev (x := .const (.int .i64 1)) rfl)) fun a F => ?_)
  refine mv F rfl fun a F => ?_
  by_cases c1 : a3 < 1
  · rw [if_pos c1] at h
    rw [decide_eq_true c1] at F
    refine ls (off F fun a F => ?_)
    refine ls (off F fun a F => ?_)
    refine ls (qv F (r_pickT (F.ev (x := .tmp 20) rfl) (F.ev (x := .const (.bool true)) rfl)) fun a F => ?_)
    refine mv F rfl fun a F => ?_
    refine ls (off F fun a F => ?_)
    refine ls (off F fun a F => ?_)
    refine ls (off F fun a F => ?_)
    refine ls (qv F (r_pickT (F.ev (x := .tmp 24) rfl) (F.ev (x := .const (.bool true)) rfl)) fun a F => ?_)
    refine mv F rfl fun a F => ?_
    refine ls (off F fun a F => ?_)
    refine ls (off F fun a F => ?_)
    refine ls (off F fun a F => ?_)
    refine ls (qv F (r_pickT (F.ev (x := .tmp 29) rfl) (F.ev (x := .const (.bool true)) rfl)) fun a F => ?_)
    refine rgend ?_
    replace F := F.only [33, 0, 1, 2, 3, 4, 5] (l' := [(33, .bool true), (0, .pointer (some ⟨g0_, 0, none⟩)), (1, .int .i64 a1), (2, .int .i64 a2), (3, .int .i64 a3), (4, .slice A4_ a4.length c4_), (5, .slice A5_ a5.length c5_)]) rfl
    refine wp_cond_true (F.ev rfl) ?_
    refine rg ?_
    refine as_ F (v := .int .i64 1) rfl fun a F => ?_
    refine rgend ?_
    replace F := F.only [12] (l' := [(12, .int .i64 1)]) rfl
    refine wp_ret ?_
    try dsimp only at h
    obtain ⟨rfl, rfl⟩ := Prod.mk.inj (Option.some.inj h)
    exact RET _ _ (ret1 F rfl rfl ⟨_, rfl, rfl, H.px1.px0⟩)
  · rw [if_neg c1] at h
    rw [decide_eq_false c1] at F
    refine mv F rfl fun a F => ?_
    refine ls (qv F (r_gt (F.ev (x := .tmp 21) rfl) (F.ev (x := .const (.int .i64 281474976710656)) rfl)) fun a F => ?_)
    refine ls (qv F (r_pickF (F.ev (x := .tmp 20) rfl) (F.ev (x := .tmp 22) rfl)) fun a F => ?_)
    refine mv F rfl fun a F => ?_
    by_cases c2 : a3 > 281474976710656
    · rw [if_pos c2] at h
      rw [decide_eq_true c2] at F
      refine ls (off F fun a F => ?_)
      refine ls (off F fun a F => ?_)
      refine ls (off F fun a F => ?_)
      refine ls (qv F (r_pickT (F.ev (x := .tmp 24) rfl) (F.ev (x := .const (.bool true)) rfl)) fun a F => ?_)
      refine mv F rfl fun a F => ?_
      refine ls (off F fun a F => ?_)
      refine ls (off F fun a F => ?_)
      refine ls (off F fun a F => ?_)
      refine ls (qv F (r_pickT (F.ev (x := .tmp 29) rfl) (F.ev (x := .const (.bool true)) rfl)) fun a F => ?_)
      refine rgend ?_
      replace F := F.only [33, 0, 1, 2, 3, 4, 5] (l' := [(33, .bool true), (0, .pointer (some ⟨g0_, 0, none⟩)), (1, .int .i64 a1), (2, .int .i64 a2), (3, .int .i64 a3), (4, .slice A4_ a4.length c4_), (5, .slice A5_ a5.length c5_)]) rfl
      refine wp_cond_true (F.ev rfl) ?_
      refine rg ?_
      refine as_ F (v := .int .i64 1) rfl fun a F => ?_
      refine rgend ?_
      replace F := F.only [12] (l' := [(12, .int .i64 1)]) rfl
      refine wp_ret ?_
      try dsimp only at h
      obtain ⟨rfl, rfl⟩ := Prod.mk.inj (Option.some.inj h)
      exact RET _ _ (ret1 F rfl rfl ⟨_, rfl, rfl, H.px1.px0⟩)
    · rw [if_neg c2] at h
      rw [decide_eq_false c2] at F
      refine mv F rfl fun a F => ?_
      obtain ⟨x3, e4, h⟩ := Option.bind_eq_some_iff.1 h
      try dsimp only at h
      refine ls (call F Try.func53 (ref17_State_ok (H.p0) e4) rfl rfl fun v w hR a F => ?_)
      obtain ⟨rfl, H⟩ := hR
      refine ls (qv F (r_not (F.ev (x := .tmp 26) rfl)) fun a F => ?_)
      refine ls (qv F (r_pickF (F.ev (x := .tmp 24) rfl) (F.ev (x := .tmp 27) rfl)) fun a F => ?_)
      refine mv F rfl fun a F => ?_
      by_cases c5 : x3 = true
      · rw [if_pos c5] at h
        rw [c5] at F
        refine mv F rfl fun a F => ?_
        refine ls (qv F (r_len (F.ev (x := .tmp 30) rfl) Try.underlying32) fun a F => ?_)
        refine ls (qv F (r_gt (F.ev (x := .tmp 31) rfl) (F.ev (x := .const (.int .i64 1000)) rfl)) fun a F => ?_)
        refine ls (qv F (r_pickF (F.ev (x := .tmp 29) rfl) (F.ev (x := .tmp 32) rfl)) fun a F => ?_)
        refine rgend ?_
        replace F := F.only [33, 0, 1, 2, 3, 4, 5] (l' := [(33, .bool (decide ((a5.length : Int) > 1000))), (0, .pointer (some ⟨g0_, 0, none⟩)), (1, .int .i64 a1), (2, .int .i64 a2), (3, .int .i64 a3), (4, .slice A4_ a4.length c4_), (5, .slice A5_ a5.length c5_)]) rfl
        by_cases c6 : (a5.length : Int) > 1000
        · rw [if_pos c6] at h
          rw [decide_eq_true c6] at F
          refine wp_cond_true (F.ev rfl) ?_
          refine rg ?_
          refine as_ F (v := .int .i64 1) rfl fun a F => ?_
          refine rgend ?_
          replace F := F.only [12] (l' := [(12, .int .i64 1)]) rfl
          refine wp_ret ?_
          try dsimp only at h
          obtain ⟨rfl, rfl⟩ := Prod.mk.inj (Option.some.inj h)
          exact RET _ _ (ret1 F rfl rfl ⟨_, rfl, rfl, H.px1.px0⟩)
        · rw [if_neg c6] at h
          rw [decide_eq_false c6] at F
          refine wp_cond_false (F.ev rfl) ?_
          refine wp_skip ?_
          refine wp_seq ?_
          refine rg ?_
          refine as_ F (v := .int .i64 0) rfl fun a F => ?_
          refine rgend ?_
          obtain ⟨o_7, k_7, h⟩ := Option.bind_eq_some_iff.1 h
          refine cut (fun a w => Sum.inl () = o_7 ∧ Fr 99 [] [(0, .pointer (some ⟨g0_, 0, none⟩)), (1, .int .i64 a1), (2, .int .i64 a2), (3, .int .i64 a3), (4, .slice A4_ a4.length c4_), (5, .slice A5_ a5.length c5_)] a ∧ Hp w0 (rd kByte A4_ c4_ a4 :: rd (kSlice kByte) A5_ c5_ a5 :: ps) (obj_ref15_Disk g0_ a0 :: fs) w) (wp_block ?_) ?_
          · refine wloop (ref17_Lay_b0 a0 a5) (fun (s : Int) a w => Fr 99 [] [(0, .pointer (some ⟨g0_, 0, none⟩)), (1, .int .i64 a1), (2, .int .i64 a2), (3, .int .i64 a3), (4, .slice A4_ a4.length c4_), (5, .slice A5_ a5.length c5_), (13, .int .i64 s)] a ∧ Hp w0 (rd kByte A4_ c4_ a4 :: rd (kSlice kByte) A5_ c5_ a5 :: ps) (obj_ref15_Disk g0_ a0 :: fs) w) k_7 ⟨F.only [0, 1, 2, 3, 4, 5, 13] rfl, H⟩ ?_
            rintro x7 a w q_7 j_7 u_7 ⟨F, H⟩
            unfold ref17_Lay_b0 at j_7
            try dsimp only at j_7 F H
            refine wp_seq ?_
            refine rg ?_
            refine mv F rfl fun a F => ?_
            refine mv F rfl fun a F => ?_
            refine ls (qv F (r_len (F.ev (x := .tmp 35) rfl) Try.underlying32) fun a F => ?_)
            refine ls (qv F (r_lt (F.ev (x := .tmp 34) rfl) (F.ev (x := .tmp 36) rfl)) fun a F => ?_)
            refine rgend ?_
            by_cases c9 : x7 < (a5.length : Int)
            · rw [if_pos c9] at j_7
              rw [decide_eq_true c9] at F
              refine wp_cond_true (F.ev rfl) ?_
              refine wp_skip ?_
              refine wp_seq ?_
              refine wp_block ?_
              refine rg ?_
              refine mv F rfl fun a F => ?_
              refine mv F rfl fun a F => ?_
              obtain ⟨c10, j_7⟩ := guardO j_7
              obtain ⟨g11, o12, s13, hr, H⟩ := H.ix [] 1 rfl (F.ev (x := .tmp 40) rfl) (F.ev (x := .tmp 41) rfl) Try.underlying32 sz23 (by decide) c10.1 c10.2
              obtain ⟨A14, c15, rfl, H⟩ := H.says_slice 1 rfl
              refine ls (qv F (hr _ _ _ _ _ _) fun a F => ?_)
              refine ls (qv F (r_ld (F.ev (x := .tmp 42) rfl) (range_cell (j := 0) (H.range 1 rfl) rfl) one23) fun a F => ?_)
              obtain ⟨x16, e17, j_7⟩ := Option.bind_eq_some_iff.1 j_7
              try dsimp only at j_7
              refine ls (call F Try.func54 (ref17_Entry_ok (H.p0) e17) rfl rfl fun v w hR a F => ?_)
              obtain ⟨rfl, H⟩ := hR
              refine ls (qv F (r_not (F.ev (x := .tmp 44) rfl)) fun a F => ?_)
              refine rgend ?_
              replace F := F.only [45, 0, 1, 2, 3, 4, 5, 13] (l' := [(45, .bool (!x16)), (0, .pointer (some ⟨g0_, 0, none⟩)), (1, .int .i64 a1), (2, .int .i64 a2), (3, .int .i64 a3), (4, .slice A4_ a4.length c4_), (5, .slice A5_ a5.length c5_), (13, .int .i64 x7)]) rfl
              by_cases c18 : x16 = true
              · rw [if_pos c18] at j_7
                rw [c18] at F
                refine wp_cond_false (F.ev rfl) ?_
                refine wp_skip ?_
                refine wp_region_lit ?_
                refine mv F rfl fun a F => ?_
                refine ls (qv F (r_add (F.ev (x := .tmp 38) rfl) (F.ev (x := .const (.int .i64 1)) rfl)) fun a F => ?_)
                refine as_ F rfl fun a F => ?_
                refine wpList_nil ?_
                replace F := F.only [13, 0, 1, 2, 3, 4, 5] (l' := [(13, .int .i64 (IntKind.i64.wrap (x7 + 1))), (0, .pointer (some ⟨g0_, 0, none⟩)), (1, .int .i64 a1), (2, .int .i64 a2), (3, .int .i64 a3), (4, .slice A4_ a4.length c4_), (5, .slice A5_ a5.length c5_)]) rfl
                try dsimp only at j_7
                obtain rfl := Option.some.inj j_7
                exact ⟨_, rfl, F.only [0, 1, 2, 3, 4, 5, 13] rfl, H.px2.px1.px0⟩
              · rw [if_neg c18] at j_7
                rw [Bool.eq_false_iff.2 c18] at F
                refine wp_cond_true (F.ev rfl) ?_
                refine rg ?_
                refine as_ F (v := .int .i64 1) rfl fun a F => ?_
                refine rgend ?_
                replace F := F.only [12] (l' := [(12, .int .i64 1)]) rfl
                refine wp_ret ?_
                try dsimp only at j_7
                obtain rfl := Option.some.inj j_7
                obtain rfl := u_7 _ rfl
                try dsimp only at h
                obtain ⟨rfl, rfl⟩ := Prod.mk.inj (Option.some.inj h)
                exact RET _ _ (ret1 F rfl rfl ⟨_, rfl, rfl, H.px4.px3.px2.px1.px0⟩)
            · rw [if_neg c9] at j_7
              rw [decide_eq_false c9] at F
              refine wp_cond_false (F.ev rfl) ?_
              refine wp_exit ?_
              try dsimp only at j_7
              obtain rfl := Option.some.inj j_7
              obtain rfl := u_7 _ rfl
              repeat (with_reducible refine exT ?_)
              with_reducible refine exB ?_
              exact ⟨rfl, F.only [0, 1, 2, 3, 4, 5] rfl, H⟩
          · rintro a w ⟨rfl, F, H⟩
            try dsimp only at h F H
            refine rg ?_
            refine mv F rfl fun a F => ?_
            obtain ⟨x19, e20, h⟩ := Option.bind_eq_some_iff.1 h
            try dsimp only at h
            refine ls (call F Try.func55 (ref17_Parts_ok (H.p0) e20) rfl rfl fun v w hR a F => ?_)
            obtain ⟨rfl, H⟩ := hR
            refine as_ F rfl fun a F => ?_
            refine rgend ?_
            refine wp_seq ?_
            refine rg ?_
            refine mv F rfl fun a F => ?_
            refine mv F rfl fun a F => ?_
            refine ls (qv F (r_len (F.ev (x := .tmp 49) rfl) Try.underlying32) fun a F => ?_)
            refine ls (qv F (r_add (F.ev (x := .tmp 48) rfl) (F.ev (x := .tmp 50) rfl)) fun a F => ?_)
            refine mv F rfl fun a F => ?_
            refine ls (qv F (r_gt (F.ev (x := .tmp 51) rfl) (F.ev (x := .tmp 52) rfl)) fun a F => ?_)
            refine rgend ?_
            replace F := F.only [53, 14, 0, 1, 3, 4, 5] (l' := [(53, .bool (decide ((IntKind.i64.wrap (x19 + (a5.length : Int))) > a2))), (14, .int .i64 x19), (0, .pointer (some ⟨g0_, 0, none⟩)), (1, .int .i64 a1), (3, .int .i64 a3), (4, .slice A4_ a4.length c4_), (5, .slice A5_ a5.length c5_)]) rfl
            by_cases c21 : (IntKind.i64.wrap (x19 + (a5.length : Int))) > a2
            · rw [if_pos c21] at h
              rw [decide_eq_true c21] at F
              refine wp_cond_true (F.ev rfl) ?_
              refine rg ?_
              refine as_ F (v := .int .i64 5) rfl fun a F => ?_
              refine rgend ?_
              replace F := F.only [12] (l' := [(12, .int .i64 5)]) rfl
              refine wp_ret ?_
              try dsimp only at h
              obtain ⟨rfl, rfl⟩ := Prod.mk.inj (Option.some.inj h)
              exact RET _ _ (ret1 F rfl rfl ⟨_, rfl, rfl, H.px1.px0⟩)
            · rw [if_neg c21] at h
              rw [decide_eq_false c21] at F
              refine wp_cond_false (F.ev rfl) ?_
              refine wp_skip ?_
              refine wp_seq ?_
              refine rg ?_
              refine as_ F (v := .int .i64 0) rfl fun a F => ?_
              refine rgend ?_
              obtain ⟨o_24, k_24, h⟩ := Option.bind_eq_some_iff.1 h
              refine cut (fun a w => ∃ (x24 : ref15_Disk), Sum.inl x24 = o_24 ∧ Fr 99 [] [] a ∧ Hp w0 ps (obj_ref15_Disk g0_ x24 :: fs) w) (wp_block ?_) ?_
              · refine wloop (ref17_Lay_b1 a1 a3 a4 a5 x19) (fun (s : Int × ref15_Disk) a w => Fr 99 [] [(0, .pointer (some ⟨g0_, 0, none⟩)), (1, .int .i64 a1), (3, .int .i64 a3), (4, .slice A4_ a4.length c4_), (5, .slice A5_ a5.length c5_), (14, .int .i64 x19), (15, .int .i64 s.1)] a ∧ Hp w0 (rd kByte A4_ c4_ a4 :: rd (kSlice kByte) A5_ c5_ a5 :: ps) (obj_ref15_Disk g0_ s.2 :: fs) w) k_24 ⟨F.only [0, 1, 3, 4, 5, 14, 15] rfl, H⟩ ?_
                rintro ⟨x22, x23⟩ a w q_24 j_24 u_24 ⟨F, H⟩
                unfold ref17_Lay_b1 at j_24
                try dsimp only at j_24 F H
                refine wp_seq ?_
                refine rg ?_
                refine mv F rfl fun a F => ?_
                refine mv F rfl fun a F => ?_
                refine mv F rfl fun a F => ?_
                refine ls (qv F (r_len (F.ev (x := .tmp 56) rfl) Try.underlying32) fun a F => ?_)
                refine ls (qv F (r_add (F.ev (x := .tmp 55) rfl) (F.ev (x := .tmp 57) rfl)) fun a F => ?_)
                refine ls (qv F (r_lt (F.ev (x := .tmp 54) rfl) (F.ev (x := .tmp 58) rfl)) fun a F => ?_)
                refine rgend ?_
                replace F := F.only [59, 0, 1, 3, 4, 5, 14, 15] (l' := [(59, .bool (decide (x22 < (IntKind.i64.wrap (x19 + (a5.length : Int)))))), (0, .pointer (some ⟨g0_, 0, none⟩)), (1, .int .i64 a1), (3, .int .i64 a3), (4, .slice A4_ a4.length c4_), (5, .slice A5_ a5.length c5_), (14, .int .i64 x19), (15, .int .i64 x22)]) rfl
                by_cases c26 : x22 < (IntKind.i64.wrap (x19 + (a5.length : Int)))
                · rw [if_pos c26] at j_24
                  rw [decide_eq_true c26] at F
                  refine wp_cond_true (F.ev rfl) ?_
                  refine wp_skip ?_
                  refine wp_seq ?_
                  refine wp_block ?_
                  refine rg ?_
                  refine mv F rfl fun a F => ?_
                  refine mv F rfl fun a F => ?_
                  refine mv F rfl fun a F => ?_
                  refine mv F rfl fun a F => ?_
                  refine ls (qv F (r_len (F.ev (x := .tmp 65) rfl) Try.underlying32) fun a F => ?_)
                  refine ls (lbd F (vs := [(0, .int .i64 a3), (1, .int .i64 x22), (2, .int .i64 x19), (3, .int .i64 (a5.length : Int))]) (cs := [.int .i64 a3, .int .i64 x22, .int .i64 x19, .int .i64 (a5.length : Int), .slice none 0 0]) rfl (fun w => by kernel_rfl) fun a F => ?_)
                  refine ls (lal F H ti26 (cs := [.int .i64 0, .int .i64 0, .int .i64 0, .int .i64 0, .slice none 0 0]) rfl fun g27 w a H F => ?_)
                  obtain ⟨_, hr, H⟩ := Hp.store (t := 26) (o := 0) (n := 5) (vs := [.int .i64 a3, .int .i64 x22, .int .i64 x19, .int .i64 (a5.length : Int), .slice none 0 0]) (cs' := [.int .i64 a3, .int .i64 x22, .int .i64 x19, .int .i64 (a5.length : Int), .slice none 0 0]) (H) (F.ev (x := .tmp 16) rfl) (F.ev (x := .tmp 67) rfl) rfl sz26 rfl (Nat.le_of_ble_eq_true rfl) rfl rfl
                  refine ls (qn F (.inl rfl) (hr _ _ _ _) fun a F => ?_)
                  refine rgend ?_
                  replace F := F.only [16, 0, 1, 3, 4, 5, 14, 15] (l' := [(16, .pointer (some ⟨g27, 0, none⟩)), (0, .pointer (some ⟨g0_, 0, none⟩)), (1, .int .i64 a1), (3, .int .i64 a3), (4, .slice A4_ a4.length c4_), (5, .slice A5_ a5.length c5_), (14, .int .i64 x19), (15, .int .i64 x22)]) rfl
                  refine wp_seq ?_
                  refine rg ?_
                  refine mv F rfl fun a F => ?_
                  refine mv F rfl fun a F => ?_
                  refine ls (qv F (r_lt (F.ev (x := .tmp 68) rfl) (F.ev (x := .tmp 69) rfl)) fun a F => ?_)
                  refine rgend ?_
                  obtain ⟨o_30, k_30, j_24⟩ := Option.bind_eq_some_iff.1 j_24
                  refine cut (fun a w => ∃ (x28 : List Int), x28 = o_30 ∧ ∃ (A29 : Option Addr) (c30 : Nat), Fr 99 [] [(0, .pointer (some ⟨g0_, 0, none⟩)), (1, .int .i64 a1), (3, .int .i64 a3), (4, .slice A4_ a4.length c4_), (5, .slice A5_ a5.length c5_), (14, .int .i64 x19), (15, .int .i64 x22), (16, .pointer (some ⟨g27, 0, none⟩))] a ∧ Hp w0 (rd kByte A29 c30 x28 :: rd kByte A4_ c4_ a4 :: rd (kSlice kByte) A5_ c5_ a5 :: ps) (cel g27 [.int .i64 a3, .int .i64 x22, .int .i64 x19, .int .i64 (a5.length : Int), .slice A29 x28.length c30] 26 :: obj_ref15_Disk g0_ x23 :: fs) w) ?_ ?_
                  · skip
                    by_cases c32 : x22 < x19
                    · rw [if_pos c32] at k_30
                      rw [decide_eq_true c32] at F
                      refine wp_cond_true (F.ev rfl) ?_
                      refine wp_region_lit ?_
                      refine mv F rfl fun a F => ?_
                      refine mv F rfl fun a F => ?_
                      refine ls (qv F (r_mul (F.ev (x := .const (.int .i64 50)) rfl) (F.ev (x := .tmp 72) rfl)) fun a F => ?_)
                      refine mv F rfl fun a F => ?_
                      refine ls (qv F (r_mul (F.ev (x := .const (.int .i64 50)) rfl) (F.ev (x := .tmp 74) rfl)) fun a F => ?_)
                      refine ls (qv F (r_add (F.ev (x := .tmp 75) rfl) (F.ev (x := .const (.int .i64 50)) rfl)) fun a F => ?_)
                      refine mv F rfl fun a F => ?_
                      refine ls (qv F (r_len (F.ev (x := .tmp 77) rfl) Try.underlying23) fun a F => ?_)
                      refine ls (qv F (r_min (F.ev (x := .tmp 76) rfl) (F.ev (x := .tmp 78) rfl)) fun a F => ?_)
                      obtain ⟨c33, k_30⟩ := guardO k_30
                      obtain ⟨A34, c35, hr, H⟩ := Hp.sl (kd := kByte) (jl := IntKind.i64.wrap (50 * x22)) (jh := min (IntKind.i64.wrap ((IntKind.i64.wrap (50 * x22)) + 50)) (a4.length : Int)) H 0 rfl (F.ev (x := .tmp 71) rfl) Try.underlying23 sz5 (.inr ⟨_, _, rfl, (F.ev (x := .tmp 73) rfl)⟩) (.inr ⟨_, _, rfl, (F.ev (x := .tmp 79) rfl)⟩) c33
                      refine ls (qv F (hr _ _ _ _ _ _) fun a F => ?_)
                      refine ls (qv F (r_fa (off := 4) (F.ev (x := .tmp 16) rfl) fa26_4) fun a F => ?_)
                      obtain ⟨_, hr, H⟩ := Hp.store (t := 23) (o := 4) (n := 1) (vs := [.slice A34 (((a4.take (min (IntKind.i64.wrap ((IntKind.i64.wrap (50 * x22)) + 50)) (a4.length : Int)).toNat).drop (IntKind.i64.wrap (50 * x22)).toNat)).length c35]) (cs' := [.int .i64 a3, .int .i64 x22, .int .i64 x19, .int .i64 (a5.length : Int), .slice A34 (((a4.take (min (IntKind.i64.wrap ((IntKind.i64.wrap (50 * x22)) + 50)) (a4.length : Int)).toNat).drop (IntKind.i64.wrap (50 * x22)).toNat)).length c35]) (H) (F.ev (x := .tmp 81) rfl) (F.ev (x := .tmp 80) rfl) rfl sz23 rfl (Nat.le_of_ble_eq_true rfl) rfl rfl
                      refine ls (qn F (.inl rfl) (hr _ _ _ _) fun a F => ?_)
                      refine wpList_nil ?_
                      replace F := F.only [16, 0, 1, 3, 4, 5, 14, 15] (l' := [(16, .pointer (some ⟨g27, 0, none⟩)), (0, .pointer (some ⟨g0_, 0, none⟩)), (1, .int .i64 a1), (3, .int .i64 a3), (4, .slice A4_ a4.length c4_), (5, .slice A5_ a5.length c5_), (14, .int .i64 x19), (15, .int .i64 x22)]) rfl
                      try dsimp only at k_30
                      obtain rfl := Option.some.inj k_30
                      exact ⟨_, rfl, A34, c35, F.only [0, 1, 3, 4, 5, 14, 15, 16] rfl, H⟩
                    · rw [if_neg c32] at k_30
                      rw [decide_eq_false c32] at F
                      refine wp_cond_false (F.ev rfl) ?_
                      refine wp_region_lit ?_
                      refine mv F rfl fun a F => ?_
                      refine mv F rfl fun a F => ?_
                      refine mv F rfl fun a F => ?_
                      refine ls (qv F (r_sub (F.ev (x := .tmp 83) rfl) (F.ev (x := .tmp 84) rfl)) fun a F => ?_)
                      obtain ⟨c36, k_30⟩ := guardO k_30
                      obtain ⟨g37, o38, s39, hr, H⟩ := H.ix [] 1 rfl (F.ev (x := .tmp 82) rfl) (F.ev (x := .tmp 85) rfl) Try.underlying32 sz23 (by decide) c36.1 c36.2
                      obtain ⟨A40, c41, rfl, H⟩ := H.says_slice 1 rfl
                      refine ls (qv F (hr _ _ _ _ _ _) fun a F => ?_)
                      refine ls (qv F (r_ld (F.ev (x := .tmp 86) rfl) (range_cell (j := 0) (H.range 1 rfl) rfl) one23) fun a F => ?_)
                      refine ls (qv F (r_fa (off := 4) (F.ev (x := .tmp 16) rfl) fa26_4) fun a F => ?_)
                      obtain ⟨_, hr, H⟩ := Hp.store (t := 23) (o := 4) (n := 1) (vs := [.slice A40 ((a5.getD (IntKind.i64.wrap (x22 - x19) : Int).toNat [])).length c41]) (cs' := [.int .i64 a3, .int .i64 x22, .int .i64 x19, .int .i64 (a5.length : Int), .slice A40 ((a5.getD (IntKind.i64.wrap (x22 - x19) : Int).toNat [])).length c41]) (H) (F.ev (x := .tmp 88) rfl) (F.ev (x := .tmp 87) rfl) rfl sz23 rfl (Nat.le_of_ble_eq_true rfl) rfl rfl
                      refine ls (qn F (.inl rfl) (hr _ _ _ _) fun a F => ?_)
                      refine wpList_nil ?_
                      replace F := F.only [16, 0, 1, 3, 4, 5, 14, 15] (l' := [(16, .pointer (some ⟨g27, 0, none⟩)), (0, .pointer (some ⟨g0_, 0, none⟩)), (1, .int .i64 a1), (3, .int .i64 a3), (4, .slice A4_ a4.length c4_), (5, .slice A5_ a5.length c5_), (14, .int .i64 x19), (15, .int .i64 x22)]) rfl
                      try dsimp only at k_30
                      obtain rfl := Option.some.inj k_30
                      exact ⟨_, rfl, A40, c41, F.only [0, 1, 3, 4, 5, 14, 15, 16] rfl, H.px2.px1⟩
                  · rintro a w ⟨x28, rfl, A29, c30, F, H⟩
                    try dsimp only at j_24 F H
                    refine rg ?_
                    refine mv F rfl fun a F => ?_
                    refine mv F rfl fun a F => ?_
                    refine mv F rfl fun a F => ?_
                    refine ls (qv F (r_add (F.ev (x := .tmp 90) rfl) (F.ev (x := .tmp 91) rfl)) fun a F => ?_)
                    refine ls (qv F (r_ldA (F.ev (x := .tmp 16) rfl) (cel_range (o := 0) (n := 5) (vs := [.int .i64 a3, .int .i64 x22, .int .i64 x19, .int .i64 (a5.length : Int), .slice A29 x28.length c30]) (H.cell 0 rfl) rfl) agg26 rfl) fun a F => ?_)
                    obtain ⟨x42, e43, j_24⟩ := Option.bind_eq_some_iff.1 j_24
                    try dsimp only at j_24
                    refine ls (call F Try.func23 (ref16_Put_ok (a0 := (⟨a3, x22, x19, (a5.length : Int), x28⟩ : api_Sector)) (H.p0) e43) rfl rfl fun v w hR a F => ?_)
                    obtain ⟨A44, c45, rfl, H⟩ := hR
                    obtain ⟨⟨x46, x47⟩, e48, j_24⟩ := Option.bind_eq_some_iff.1 j_24
                    try dsimp only at j_24
                    refine ls (call F Try.func33 (ref15_Disk_Write_ok (H.p0.f1) e48) rfl rfl fun v w hR a F => ?_)
                    obtain ⟨rfl, H⟩ := hR
                    refine as_ F rfl fun a F => ?_
                    refine rgend ?_
                    replace F := F.only [17, 0, 1, 3, 4, 5, 14, 15] (l' := [(17, .int .i64 x46), (0, .pointer (some ⟨g0_, 0, none⟩)), (1, .int .i64 a1), (3, .int .i64 a3), (4, .slice A4_ a4.length c4_), (5, .slice A5_ a5.length c5_), (14, .int .i64 x19), (15, .int .i64 x22)]) rfl
                    refine rg ?_
                    refine mv F rfl fun a F => ?_
                    refine ls (qv F (r_ne (F.ev (x := .tmp 96) rfl) (F.ev (x := .const (.int .i64 0)) rfl)) fun a F => ?_)
                    refine rgend ?_
                    by_cases c49 : x46 ≠ 0
                    · rw [if_pos c49] at j_24
                      rw [decide_eq_true c49] at F
                      refine wp_cond_true (F.ev rfl) ?_
                      refine rg ?_
                      refine mv F rfl fun a F => ?_
                      refine as_ F rfl fun a F => ?_
                      refine rgend ?_
                      replace F := F.only [12] (l' := [(12, .int .i64 x46)]) rfl
                      refine wp_ret ?_
                      try dsimp only at j_24
                      obtain rfl := Option.some.inj j_24
                      obtain rfl := u_24 _ rfl
                      try dsimp only at h
                      obtain ⟨rfl, rfl⟩ := Prod.mk.inj (Option.some.inj h)
                      exact RET _ _ (ret1 F rfl rfl ⟨_, rfl, rfl, H.px3.px2.px1.px0.fx1⟩)
                    · rw [if_neg c49] at j_24
                      rw [decide_eq_false c49] at F
                      refine wp_cond_false (F.ev rfl) ?_
                      refine wp_skip ?_
                      refine wp_region_lit ?_
                      refine mv F rfl fun a F => ?_
                      refine ls (qv F (r_add (F.ev (x := .tmp 60) rfl) (F.ev (x := .const (.int .i64 1)) rfl)) fun a F => ?_)
                      refine as_ F rfl fun a F => ?_
                      refine wpList_nil ?_
                      replace F := F.only [15, 0, 1, 3, 4, 5, 14] (l' := [(15, .int .i64 (IntKind.i64.wrap (x22 + 1))), (0, .pointer (some ⟨g0_, 0, none⟩)), (1, .int .i64 a1), (3, .int .i64 a3), (4, .slice A4_ a4.length c4_), (5, .slice A5_ a5.length c5_), (14, .int .i64 x19)]) rfl
                      try dsimp only at j_24
                      obtain rfl := Option.some.inj j_24
                      exact ⟨_, rfl, F.only [0, 1, 3, 4, 5, 14, 15] rfl, H.px1.px0.fx1⟩
                · rw [if_neg c26] at j_24
                  rw [decide_eq_false c26] at F
                  refine wp_cond_false (F.ev rfl) ?_
                  refine wp_exit ?_
                  try dsimp only at j_24
                  obtain rfl := Option.some.inj j_24
                  obtain rfl := u_24 _ rfl
                  repeat (with_reducible refine exT ?_)
                  with_reducible refine exB ?_
                  exact ⟨_, rfl, F.only [] rfl, H.px1.px0⟩
              · rintro a w ⟨x24, rfl, F, H⟩
                try dsimp only at h F H
                refine rg ?_
                refine as_ F (v := .int .i64 0) rfl fun a F => ?_
                refine rgend ?_
                refine wp_ret ?_
                try dsimp only at h
                obtain ⟨rfl, rfl⟩ := Prod.mk.inj (Option.some.inj h)
                exact RET _ _ (ret1 F rfl rfl ⟨_, rfl, rfl, H⟩)
      · rw [if_neg c5] at h
        rw [Bool.eq_false_iff.2 c5] at F
        refine ls (off F fun a F => ?_)
        refine ls (off F fun a F => ?_)
        refine ls (off F fun a F => ?_)
        refine ls (qv F (r_pickT (F.ev (x := .tmp 29) rfl) (F.ev (x := .const (.bool true)) rfl)) fun a F => ?_)
        refine rgend ?_
        replace F := F.only [33, 0, 1, 2, 3, 4, 5] (l' := [(33, .bool true), (0, .pointer (some ⟨g0_, 0, none⟩)), (1, .int .i64 a1), (2, .int .i64 a2), (3, .int .i64 a3), (4, .slice A4_ a4.length c4_), (5, .slice A5_ a5.length c5_)]) rfl
        refine wp_cond_true (F.ev rfl) ?_
        refine rg ?_
        refine as_ F (v := .int .i64 1) rfl fun a F => ?_
        refine rgend ?_
        replace F := F.only [12] (l' := [(12, .int .i64 1)]) rfl
        refine wp_ret ?_
        try dsimp only at h
        obtain ⟨rfl, rfl⟩ := Prod.mk.inj (Option.some.inj h)
        exact RET _ _ (ret1 F rfl rfl ⟨_, rfl, rfl, H.px1.px0⟩)
def ref17_Put_f (a0 : ref15_Disk) (a1 : Int) (a2 : Int) (a3 : api_Region) (a4 : List Int) : Option (Int × ref15_Disk) :=
  ((ref17_Entry_f a4).bind fun x2 => (if x2 = true then (if a3.Gen < 1 then some (1, a0) else (if a3.Gen > 281474976710656 then some (1, a0) else ((ref17_State_f a3.State).bind fun x7 => (if x7 = true then (if (a3.Kept.length : Int) > 1000 then some (1, a0) else ((ref17_Parts_f a3.State).bind fun x11 => (if (IntKind.i64.wrap ((IntKind.i64.wrap (x11 + (a3.Kept.length : Int))) + (a3.More.length : Int))) ≥ a2 then some (5, a0) else ((ref16_Put_f ((⟨a3.Gen, IntKind.i64.wrap ((IntKind.i64.wrap (x11 + (a3.Kept.length : Int))) + (a3.More.length : Int)), x11, (a3.Kept.length : Int), a4⟩ : api_Sector))).bind fun x14 => ((ref15_Disk_Write_f a0 (IntKind.i64.wrap (a1 + (IntKind.i64.wrap ((IntKind.i64.wrap (x11 + (a3.Kept.length : Int))) + (a3.More.length : Int))))) x14).bind fun (x18, x19) => some (x18, x19)))))) else some (1, a0))))) else some (1, a0)))
set_option maxHeartbeats 4000000 in
set_option maxRecDepth 20000 in
theorem ref17_Put_ok {w0 w : World} {ps : List PF} {fs : List SF} {a0 : ref15_Disk} {g0_ : Nat} {a1 : Int} {a2 : Int} {a3 : api_Region} {A3_1 : Option Addr} {c3_1 : Nat} {A3_2 : Option Addr} {c3_2 : Nat} {A3_3 : Option Addr} {c3_3 : Nat} {a4 : List Int} {A4_ : Option Addr} {c4_ : Nat} {r0 : Int} {s0 : ref15_Disk} (H : Hp w0 (rd kByte A3_1 c3_1 a3.State :: rd (kSlice kByte) A3_2 c3_2 a3.Kept :: rd (kSlice kByte) A3_3 c3_3 a3.More :: rd kByte A4_ c4_ a4 :: ps) (obj_ref15_Disk g0_ a0 :: fs) w) (h : ref17_Put_f a0 a1 a2 a3 a4 = some (r0, s0)) :
    Calls Try.prog 31 [.pointer (some ⟨g0_, 0, none⟩), .int .i64 a1, .int .i64 a2, .agg #[.int .i64 a3.Gen, .slice A3_1 a3.State.length c3_1, .slice A3_2 a3.Kept.length c3_2, .slice A3_3 a3.More.length c3_3], .slice A4_ a4.length c4_].toArray w fun e w' => ∃ v, e = .returned v ∧ v = .int .i64 r0 ∧ Hp w0 ps (obj_ref15_Disk g0_ s0 :: fs) w' := by
  refine enter [.pointer (some ⟨g0_, 0, none⟩), .int .i64 a1, .int .i64 a2, .agg #[.int .i64 a3.Gen, .slice A3_1 a3.State.length c3_1, .slice A3_2 a3.Kept.length c3_2, .slice A3_3 a3.More.length c3_3], .slice A4_ a4.length c4_] 68 Try.func31 fun Q a NP RET NRM F => ?_
  replace NP : ∀ c a w, ¬ Q (.panic c) a w := fun c a w h => by rcases NP c a w h with h | ⟨w, v, h, _⟩ <;> cases h
  unfold ref17_Put_f at h
  refine rg ?_
  refine ls (lbox F H rfl (cs := [.int .i64 a3.Gen, .slice A3_1 a3.State.length c3_1, .slice A3_2 a3.Kept.length c3_2, .slice A3_3 a3.More.length c3_3]) rfl fun g1 w a H F => ?_)
  refine as_ F (v := .int .i64 0) rfl fun a F => ?_
  refine rgend ?_
  refine wp_seq ?_
  refine rg ?_
  refine mv F rfl fun a F => ?_
  obtain ⟨x2, e3, h⟩ := Option.bind_eq_some_iff.1 h
  try dsimp only at h
  refine ls (call F Try.func54 (ref17_Entry_ok (H.p3) e3) rfl rfl fun v w hR a F => ?_)
  obtain ⟨rfl, H⟩ := hR
  refine ls (qv F (r_not (F.ev (x := .tmp 14) rfl)) fun a F => ?_)
  refine mv F rfl fun a F => ?_
  by_cases c4 : x2 = true
  · rw [if_pos c4] at h
    rw [c4] at F
    refine ls (qv F (r_fa (off := 0) (F.ev (x := .tmp 8) rfl) fa34_0) fun a F => ?_)
    refine ls (qv F (r_ld (F.ev (x := .tmp 17) rfl) (cel_cell (o := 0) (H.cell 0 rfl) rfl) one2) fun a F => ?_)
    refine ls (qv F (r_lt (F.ev (x := .tmp 18) rfl) (F.ev (x := .const (.int .i64 1)) rfl)) fun a F => ?_)
    refine ls (qv F (r_pickF (F.ev (x := .tmp 16) rfl) (F.ev (x := .tmp 19) rfl)) fun a F => ?_)
    refine mv F rfl fun a F => ?_
    by_cases c5 : a3.Gen < 1
    · rw [if_pos c5] at h
      rw [decide_eq_true c5] at F
      refine ls (off F fun a F => ?_)
      refine ls (off F fun a F => ?_)
      refine ls (off F fun a F => ?_)
      refine ls (qv F (r_pickT (F.ev (x := .tmp 21) rfl) (F.ev (x := .const (.bool true)) rfl)) fun a F => ?_)
      refine mv F rfl fun a F => ?_
      refine ls (off F fun a F => ?_)
      refine ls (off F fun a F => ?_)
      refine ls (off F fun a F => ?_)
      refine ls (off F fun a F => ?_)
      refine ls (qv F (r_pickT (F.ev (x := .tmp 26) rfl) (F.ev (x := .const (.bool true)) rfl)) fun a F => ?_)
      refine mv F rfl fun a F => ?_
      refine ls (off F fun a F => ?_)
      refine ls (off F fun a F => ?_)
      refine ls (off F fun a F => ?_)
      refine ls (off F fun a F => ?_)
      refine ls (qv F (r_pickT (F.ev (x := .tmp 32) rfl) (F.ev (x := .const (.bool true)) rfl)) fun a F => ?_)
      refine rgend ?_
      replace F := F.only [37, 8, 0, 1, 2, 4] (l' := [(37, .bool true), (8, .pointer (some ⟨g1, 0, none⟩)), (0, .pointer (some ⟨g0_, 0, none⟩)), (1, .int .i64 a1), (2, .int .i64 a2), (4, .slice A4_ a4.length c4_)]) rfl
      refine wp_cond_true (F.ev rfl) ?_
      refine rg ?_
      refine as_ F (v := .int .i64 1) rfl fun a F => ?_
      refine rgend ?_
      replace F := F.only [10] (l' := [(10, .int .i64 1)]) rfl
      refine wp_ret ?_
      try dsimp only at h
      obtain ⟨rfl, rfl⟩ := Prod.mk.inj (Option.some.inj h)
      exact RET _ _ (ret1 F rfl rfl ⟨_, rfl, rfl, H.px3.px2.px1.px0.fx0⟩)
    · rw [if_neg c5] at h
      rw [decide_eq_false c5] at F
      refine ls (qv F (r_fa (off := 0) (F.ev (x := .tmp 8) rfl) fa34_0) fun a F => ?_)
      refine ls (qv F (r_ld (F.ev (x := .tmp 22) rfl) (cel_cell (o := 0) (H.cell 0 rfl) rfl) one2) fun a F => ?_)
      refine ls (qv F (r_gt (F.ev (x := .tmp 23) rfl) (F.ev (x := .const (.int .i64 281474976710656)) rfl)) fun a F => ?_)
      refine ls (qv F (r_pickF (F.ev (x := .tmp 21) rfl) (F.ev (x := .tmp 24) rfl)) fun a F => ?_)
      refine mv F rfl fun a F => ?_
      by_cases c6 : a3.Gen > 281474976710656
      · rw [if_pos c6] at h
        rw [decide_eq_true c6] at F
        refine ls (off F fun a F => ?_)
        refine ls (off F fun a F => ?_)
        refine ls (off F fun a F => ?_)
        refine ls (off F fun a F => ?_)
        refine ls (qv F (r_pickT (F.ev (x := .tmp 26) rfl) (F.ev (x := .const (.bool true)) rfl)) fun a F => ?_)
        refine mv F rfl fun a F => ?_
        refine ls (off F fun a F => ?_)
        refine ls (off F fun a F => ?_)
        refine ls (off F fun a F => ?_)
        refine ls (off F fun a F => ?_)
        refine ls (qv F (r_pickT (F.ev (x := .tmp 32) rfl) (F.ev (x := .const (.bool true)) rfl)) fun a F => ?_)
        refine rgend ?_
        replace F := F.only [37, 8, 0, 1, 2, 4] (l' := [(37, .bool true), (8, .pointer (some ⟨g1, 0, none⟩)), (0, .pointer (some ⟨g0_, 0, none⟩)), (1, .int .i64 a1), (2, .int .i64 a2), (4, .slice A4_ a4.length c4_)]) rfl
        refine wp_cond_true (F.ev rfl) ?_
        refine rg ?_
        refine as_ F (v := .int .i64 1) rfl fun a F => ?_
        refine rgend ?_
        replace F := F.only [10] (l' := [(10, .int .i64 1)]) rfl
        refine wp_ret ?_
        try dsimp only at h
        obtain ⟨rfl, rfl⟩ := Prod.mk.inj (Option.some.inj h)
        exact RET _ _ (ret1 F rfl rfl ⟨_, rfl, rfl, H.px3.px2.px1.px0.fx0⟩)
      · rw [if_neg c6] at h
        rw [decide_eq_false c6] at F
        refine ls (qv F (r_fa (off := 1) (F.ev (x := .tmp 8) rfl) fa34_1) fun a F => ?_)
        refine ls (qv F (r_ld (F.ev (x := .tmp 27) rfl) (cel_cell (o := 1) (H.cell 0 rfl) rfl) one23) fun a F => ?_)
        obtain ⟨x7, e8, h⟩ := Option.bind_eq_some_iff.1 h
        try dsimp only at h
        refine ls (call F Try.func53 (ref17_State_ok (H.p0) e8) rfl rfl fun v w hR a F => ?_)
        obtain ⟨rfl, H⟩ := hR
        refine ls (qv F (r_not (F.ev (x := .tmp 29) rfl)) fun a F => ?_)
        refine ls (qv F (r_pickF (F.ev (x := .tmp 26) rfl) (F.ev (x := .tmp 30) rfl)) fun a F => ?_)
        refine mv F rfl fun a F => ?_
        by_cases c9 : x7 = true
        · rw [if_pos c9] at h
          rw [c9] at F
          refine ls (qv F (r_fa (off := 2) (F.ev (x := .tmp 8) rfl) fa34_2) fun a F => ?_)
          refine ls (qv F (r_ld (F.ev (x := .tmp 33) rfl) (cel_cell (o := 2) (H.cell 0 rfl) rfl) one32) fun a F => ?_)
          refine ls (qv F (r_len (F.ev (x := .tmp 34) rfl) Try.underlying32) fun a F => ?_)
          refine ls (qv F (r_gt (F.ev (x := .tmp 35) rfl) (F.ev (x := .const (.int .i64 1000)) rfl)) fun a F => ?_)
          refine ls (qv F (r_pickF (F.ev (x := .tmp 32) rfl) (F.ev (x := .tmp 36) rfl)) fun a F => ?_)
          refine rgend ?_
          replace F := F.only [37, 8, 0, 1, 2, 4] (l' := [(37, .bool (decide ((a3.Kept.length : Int) > 1000))), (8, .pointer (some ⟨g1, 0, none⟩)), (0, .pointer (some ⟨g0_, 0, none⟩)), (1, .int .i64 a1), (2, .int .i64 a2), (4, .slice A4_ a4.length c4_)]) rfl
          by_cases c10 : (a3.Kept.length : Int) > 1000
          · rw [if_pos c10] at h
            rw [decide_eq_true c10] at F
            refine wp_cond_true (F.ev rfl) ?_
            refine rg ?_
            refine as_ F (v := .int .i64 1) rfl fun a F => ?_
            refine rgend ?_
            replace F := F.only [10] (l' := [(10, .int .i64 1)]) rfl
            refine wp_ret ?_
            try dsimp only at h
            obtain ⟨rfl, rfl⟩ := Prod.mk.inj (Option.some.inj h)
            exact RET _ _ (ret1 F rfl rfl ⟨_, rfl, rfl, H.px3.px2.px1.px0.fx0⟩)
          · rw [if_neg c10] at h
            rw [decide_eq_false c10] at F
            refine wp_cond_false (F.ev rfl) ?_
            refine wp_skip ?_
            refine rg ?_
            refine ls (qv F (r_fa (off := 1) (F.ev (x := .tmp 8) rfl) fa34_1) fun a F => ?_)
            refine ls (qv F (r_ld (F.ev (x := .tmp 38) rfl) (cel_cell (o := 1) (H.cell 0 rfl) rfl) one23) fun a F => ?_)
            obtain ⟨x11, e12, h⟩ := Option.bind_eq_some_iff.1 h
            try dsimp only at h
            refine ls (call F Try.func55 (ref17_Parts_ok (H.p0) e12) rfl rfl fun v w hR a F => ?_)
            obtain ⟨rfl, H⟩ := hR
            refine as_ F rfl fun a F => ?_
            refine rgend ?_
            replace F := F.only [11, 8, 0, 1, 2, 4] (l' := [(11, .int .i64 x11), (8, .pointer (some ⟨g1, 0, none⟩)), (0, .pointer (some ⟨g0_, 0, none⟩)), (1, .int .i64 a1), (2, .int .i64 a2), (4, .slice A4_ a4.length c4_)]) rfl
            refine rg ?_
            refine mv F rfl fun a F => ?_
            refine ls (qv F (r_fa (off := 2) (F.ev (x := .tmp 8) rfl) fa34_2) fun a F => ?_)
            refine ls (qv F (r_ld (F.ev (x := .tmp 42) rfl) (cel_cell (o := 2) (H.cell 0 rfl) rfl) one32) fun a F => ?_)
            refine ls (qv F (r_len (F.ev (x := .tmp 43) rfl) Try.underlying32) fun a F => ?_)
            refine ls (qv F (r_add (F.ev (x := .tmp 41) rfl) (F.ev (x := .tmp 44) rfl)) fun a F => ?_)
            refine ls (qv F (r_fa (off := 3) (F.ev (x := .tmp 8) rfl) fa34_3) fun a F => ?_)
            refine ls (qv F (r_ld (F.ev (x := .tmp 46) rfl) (cel_cell (o := 3) (H.cell 0 rfl) rfl) one32) fun a F => ?_)
            refine ls (qv F (r_len (F.ev (x := .tmp 47) rfl) Try.underlying32) fun a F => ?_)
            refine ls (qv F (r_add (F.ev (x := .tmp 45) rfl) (F.ev (x := .tmp 48) rfl)) fun a F => ?_)
            refine as_ F rfl fun a F => ?_
            refine rgend ?_
            replace F := F.only [12, 11, 8, 0, 1, 2, 4] (l' := [(12, .int .i64 (IntKind.i64.wrap ((IntKind.i64.wrap (x11 + (a3.Kept.length : Int))) + (a3.More.length : Int)))), (11, .int .i64 x11), (8, .pointer (some ⟨g1, 0, none⟩)), (0, .pointer (some ⟨g0_, 0, none⟩)), (1, .int .i64 a1), (2, .int .i64 a2), (4, .slice A4_ a4.length c4_)]) rfl
            refine wp_seq ?_
            refine rg ?_
            refine mv F rfl fun a F => ?_
            refine mv F rfl fun a F => ?_
            refine ls (qv F (r_ge (F.ev (x := .tmp 50) rfl) (F.ev (x := .tmp 51) rfl)) fun a F => ?_)
            refine rgend ?_
            by_cases c13 : (IntKind.i64.wrap ((IntKind.i64.wrap (x11 + (a3.Kept.length : Int))) + (a3.More.length : Int))) ≥ a2
            · rw [if_pos c13] at h
              rw [decide_eq_true c13] at F
              refine wp_cond_true (F.ev rfl) ?_
              refine rg ?_
              refine as_ F (v := .int .i64 5) rfl fun a F => ?_
              refine rgend ?_
              replace F := F.only [10] (l' := [(10, .int .i64 5)]) rfl
              refine wp_ret ?_
              try dsimp only at h
              obtain ⟨rfl, rfl⟩ := Prod.mk.inj (Option.some.inj h)
              exact RET _ _ (ret1 F rfl rfl ⟨_, rfl, rfl, H.px3.px2.px1.px0.fx0⟩)
            · rw [if_neg c13] at h
              rw [decide_eq_false c13] at F
              refine wp_cond_false (F.ev rfl) ?_
              refine wp_skip ?_
              refine rg ?_
              refine mv F rfl fun a F => ?_
              refine mv F rfl fun a F => ?_
              refine mv F rfl fun a F => ?_
              refine ls (qv F (r_add (F.ev (x := .tmp 54) rfl) (F.ev (x := .tmp 55) rfl)) fun a F => ?_)
              refine ls (qv F (r_fa (off := 0) (F.ev (x := .tmp 8) rfl) fa34_0) fun a F => ?_)
              refine ls (qv F (r_ld (F.ev (x := .tmp 57) rfl) (cel_cell (o := 0) (H.cell 0 rfl) rfl) one2) fun a F => ?_)
              refine mv F rfl fun a F => ?_
              refine mv F rfl fun a F => ?_
              refine ls (qv F (r_fa (off := 2) (F.ev (x := .tmp 8) rfl) fa34_2) fun a F => ?_)
              refine ls (qv F (r_ld (F.ev (x := .tmp 61) rfl) (cel_cell (o := 2) (H.cell 0 rfl) rfl) one32) fun a F => ?_)
              refine ls (qv F (r_len (F.ev (x := .tmp 62) rfl) Try.underlying32) fun a F => ?_)
              refine mv F rfl fun a F => ?_
              refine ls (lbd F (vs := [(0, .int .i64 a3.Gen), (1, .int .i64 (IntKind.i64.wrap ((IntKind.i64.wrap (x11 + (a3.Kept.length : Int))) + (a3.More.length : Int)))), (2, .int .i64 x11), (3, .int .i64 (a3.Kept.length : Int)), (4, .slice A4_ a4.length c4_)]) (cs := [.int .i64 a3.Gen, .int .i64 (IntKind.i64.wrap ((IntKind.i64.wrap (x11 + (a3.Kept.length : Int))) + (a3.More.length : Int))), .int .i64 x11, .int .i64 (a3.Kept.length : Int), .slice A4_ a4.length c4_]) rfl (fun w => by kernel_rfl) fun a F => ?_)
              obtain ⟨x14, e15, h⟩ := Option.bind_eq_some_iff.1 h
              try dsimp only at h
              refine ls (call F Try.func23 (ref16_Put_ok (a0 := (⟨a3.Gen, IntKind.i64.wrap ((IntKind.i64.wrap (x11 + (a3.Kept.length : Int))) + (a3.More.length : Int)), x11, (a3.Kept.length : Int), a4⟩ : api_Sector)) (H.p3) e15) rfl rfl fun v w hR a F => ?_)
              obtain ⟨A16, c17, rfl, H⟩ := hR
              obtain ⟨⟨x18, x19⟩, e20, h⟩ := Option.bind_eq_some_iff.1 h
              try dsimp only at h
              refine ls (call F Try.func33 (ref15_Disk_Write_ok (H.p0.f1) e20) rfl rfl fun v w hR a F => ?_)
              obtain ⟨rfl, H⟩ := hR
              refine as_ F rfl fun a F => ?_
              refine rgend ?_
              replace F := F.only [10] (l' := [(10, .int .i64 x18)]) rfl
              refine wp_ret ?_
              try dsimp only at h
              obtain ⟨rfl, rfl⟩ := Prod.mk.inj (Option.some.inj h)
              exact RET _ _ (ret1 F rfl rfl ⟨_, rfl, rfl, H.px4.px3.px2.px1.px0.fx1⟩)
        · rw [if_neg c9] at h
          rw [Bool.eq_false_iff.2 c9] at F
          refine ls (off F fun a F => ?_)
          refine ls (off F fun a F => ?_)
          refine ls (off F fun a F => ?_)
          refine ls (off F fun a F => ?_)
          refine ls (qv F (r_pickT (F.ev (x := .tmp 32) rfl) (F.ev (x := .const (.bool true)) rfl)) fun a F => ?_)
          refine rgend ?_
          replace F := F.only [37, 8, 0, 1, 2, 4] (l' := [(37, .bool true), (8, .pointer (some ⟨g1, 0, none⟩)), (0, .pointer (some ⟨g0_, 0, none⟩)), (1, .int .i64 a1), (2, .int .i64 a2), (4, .slice A4_ a4.length c4_)]) rfl
          refine wp_cond_true (F.ev rfl) ?_
          refine rg ?_
          refine as_ F (v := .int .i64 1) rfl fun a F => ?_
          refine rgend ?_
          replace F := F.only [10] (l' := [(10, .int .i64 1)]) rfl
          refine wp_ret ?_
          try dsimp only at h
          obtain ⟨rfl, rfl⟩ := Prod.mk.inj (Option.some.inj h)
          exact RET _ _ (ret1 F rfl rfl ⟨_, rfl, rfl, H.px3.px2.px1.px0.fx0⟩)
  · rw [if_neg c4] at h
    rw [Bool.eq_false_iff.2 c4] at F
    refine ls (off F fun a F => ?_)
    refine ls (off F fun a F => ?_)
    refine ls (off F fun a F => ?_)
    refine ls (qv F (r_pickT (F.ev (x := .tmp 16) rfl) (F.ev (x := .const (.bool true)) rfl)) fun a F => ?_)
    refine mv F rfl fun a F => ?_
    refine ls (off F fun a F => ?_)
    refine ls (off F fun a F => ?_)
    refine ls (off F fun a F => ?_)
    refine ls (qv F (r_pickT (F.ev (x := .tmp 21) rfl) (F.ev (x := .const (.bool true)) rfl)) fun a F => ?_)
    refine mv F rfl fun a F => ?_
    refine ls (off F fun a F => ?_)
    refine ls (off F fun a F => ?_)
    refine ls (off F fun a F => ?_)
    refine ls (off F fun a F => ?_)
    refine ls (qv F (r_pickT (F.ev (x := .tmp 26) rfl) (F.ev (x := .const (.bool true)) rfl)) fun a F => ?_)
    refine mv F rfl fun a F => ?_
    refine ls (off F fun a F => ?_)
    refine ls (off F fun a F => ?_)
    refine ls (off F fun a F => ?_)
    refine ls (off F fun a F => ?_)
    refine ls (qv F (r_pickT (F.ev (x := .tmp 32) rfl) (F.ev (x := .const (.bool true)) rfl)) fun a F => ?_)
    refine rgend ?_
    replace F := F.only [37, 8, 0, 1, 2, 4] (l' := [(37, .bool true), (8, .pointer (some ⟨g1, 0, none⟩)), (0, .pointer (some ⟨g0_, 0, none⟩)), (1, .int .i64 a1), (2, .int .i64 a2), (4, .slice A4_ a4.length c4_)]) rfl
    refine wp_cond_true (F.ev rfl) ?_
    refine rg ?_
    refine as_ F (v := .int .i64 1) rfl fun a F => ?_
    refine rgend ?_
    replace F := F.only [10] (l' := [(10, .int .i64 1)]) rfl
    refine wp_ret ?_
    try dsimp only at h
    obtain ⟨rfl, rfl⟩ := Prod.mk.inj (Option.some.inj h)
    exact RET _ _ (ret1 F rfl rfl ⟨_, rfl, rfl, H.px3.px2.px1.px0.fx0⟩)
def ref17_SameRows_b0 (a0 : List (List Int)) (a1 : List (List Int)) : Int → Option (Int ⊕ (Unit ⊕ Bool))
  | x2 => (if x2 < (a0.length : Int) then (if 0 ≤ x2 ∧ x2 < (a0.length : Int) then (if 0 ≤ x2 ∧ x2 < (a1.length : Int) then (if (a0.getD (x2 : Int).toNat []) ≠ (a1.getD (x2 : Int).toNat []) then some (.inr (.inr false)) else some (.inl (IntKind.i64.wrap (x2 + 1)))) else none) else none) else some (.inr (.inl ())))
def ref17_SameRows_f (a0 : List (List Int)) (a1 : List (List Int)) : Option (Bool) :=
  (if (a0.length : Int) ≠ (a1.length : Int) then some false else ((lp (ref17_SameRows_b0 a0 a1) 0).bind fun q => match q with | .inl _ => some true | .inr r => some r))
set_option maxHeartbeats 4000000 in
set_option maxRecDepth 20000 in
theorem ref17_SameRows_ok {w0 w : World} {ps : List PF} {fs : List SF} {a0 : List (List Int)} {A0_ : Option Addr} {c0_ : Nat} {a1 : List (List Int)} {A1_ : Option Addr} {c1_ : Nat} {r0 : Bool} (H : Hp w0 (rd (kSlice kByte) A0_ c0_ a0 :: rd (kSlice kByte) A1_ c1_ a1 :: ps) fs w) (h : ref17_SameRows_f a0 a1 = some r0) :
    Calls Try.prog 38 [.slice A0_ a0.length c0_, .slice A1_ a1.length c1_].toArray w fun e w' => ∃ v, e = .returned v ∧ v = .bool r0 ∧ Hp w0 ps fs w' := by
  refine enter [.slice A0_ a0.length c0_, .slice A1_ a1.length c1_] 28 Try.func38 fun Q a NP RET NRM F => ?_
  replace NP : ∀ c a w, ¬ Q (.panic c) a w := fun c a w h => by rcases NP c a w h with h | ⟨w, v, h, _⟩ <;> cases h
  unfold ref17_SameRows_f at h
  refine rg ?_
  refine as_ F (v := .bool false) rfl fun a F => ?_
  refine rgend ?_
  refine wp_seq ?_
  refine rg ?_
  refine mv F rfl fun a F => ?_
  refine ls (qv F (r_len (F.ev (x := .tmp 6) rfl) Try.underlying32) fun a F => ?_)
  refine mv F rfl fun a F => ?_
  refine ls (qv F (r_len (F.ev (x := .tmp 8) rfl) Try.underlying32) fun a F => ?_)
  refine ls (qv F (r_ne (F.ev (x := .tmp 7) rfl) (F.ev (x := .tmp 9) rfl)) fun a F => ?_)
  refine rgend ?_
  replace F := F.only [10, 0, 1] (l' := [(10, .bool (decide ((a0.length : Int) ≠ (a1.length : Int)))), (0, .slice A0_ a0.length c0_), (1, .slice A1_ a1.length c1_)]) rfl
  by_cases c1 : (a0.length : Int) ≠ (a1.length : Int)
  · rw [if_pos c1] at h
    rw [decide_eq_true c1] at F
    refine wp_cond_true (F.ev rfl) ?_
    refine rg ?_
    refine as_ F (v := .bool false) rfl fun a F => ?_
    refine rgend ?_
    refine wp_ret ?_
    try dsimp only at h
    obtain rfl := Option.some.inj h
    exact RET _ _ (ret1 F rfl rfl ⟨_, rfl, rfl, H.px1.px0⟩)
  · rw [if_neg c1] at h
    rw [decide_eq_false c1] at F
    refine wp_cond_false (F.ev rfl) ?_
    refine wp_skip ?_
    refine wp_seq ?_
    refine rg ?_
    refine as_ F (v := .int .i64 0) rfl fun a F => ?_
    refine rgend ?_
    obtain ⟨o_2, k_2, h⟩ := Option.bind_eq_some_iff.1 h
    refine cut (fun a w => Sum.inl () = o_2 ∧ Fr 28 [] [] a ∧ Hp w0 ps fs w) (wp_block ?_) ?_
    · refine wloop (ref17_SameRows_b0 a0 a1) (fun (s : Int) a w => Fr 28 [] [(0, .slice A0_ a0.length c0_), (1, .slice A1_ a1.length c1_), (5, .int .i64 s)] a ∧ Hp w0 (rd (kSlice kByte) A0_ c0_ a0 :: rd (kSlice kByte) A1_ c1_ a1 :: ps) fs w) k_2 ⟨F.only [0, 1, 5] rfl, H⟩ ?_
      rintro x2 a w q_2 j_2 u_2 ⟨F, H⟩
      unfold ref17_SameRows_b0 at j_2
      try dsimp only at j_2 F H
      refine wp_seq ?_
      refine rg ?_
      refine mv F rfl fun a F => ?_
      refine mv F rfl fun a F => ?_
      refine ls (qv F (r_len (F.ev (x := .tmp 12) rfl) Try.underlying32) fun a F => ?_)
      refine ls (qv F (r_lt (F.ev (x := .tmp 11) rfl) (F.ev (x := .tmp 13) rfl)) fun a F => ?_)
      refine rgend ?_
      by_cases c4 : x2 < (a0.length : Int)
      · rw [if_pos c4] at j_2
        rw [decide_eq_true c4] at F
        refine wp_cond_true (F.ev rfl) ?_
        refine wp_skip ?_
        refine wp_seq ?_
        refine wp_block ?_
        refine wp_seq ?_
        replace H := H.drew
        have HS := H
        refine dr (fun w => Hp w0 (rd (kSlice kByte) A0_ c0_ a0 :: rd (kSlice kByte) A1_ c1_ a1 :: ps) fs w) _ (by kernel_rfl) ?_ (n := 11)
        refine dq 0 F rfl (by kernel_rfl) NP HS (fun w S => (r_mv (F.ev (x := .tmp 0) rfl))) fun a F => ?_
        refine dq 1 F rfl (by kernel_rfl) NP HS (fun w S => (r_mv (F.ev (x := .tmp 5) rfl))) fun a F => ?_
        obtain ⟨c5, j_2⟩ := guardO j_2
        obtain ⟨g6, o7, s8, hr, H⟩ := H.ix [] 0 rfl (F.ev (x := .tmp 17) rfl) (F.ev (x := .tmp 18) rfl) Try.underlying32 sz23 (by decide) c5.1 c5.2
        obtain ⟨A9, c10, rfl, H⟩ := H.says_slice 1 rfl
        have HS := H
        refine dmoreH HS (fun w S => S.px2.px1.px0) ?_
        refine dq 2 F rfl (by kernel_rfl) NP HS (fun w S => (hr _ _ _ _ _ _)) fun a F => ?_
        refine dq 3 F rfl (by kernel_rfl) NP HS (fun w S => (r_ld (F.ev (x := .tmp 19) rfl) (range_cell (j := 0) (S.range 1 rfl) rfl) one23)) fun a F => ?_
        have hb11 := H.bytes 0 rfl
        refine dq 4 F rfl (by kernel_rfl) NP HS (fun w S => (S.str 0 rfl (F.ev (x := .tmp 20) rfl) Try.underlying23 Try.underlying5 Try.underlying9)) fun a F => ?_
        refine dq 5 F rfl (by kernel_rfl) NP HS (fun w S => (r_mv (F.ev (x := .tmp 1) rfl))) fun a F => ?_
        refine dq 6 F rfl (by kernel_rfl) NP HS (fun w S => (r_mv (F.ev (x := .tmp 5) rfl))) fun a F => ?_
        obtain ⟨c12, j_2⟩ := guardO j_2
        obtain ⟨g13, o14, s15, hr, H⟩ := H.ix [] 4 rfl (F.ev (x := .tmp 22) rfl) (F.ev (x := .tmp 23) rfl) Try.underlying32 sz23 (by decide) c12.1 c12.2
        obtain ⟨A16, c17, rfl, H⟩ := H.says_slice 1 rfl
        have HS := H
        refine dmoreH HS (fun w S => S.px2.px1.px0) ?_
        refine dq 7 F rfl (by kernel_rfl) NP HS (fun w S => (hr _ _ _ _ _ _)) fun a F => ?_
        refine dq 8 F rfl (by kernel_rfl) NP HS (fun w S => (r_ld (F.ev (x := .tmp 24) rfl) (range_cell (j := 0) (S.range 1 rfl) rfl) one23)) fun a F => ?_
        have hb18 := H.bytes 0 rfl
        refine dq 9 F rfl (by kernel_rfl) NP HS (fun w S => (S.str 0 rfl (F.ev (x := .tmp 25) rfl) Try.underlying23 Try.underlying5 Try.underlying9)) fun a F => ?_
        refine dq 10 F rfl (by kernel_rfl) NP HS (fun w S => (r_sne (F.ev (x := .tmp 21) rfl) (F.ev (x := .tmp 26) rfl) hb11 hb18)) fun a F => ?_
        refine ddone (by kernel_rfl) ?_
        replace F := F.only [27, 0, 1, 5] (l' := [(27, .bool (decide ((a0.getD (x2 : Int).toNat []) ≠ (a1.getD (x2 : Int).toNat [])))), (0, .slice A0_ a0.length c0_), (1, .slice A1_ a1.length c1_), (5, .int .i64 x2)]) rfl
        by_cases c19 : (a0.getD (x2 : Int).toNat []) ≠ (a1.getD (x2 : Int).toNat [])
        · rw [if_pos c19] at j_2
          rw [decide_eq_true c19] at F
          refine wp_cond_true (F.ev rfl) ?_
          refine rg ?_
          refine as_ F (v := .bool false) rfl fun a F => ?_
          refine rgend ?_
          replace F := F.only [4] (l' := [(4, .bool false)]) rfl
          refine wp_ret ?_
          try dsimp only at j_2
          obtain rfl := Option.some.inj j_2
          obtain rfl := u_2 _ rfl
          try dsimp only at h
          obtain rfl := Option.some.inj h
          exact RET _ _ (ret1 F rfl rfl ⟨_, rfl, rfl, H.px7.px6.px5.px4.px3.px2.px1.px0⟩)
        · rw [if_neg c19] at j_2
          rw [decide_eq_false c19] at F
          refine wp_cond_false (F.ev rfl) ?_
          refine wp_skip ?_
          refine wp_region_lit ?_
          refine mv F rfl fun a F => ?_
          refine ls (qv F (r_add (F.ev (x := .tmp 15) rfl) (F.ev (x := .const (.int .i64 1)) rfl)) fun a F => ?_)
          refine as_ F rfl fun a F => ?_
          refine wpList_nil ?_
          replace F := F.only [5, 0, 1] (l' := [(5, .int .i64 (IntKind.i64.wrap (x2 + 1))), (0, .slice A0_ a0.length c0_), (1, .slice A1_ a1.length c1_)]) rfl
          try dsimp only at j_2
          obtain rfl := Option.some.inj j_2
          exact ⟨_, rfl, F.only [0, 1, 5] rfl, H.px5.px4.px3.px2.px1.px0⟩
      · rw [if_neg c4] at j_2
        rw [decide_eq_false c4] at F
        refine wp_cond_false (F.ev rfl) ?_
        refine wp_exit ?_
        try dsimp only at j_2
        obtain rfl := Option.some.inj j_2
        obtain rfl := u_2 _ rfl
        repeat (with_reducible refine exT ?_)
        with_reducible refine exB ?_
        exact ⟨rfl, F.only [] rfl, H.px1.px0⟩
    · rintro a w ⟨rfl, F, H⟩
      try dsimp only at h F H
      refine rg ?_
      refine as_ F (v := .bool true) rfl fun a F => ?_
      refine rgend ?_
      refine wp_ret ?_
      try dsimp only at h
      obtain rfl := Option.some.inj h
      exact RET _ _ (ret1 F rfl rfl ⟨_, rfl, rfl, H⟩)
def ref17_Same_f (a0 : api_Region) (a1 : api_Region) : Option (Bool) :=
  (((if a0.Gen = a1.Gen then (if a0.State = a1.State then ((ref17_SameRows_f a0.Kept a1.Kept).bind fun x9 => (if x9 = true then ((ref17_SameRows_f a0.More a1.More).bind fun x12 => some x12) else some false)) else some false) else some false) : Option (Bool)).bind fun x3 => some x3)
set_option maxHeartbeats 4000000 in
set_option maxRecDepth 20000 in
theorem ref17_Same_ok {w0 w : World} {ps : List PF} {fs : List SF} {a0 : api_Region} {A0_1 : Option Addr} {c0_1 : Nat} {A0_2 : Option Addr} {c0_2 : Nat} {A0_3 : Option Addr} {c0_3 : Nat} {a1 : api_Region} {A1_1 : Option Addr} {c1_1 : Nat} {A1_2 : Option Addr} {c1_2 : Nat} {A1_3 : Option Addr} {c1_3 : Nat} {r0 : Bool} (H : Hp w0 (rd kByte A0_1 c0_1 a0.State :: rd (kSlice kByte) A0_2 c0_2 a0.Kept :: rd (kSlice kByte) A0_3 c0_3 a0.More :: rd kByte A1_1 c1_1 a1.State :: rd (kSlice kByte) A1_2 c1_2 a1.Kept :: rd (kSlice kByte) A1_3 c1_3 a1.More :: ps) fs w) (h : ref17_Same_f a0 a1 = some r0) :
    Calls Try.prog 14 [.agg #[.int .i64 a0.Gen, .slice A0_1 a0.State.length c0_1, .slice A0_2 a0.Kept.length c0_2, .slice A0_3 a0.More.length c0_3], .agg #[.int .i64 a1.Gen, .slice A1_1 a1.State.length c1_1, .slice A1_2 a1.Kept.length c1_2, .slice A1_3 a1.More.length c1_3]].toArray w fun e w' => ∃ v, e = .returned v ∧ v = .bool r0 ∧ Hp w0 ps fs w' := by
  refine enter [.agg #[.int .i64 a0.Gen, .slice A0_1 a0.State.length c0_1, .slice A0_2 a0.Kept.length c0_2, .slice A0_3 a0.More.length c0_3], .agg #[.int .i64 a1.Gen, .slice A1_1 a1.State.length c1_1, .slice A1_2 a1.Kept.length c1_2, .slice A1_3 a1.More.length c1_3]] 33 Try.func14 fun Q a NP RET NRM F => ?_
  replace NP : ∀ c a w, ¬ Q (.panic c) a w := fun c a w h => by rcases NP c a w h with h | ⟨w, v, h, _⟩ <;> cases h
  unfold ref17_Same_f at h
  refine rg ?_
  refine ls (lbox F H rfl (cs := [.int .i64 a0.Gen, .slice A0_1 a0.State.length c0_1, .slice A0_2 a0.Kept.length c0_2, .slice A0_3 a0.More.length c0_3]) rfl fun g1 w a H F => ?_)
  refine ls (lbox F H rfl (cs := [.int .i64 a1.Gen, .slice A1_1 a1.State.length c1_1, .slice A1_2 a1.Kept.length c1_2, .slice A1_3 a1.More.length c1_3]) rfl fun g2 w a H F => ?_)
  refine as_ F (v := .bool false) rfl fun a F => ?_
  refine rgend ?_
  refine wp_seq ?_
  obtain ⟨o_3, k_3, h⟩ := Option.bind_eq_some_iff.1 h
  refine cut (fun a w => ∃ (x3 : Bool), x3 = o_3 ∧ Fr 33 [] [(4, .bool x3)] a ∧ Hp w0 ps fs w) ?_ ?_
  · skip
    refine wp_region_lit ?_
    refine ls (qv F (r_fa (off := 0) (F.ev (x := .tmp 2) rfl) fa34_0) fun a F => ?_)
    refine ls (qv F (r_ld (F.ev (x := .tmp 5) rfl) (cel_cell (o := 0) (H.cell 1 rfl) rfl) one2) fun a F => ?_)
    refine ls (qv F (r_fa (off := 0) (F.ev (x := .tmp 3) rfl) fa34_0) fun a F => ?_)
    refine ls (qv F (r_ld (F.ev (x := .tmp 7) rfl) (cel_cell (o := 0) (H.cell 0 rfl) rfl) one2) fun a F => ?_)
    refine ls (qv F (r_eq (F.ev (x := .tmp 6) rfl) (F.ev (x := .tmp 8) rfl)) fun a F => ?_)
    refine mv F rfl fun a F => ?_
    by_cases c5 : a0.Gen = a1.Gen
    · rw [if_pos c5] at k_3
      rw [decide_eq_true c5] at F
      refine ls (qv F (r_fa (off := 1) (F.ev (x := .tmp 2) rfl) fa34_1) fun a F => ?_)
      refine ls (qv F (r_ld (F.ev (x := .tmp 11) rfl) (cel_cell (o := 1) (H.cell 1 rfl) rfl) one23) fun a F => ?_)
      have hb6 := H.bytes 0 rfl
      refine ls (qv F (H.str 0 rfl (F.ev (x := .tmp 12) rfl) Try.underlying23 Try.underlying5 Try.underlying9) fun a F => ?_)
      refine ls (qv F (r_fa (off := 1) (F.ev (x := .tmp 3) rfl) fa34_1) fun a F => ?_)
      refine ls (qv F (r_ld (F.ev (x := .tmp 14) rfl) (cel_cell (o := 1) (H.cell 0 rfl) rfl) one23) fun a F => ?_)
      have hb7 := H.bytes 3 rfl
      refine ls (qv F (H.str 3 rfl (F.ev (x := .tmp 15) rfl) Try.underlying23 Try.underlying5 Try.underlying9) fun a F => ?_)
      refine ls (qv F (r_seq (F.ev (x := .tmp 13) rfl) (F.ev (x := .tmp 16) rfl) hb6 hb7) fun a F => ?_)
      refine ls (qv F (r_pickT (F.ev (x := .tmp 10) rfl) (F.ev (x := .tmp 17) rfl)) fun a F => ?_)
      refine mv F rfl fun a F => ?_
      by_cases c8 : a0.State = a1.State
      · rw [if_pos c8] at k_3
        rw [decide_eq_true c8] at F
        refine ls (qv F (r_fa (off := 2) (F.ev (x := .tmp 2) rfl) fa34_2) fun a F => ?_)
        refine ls (qv F (r_ld (F.ev (x := .tmp 20) rfl) (cel_cell (o := 2) (H.cell 1 rfl) rfl) one32) fun a F => ?_)
        refine ls (qv F (r_fa (off := 2) (F.ev (x := .tmp 3) rfl) fa34_2) fun a F => ?_)
        refine ls (qv F (r_ld (F.ev (x := .tmp 22) rfl) (cel_cell (o := 2) (H.cell 0 rfl) rfl) one32) fun a F => ?_)
        obtain ⟨x9, e10, k_3⟩ := Option.bind_eq_some_iff.1 k_3
        try dsimp only at k_3
        refine ls (call F Try.func38 (ref17_SameRows_ok (H.p4.p2) e10) rfl rfl fun v w hR a F => ?_)
        obtain ⟨rfl, H⟩ := hR
        refine ls (qv F (r_pickT (F.ev (x := .tmp 19) rfl) (F.ev (x := .tmp 24) rfl)) fun a F => ?_)
        refine mv F rfl fun a F => ?_
        by_cases c11 : x9 = true
        · rw [if_pos c11] at k_3
          rw [c11] at F
          refine ls (qv F (r_fa (off := 3) (F.ev (x := .tmp 2) rfl) fa34_3) fun a F => ?_)
          refine ls (qv F (r_ld (F.ev (x := .tmp 27) rfl) (cel_cell (o := 3) (H.cell 1 rfl) rfl) one32) fun a F => ?_)
          refine ls (qv F (r_fa (off := 3) (F.ev (x := .tmp 3) rfl) fa34_3) fun a F => ?_)
          refine ls (qv F (r_ld (F.ev (x := .tmp 29) rfl) (cel_cell (o := 3) (H.cell 0 rfl) rfl) one32) fun a F => ?_)
          obtain ⟨x12, e13, k_3⟩ := Option.bind_eq_some_iff.1 k_3
          try dsimp only at k_3
          refine ls (call F Try.func38 (ref17_SameRows_ok (H.p5.p3) e13) rfl rfl fun v w hR a F => ?_)
          obtain ⟨rfl, H⟩ := hR
          refine ls (qv F (r_pickT (F.ev (x := .tmp 26) rfl) (F.ev (x := .tmp 31) rfl)) fun a F => ?_)
          refine as_ F rfl fun a F => ?_
          refine wpList_nil ?_
          replace F := F.only [4] (l' := [(4, .bool x12)]) rfl
          try dsimp only at k_3
          obtain rfl := Option.some.inj k_3
          exact ⟨_, rfl, F.only [4] rfl, H.px5.px4.px3.px2.px1.px0.fx1.fx0⟩
        · rw [if_neg c11] at k_3
          rw [Bool.eq_false_iff.2 c11] at F
          refine ls (off F fun a F => ?_)
          refine ls (off F fun a F => ?_)
          refine ls (off F fun a F => ?_)
          refine ls (off F fun a F => ?_)
          refine ls (off F fun a F => ?_)
          refine ls (qv F (r_pickF (F.ev (x := .tmp 26) rfl) (F.ev (x := .const (.bool false)) rfl)) fun a F => ?_)
          refine as_ F rfl fun a F => ?_
          refine wpList_nil ?_
          replace F := F.only [4] (l' := [(4, .bool false)]) rfl
          try dsimp only at k_3
          obtain rfl := Option.some.inj k_3
          exact ⟨_, rfl, F.only [4] rfl, H.px5.px4.px3.px2.px1.px0.fx1.fx0⟩
      · rw [if_neg c8] at k_3
        rw [decide_eq_false c8] at F
        refine ls (off F fun a F => ?_)
        refine ls (off F fun a F => ?_)
        refine ls (off F fun a F => ?_)
        refine ls (off F fun a F => ?_)
        refine ls (off F fun a F => ?_)
        refine ls (qv F (r_pickF (F.ev (x := .tmp 19) rfl) (F.ev (x := .const (.bool false)) rfl)) fun a F => ?_)
        refine mv F rfl fun a F => ?_
        refine ls (off F fun a F => ?_)
        refine ls (off F fun a F => ?_)
        refine ls (off F fun a F => ?_)
        refine ls (off F fun a F => ?_)
        refine ls (off F fun a F => ?_)
        refine ls (qv F (r_pickF (F.ev (x := .tmp 26) rfl) (F.ev (x := .const (.bool false)) rfl)) fun a F => ?_)
        refine as_ F rfl fun a F => ?_
        refine wpList_nil ?_
        replace F := F.only [4] (l' := [(4, .bool false)]) rfl
        try dsimp only at k_3
        obtain rfl := Option.some.inj k_3
        exact ⟨_, rfl, F.only [4] rfl, H.px5.px4.px3.px2.px1.px0.fx1.fx0⟩
    · rw [if_neg c5] at k_3
      rw [decide_eq_false c5] at F
      refine ls (off F fun a F => ?_)
      refine ls (off F fun a F => ?_)
      refine ls (off F fun a F => ?_)
      refine ls (off F fun a F => ?_)
      refine ls (off F fun a F => ?_)
      refine ls (off F fun a F => ?_)
      refine ls (off F fun a F => ?_)
      refine ls (qv F (r_pickF (F.ev (x := .tmp 10) rfl) (F.ev (x := .const (.bool false)) rfl)) fun a F => ?_)
      refine mv F rfl fun a F => ?_
      refine ls (off F fun a F => ?_)
      refine ls (off F fun a F => ?_)
      refine ls (off F fun a F => ?_)
      refine ls (off F fun a F => ?_)
      refine ls (off F fun a F => ?_)
      refine ls (qv F (r_pickF (F.ev (x := .tmp 19) rfl) (F.ev (x := .const (.bool false)) rfl)) fun a F => ?_)
      refine mv F rfl fun a F => ?_
      refine ls (off F fun a F => ?_)
      refine ls (off F fun a F => ?_)
      refine ls (off F fun a F => ?_)
      refine ls (off F fun a F => ?_)
      refine ls (off F fun a F => ?_)
      refine ls (qv F (r_pickF (F.ev (x := .tmp 26) rfl) (F.ev (x := .const (.bool false)) rfl)) fun a F => ?_)
      refine as_ F rfl fun a F => ?_
      refine wpList_nil ?_
      replace F := F.only [4] (l' := [(4, .bool false)]) rfl
      try dsimp only at k_3
      obtain rfl := Option.some.inj k_3
      exact ⟨_, rfl, F.only [4] rfl, H.px5.px4.px3.px2.px1.px0.fx1.fx0⟩
  · rintro a w ⟨x3, rfl, F, H⟩
    try dsimp only at h F H
    refine wp_ret ?_
    try dsimp only at h
    obtain rfl := Option.some.inj h
    exact RET _ _ (ret1 F rfl rfl ⟨_, rfl, rfl, H⟩)
def law17_within_f (a0 : Int) (a1 : Int) : Option (Bool) :=
  (((if a0 ≥ 0 then (if a0 ≤ 4096 then (if a1 ≥ 0 then some ((decide (a1 ≤ 4096))) else some false) else some false) else some false) : Option (Bool)).bind fun x1 => some x1)
set_option maxHeartbeats 4000000 in
set_option maxRecDepth 20000 in
theorem law17_within_ok {w0 w : World} {ps : List PF} {fs : List SF} {a0 : Int} {a1 : Int} {r0 : Bool} (H : Hp w0 ps fs w) (h : law17_within_f a0 a1 = some r0) :
    Calls Try.prog 10 [.int .i64 a0, .int .i64 a1].toArray w fun e w' => ∃ v, e = .returned v ∧ v = .bool r0 ∧ Hp w0 ps fs w' := by
  refine enter [.int .i64 a0, .int .i64 a1] 19 Try.func10 fun Q a NP RET NRM F => ?_
  replace NP : ∀ c a w, ¬ Q (.panic c) a w := fun c a w h => by rcases NP c a w h with h | ⟨w, v, h, _⟩ <;> cases h
  unfold law17_within_f at h
  refine rg ?_
  refine as_ F (v := .bool false) rfl fun a F => ?_
  refine rgend ?_
  refine wp_seq ?_
  obtain ⟨o_1, k_1, h⟩ := Option.bind_eq_some_iff.1 h
  refine cut (fun a w => ∃ (x1 : Bool), x1 = o_1 ∧ Fr 19 [] [(4, .bool x1)] a ∧ Hp w0 ps fs w) ?_ ?_
  · skip
    refine wp_region_lit ?_
    refine mv F rfl fun a F => ?_
    refine ls (qv F (r_ge (F.ev (x := .tmp 5) rfl) (F.ev (x := .const (.int .i64 0)) rfl)) fun a F => ?_)
    refine mv F rfl fun a F => ?_
    by_cases c3 : a0 ≥ 0
    · rw [if_pos c3] at k_1
      rw [decide_eq_true c3] at F
      refine mv F rfl fun a F => ?_
      refine ls (qv F (r_le (F.ev (x := .tmp 8) rfl) (F.ev (x := .const (.int .i64 4096)) rfl)) fun a F => ?_)
      refine ls (qv F (r_pickT (F.ev (x := .tmp 7) rfl) (F.ev (x := .tmp 9) rfl)) fun a F => ?_)
      refine mv F rfl fun a F => ?_
      by_cases c4 : a0 ≤ 4096
      · rw [if_pos c4] at k_1
        rw [decide_eq_true c4] at F
        refine mv F rfl fun a F => ?_
        refine ls (qv F (r_ge (F.ev (x := .tmp 12) rfl) (F.ev (x := .const (.int .i64 0)) rfl)) fun a F => ?_)
        refine ls (qv F (r_pickT (F.ev (x := .tmp 11) rfl) (F.ev (x := .tmp 13) rfl)) fun a F => ?_)
        refine mv F rfl fun a F => ?_
        by_cases c5 : a1 ≥ 0
        · rw [if_pos c5] at k_1
          rw [decide_eq_true c5] at F
          refine mv F rfl fun a F => ?_
          refine ls (qv F (r_le (F.ev (x := .tmp 16) rfl) (F.ev (x := .const (.int .i64 4096)) rfl)) fun a F => ?_)
          refine ls (qv F (r_pickT (F.ev (x := .tmp 15) rfl) (F.ev (x := .tmp 17) rfl)) fun a F => ?_)
          refine as_ F rfl fun a F => ?_
          refine wpList_nil ?_
          replace F := F.only [4] (l' := [(4, .bool (decide (a1 ≤ 4096)))]) rfl
          try dsimp only at k_1
          obtain rfl := Option.some.inj k_1
          exact ⟨_, rfl, F.only [4] rfl, H⟩
        · rw [if_neg c5] at k_1
          rw [decide_eq_false c5] at F
          refine ls (off F fun a F => ?_)
          refine ls (off F fun a F => ?_)
          refine ls (qv F (r_pickF (F.ev (x := .tmp 15) rfl) (F.ev (x := .const (.bool false)) rfl)) fun a F => ?_)
          refine as_ F rfl fun a F => ?_
          refine wpList_nil ?_
          replace F := F.only [4] (l' := [(4, .bool false)]) rfl
          try dsimp only at k_1
          obtain rfl := Option.some.inj k_1
          exact ⟨_, rfl, F.only [4] rfl, H⟩
      · rw [if_neg c4] at k_1
        rw [decide_eq_false c4] at F
        refine ls (off F fun a F => ?_)
        refine ls (off F fun a F => ?_)
        refine ls (qv F (r_pickF (F.ev (x := .tmp 11) rfl) (F.ev (x := .const (.bool false)) rfl)) fun a F => ?_)
        refine mv F rfl fun a F => ?_
        refine ls (off F fun a F => ?_)
        refine ls (off F fun a F => ?_)
        refine ls (qv F (r_pickF (F.ev (x := .tmp 15) rfl) (F.ev (x := .const (.bool false)) rfl)) fun a F => ?_)
        refine as_ F rfl fun a F => ?_
        refine wpList_nil ?_
        replace F := F.only [4] (l' := [(4, .bool false)]) rfl
        try dsimp only at k_1
        obtain rfl := Option.some.inj k_1
        exact ⟨_, rfl, F.only [4] rfl, H⟩
    · rw [if_neg c3] at k_1
      rw [decide_eq_false c3] at F
      refine ls (off F fun a F => ?_)
      refine ls (off F fun a F => ?_)
      refine ls (qv F (r_pickF (F.ev (x := .tmp 7) rfl) (F.ev (x := .const (.bool false)) rfl)) fun a F => ?_)
      refine mv F rfl fun a F => ?_
      refine ls (off F fun a F => ?_)
      refine ls (off F fun a F => ?_)
      refine ls (qv F (r_pickF (F.ev (x := .tmp 11) rfl) (F.ev (x := .const (.bool false)) rfl)) fun a F => ?_)
      refine mv F rfl fun a F => ?_
      refine ls (off F fun a F => ?_)
      refine ls (off F fun a F => ?_)
      refine ls (qv F (r_pickF (F.ev (x := .tmp 15) rfl) (F.ev (x := .const (.bool false)) rfl)) fun a F => ?_)
      refine as_ F rfl fun a F => ?_
      refine wpList_nil ?_
      replace F := F.only [4] (l' := [(4, .bool false)]) rfl
      try dsimp only at k_1
      obtain rfl := Option.some.inj k_1
      exact ⟨_, rfl, F.only [4] rfl, H⟩
  · rintro a w ⟨x1, rfl, F, H⟩
    try dsimp only at h F H
    refine wp_ret ?_
    try dsimp only at h
    obtain rfl := Option.some.inj h
    exact RET _ _ (ret1 F rfl rfl ⟨_, rfl, rfl, H⟩)
def law17_Rows_b0 (a0 : List (List Int)) : (Int × Int) → Option (Int × Int ⊕ Int)
  | (x1, x2) => (((if x2 < (a0.length : Int) then some ((decide (x1 < 9000))) else some false) : Option (Bool)).bind fun x5 => (if x5 = true then (if 0 ≤ x2 ∧ x2 < (a0.length : Int) then some (.inl (IntKind.i64.wrap (x1 + (min (((a0.getD (x2 : Int).toNat [])).length : Int) 9000)), IntKind.i64.wrap (x2 + 1))) else none) else some (.inr x1)))
def law17_Rows_f (a0 : List (List Int)) : Option (Bool) :=
  ((lp (law17_Rows_b0 a0) ((a0.length : Int), 0)).bind fun x3 => some ((decide (x3 ≥ 9000))))
set_option maxHeartbeats 4000000 in
set_option maxRecDepth 20000 in
theorem law17_Rows_ok {w0 w : World} {ps : List PF} {fs : List SF} {a0 : List (List Int)} {A0_ : Option Addr} {c0_ : Nat} {r0 : Bool} (H : Hp w0 (rd (kSlice kByte) A0_ c0_ a0 :: ps) fs w) (h : law17_Rows_f a0 = some r0) :
    Calls Try.prog 17 [.slice A0_ a0.length c0_].toArray w fun e w' => ∃ v, e = .returned v ∧ v = .bool r0 ∧ Hp w0 ps fs w' := by
  refine enter [.slice A0_ a0.length c0_] 27 Try.func17 fun Q a NP RET NRM F => ?_
  replace NP : ∀ c a w, ¬ Q (.panic c) a w := fun c a w h => by rcases NP c a w h with h | ⟨w, v, h, _⟩ <;> cases h
  unfold law17_Rows_f at h
  refine rg ?_
  refine as_ F (v := .bool false) rfl fun a F => ?_
  refine rgend ?_
  refine rg ?_
  refine mv F rfl fun a F => ?_
  refine ls (qv F (r_len (F.ev (x := .tmp 5) rfl) Try.underlying32) fun a F => ?_)
  refine as_ F rfl fun a F => ?_
  refine rgend ?_
  refine wp_seq ?_
  refine rg ?_
  refine as_ F (v := .int .i64 0) rfl fun a F => ?_
  refine rgend ?_
  obtain ⟨o_3, k_3, h⟩ := Option.bind_eq_some_iff.1 h
  refine cut (fun a w => ∃ (x3 : Int), x3 = o_3 ∧ Fr 27 [] [(3, .int .i64 x3)] a ∧ Hp w0 ps fs w) (wp_block ?_) ?_
  · refine wloop (law17_Rows_b0 a0) (fun (s : Int × Int) a w => Fr 27 [] [(0, .slice A0_ a0.length c0_), (3, .int .i64 s.1), (4, .int .i64 s.2)] a ∧ Hp w0 (rd (kSlice kByte) A0_ c0_ a0 :: ps) fs w) k_3 ⟨F.only [0, 3, 4] rfl, H⟩ ?_
    rintro ⟨x1, x2⟩ a w q_3 j_3 u_3 ⟨F, H⟩
    unfold law17_Rows_b0 at j_3
    try dsimp only at j_3 F H
    refine wp_seq ?_
    refine wp_seq ?_
    obtain ⟨o_5, k_5, j_3⟩ := Option.bind_eq_some_iff.1 j_3
    refine cut (fun a w => ∃ (x5 : Bool), x5 = o_5 ∧ Fr 27 [] [(0, .slice A0_ a0.length c0_), (3, .int .i64 x1), (4, .int .i64 x2), (14, .bool x5)] a ∧ Hp w0 (rd (kSlice kByte) A0_ c0_ a0 :: ps) fs w) ?_ ?_
    · skip
      refine wp_region_lit ?_
      refine mv F rfl fun a F => ?_
      refine mv F rfl fun a F => ?_
      refine ls (qv F (r_len (F.ev (x := .tmp 8) rfl) Try.underlying32) fun a F => ?_)
      refine ls (qv F (r_lt (F.ev (x := .tmp 7) rfl) (F.ev (x := .tmp 9) rfl)) fun a F => ?_)
      refine mv F rfl fun a F => ?_
      by_cases c7 : x2 < (a0.length : Int)
      · rw [if_pos c7] at k_5
        rw [decide_eq_true c7] at F
        refine mv F rfl fun a F => ?_
        refine ls (qv F (r_lt (F.ev (x := .tmp 12) rfl) (F.ev (x := .const (.int .i64 9000)) rfl)) fun a F => ?_)
        refine ls (qv F (r_pickT (F.ev (x := .tmp 11) rfl) (F.ev (x := .tmp 13) rfl)) fun a F => ?_)
        refine wpList_nil ?_
        replace F := F.only [14, 0, 3, 4] (l' := [(14, .bool (decide (x1 < 9000))), (0, .slice A0_ a0.length c0_), (3, .int .i64 x1), (4, .int .i64 x2)]) rfl
        try dsimp only at k_5
        obtain rfl := Option.some.inj k_5
        exact ⟨_, rfl, F.only [0, 3, 4, 14] rfl, H⟩
      · rw [if_neg c7] at k_5
        rw [decide_eq_false c7] at F
        refine ls (off F fun a F => ?_)
        refine ls (off F fun a F => ?_)
        refine ls (qv F (r_pickF (F.ev (x := .tmp 11) rfl) (F.ev (x := .const (.bool false)) rfl)) fun a F => ?_)
        refine wpList_nil ?_
        replace F := F.only [14, 0, 3, 4] (l' := [(14, .bool false), (0, .slice A0_ a0.length c0_), (3, .int .i64 x1), (4, .int .i64 x2)]) rfl
        try dsimp only at k_5
        obtain rfl := Option.some.inj k_5
        exact ⟨_, rfl, F.only [0, 3, 4, 14] rfl, H⟩
    · rintro a w ⟨x5, rfl, F, H⟩
      try dsimp only at j_3 F H
      by_cases c8 : x5 = true
      · rw [if_pos c8] at j_3
        rw [c8] at F
        refine wp_cond_true (F.ev rfl) ?_
        refine wp_skip ?_
        refine wp_seq ?_
        refine wp_block ?_
        refine wp_region_lit ?_
        refine mv F rfl fun a F => ?_
        refine mv F rfl fun a F => ?_
        refine mv F rfl fun a F => ?_
        obtain ⟨c9, j_3⟩ := guardO j_3
        obtain ⟨g10, o11, s12, hr, H⟩ := H.ix [] 0 rfl (F.ev (x := .tmp 18) rfl) (F.ev (x := .tmp 19) rfl) Try.underlying32 sz23 (by decide) c9.1 c9.2
        obtain ⟨A13, c14, rfl, H⟩ := H.says_slice 1 rfl
        refine ls (qv F (hr _ _ _ _ _ _) fun a F => ?_)
        refine ls (qv F (r_ld (F.ev (x := .tmp 20) rfl) (range_cell (j := 0) (H.range 1 rfl) rfl) one23) fun a F => ?_)
        refine ls (qv F (r_len (F.ev (x := .tmp 21) rfl) Try.underlying23) fun a F => ?_)
        refine ls (qv F (r_min (F.ev (x := .tmp 22) rfl) (F.ev (x := .const (.int .i64 9000)) rfl)) fun a F => ?_)
        refine ls (qv F (r_add (F.ev (x := .tmp 17) rfl) (F.ev (x := .tmp 23) rfl)) fun a F => ?_)
        refine as_ F rfl fun a F => ?_
        refine wpList_nil ?_
        replace F := F.only [3, 0, 4] (l' := [(3, .int .i64 (IntKind.i64.wrap (x1 + (min (((a0.getD (x2 : Int).toNat [])).length : Int) 9000)))), (0, .slice A0_ a0.length c0_), (4, .int .i64 x2)]) rfl
        refine wp_region_lit ?_
        refine mv F rfl fun a F => ?_
        refine ls (qv F (r_add (F.ev (x := .tmp 15) rfl) (F.ev (x := .const (.int .i64 1)) rfl)) fun a F => ?_)
        refine as_ F rfl fun a F => ?_
        refine wpList_nil ?_
        try dsimp only at j_3
        obtain rfl := Option.some.inj j_3
        exact ⟨_, rfl, F.only [0, 3, 4] rfl, H.px2.px1.px0⟩
      · rw [if_neg c8] at j_3
        rw [Bool.eq_false_iff.2 c8] at F
        refine wp_cond_false (F.ev rfl) ?_
        refine wp_exit ?_
        try dsimp only at j_3
        obtain rfl := Option.some.inj j_3
        obtain rfl := u_3 _ rfl
        repeat (with_reducible refine exT ?_)
        with_reducible refine exB ?_
        exact ⟨_, rfl, F.only [3] rfl, H.px0⟩
  · rintro a w ⟨x3, rfl, F, H⟩
    try dsimp only at h F H
    refine rg ?_
    refine mv F rfl fun a F => ?_
    refine ls (qv F (r_ge (F.ev (x := .tmp 25) rfl) (F.ev (x := .const (.int .i64 9000)) rfl)) fun a F => ?_)
    refine as_ F rfl fun a F => ?_
    refine rgend ?_
    refine wp_ret ?_
    try dsimp only at h
    obtain rfl := Option.some.inj h
    exact RET _ _ (ret1 F rfl rfl ⟨_, rfl, rfl, H⟩)
def law17_alike_b0 (a0 : disk_Disk) (a1 : ref15_Disk) (a2 : Int) : Int → Option (Int ⊕ (Unit ⊕ Bool))
  | x1 => (if x1 < a2 then ((disk_Disk_Read_f a0 x1).bind fun (x4, x5) => ((ref15_Disk_Read_f a1 x1).bind fun (x9, x10) => (if x4 ≠ x9 then some (.inr (.inr false)) else (if x5 ≠ x10 then some (.inr (.inr false)) else some (.inl (IntKind.i64.wrap (x1 + 1))))))) else some (.inr (.inl ())))
def law17_alike_f (a0 : disk_Disk) (a1 : ref15_Disk) (a2 : Int) : Option (Bool) :=
  ((lp (law17_alike_b0 a0 a1 a2) 0).bind fun q => match q with | .inl _ => ((disk_Disk_Pending_f a0).bind fun x18 => ((ref15_Disk_Pending_f a1).bind fun x20 => some ((decide (x18 = x20))))) | .inr r => some r)
set_option maxHeartbeats 4000000 in
set_option maxRecDepth 20000 in
theorem law17_alike_ok {w0 w : World} {ps : List PF} {fs : List SF} {a0 : disk_Disk} {g0_ : Nat} {a1 : ref15_Disk} {g1_ : Nat} {a2 : Int} {r0 : Bool} (H : Hp w0 ps (obj_disk_Disk g0_ a0 :: obj_ref15_Disk g1_ a1 :: fs) w) (h : law17_alike_f a0 a1 a2 = some r0) :
    Calls Try.prog 30 [.pointer (some ⟨g0_, 0, none⟩), .pointer (some ⟨g1_, 0, none⟩), .int .i64 a2].toArray w fun e w' => ∃ v, e = .returned v ∧ v = .bool r0 ∧ Hp w0 ps (obj_disk_Disk g0_ a0 :: obj_ref15_Disk g1_ a1 :: fs) w' := by
  refine enter [.pointer (some ⟨g0_, 0, none⟩), .pointer (some ⟨g1_, 0, none⟩), .int .i64 a2] 44 Try.func30 fun Q a NP RET NRM F => ?_
  replace NP : ∀ c a w, ¬ Q (.panic c) a w := fun c a w h => by rcases NP c a w h with h | ⟨w, v, h, _⟩ <;> cases h
  unfold law17_alike_f at h
  refine rg ?_
  refine as_ F (v := .bool false) rfl fun a F => ?_
  refine rgend ?_
  refine wp_seq ?_
  refine rg ?_
  refine as_ F (v := .int .i64 0) rfl fun a F => ?_
  refine rgend ?_
  obtain ⟨o_1, k_1, h⟩ := Option.bind_eq_some_iff.1 h
  refine cut (fun a w => Sum.inl () = o_1 ∧ Fr 44 [] [(0, .pointer (some ⟨g0_, 0, none⟩)), (1, .pointer (some ⟨g1_, 0, none⟩))] a ∧ Hp w0 ps (obj_ref15_Disk g1_ a1 :: obj_disk_Disk g0_ a0 :: fs) w) (wp_block ?_) ?_
  · refine wloop (law17_alike_b0 a0 a1 a2) (fun (s : Int) a w => Fr 44 [] [(0, .pointer (some ⟨g0_, 0, none⟩)), (1, .pointer (some ⟨g1_, 0, none⟩)), (2, .int .i64 a2), (7, .int .i64 s)] a ∧ Hp w0 ps (obj_ref15_Disk g1_ a1 :: obj_disk_Disk g0_ a0 :: fs) w) k_1 ⟨F.only [0, 1, 2, 7] rfl, H.f1⟩ ?_
    rintro x1 a w q_1 j_1 u_1 ⟨F, H⟩
    unfold law17_alike_b0 at j_1
    try dsimp only at j_1 F H
    refine wp_seq ?_
    refine rg ?_
    refine mv F rfl fun a F => ?_
    refine mv F rfl fun a F => ?_
    refine ls (qv F (r_lt (F.ev (x := .tmp 12) rfl) (F.ev (x := .tmp 13) rfl)) fun a F => ?_)
    refine rgend ?_
    by_cases c3 : x1 < a2
    · rw [if_pos c3] at j_1
      rw [decide_eq_true c3] at F
      refine wp_cond_true (F.ev rfl) ?_
      refine wp_skip ?_
      refine wp_seq ?_
      refine wp_block ?_
      refine rg ?_
      refine mv F rfl fun a F => ?_
      refine mv F rfl fun a F => ?_
      obtain ⟨⟨x4, x5⟩, e6, j_1⟩ := Option.bind_eq_some_iff.1 j_1
      try dsimp only at j_1
      refine ls (call F Try.func56 (disk_Disk_Read_ok (H.f1) e6) rfl rfl fun v w hR a F => ?_)
      obtain ⟨A7, c8, rfl, H⟩ := hR
      refine mv F rfl fun a F => ?_
      refine ls (qv F (r_ex (F.ev (x := .tmp 17) rfl) rfl) fun a F => ?_)
      refine ls (qv F (r_ex (F.ev (x := .tmp 17) rfl) rfl) fun a F => ?_)
      refine as_ F rfl fun a F => ?_
      refine as_ F rfl fun a F => ?_
      refine rgend ?_
      replace F := F.only [9, 8, 0, 1, 2, 7] (l' := [(9, .int .i64 x5), (8, .slice A7 x4.length c8), (0, .pointer (some ⟨g0_, 0, none⟩)), (1, .pointer (some ⟨g1_, 0, none⟩)), (2, .int .i64 a2), (7, .int .i64 x1)]) rfl
      refine rg ?_
      refine mv F rfl fun a F => ?_
      refine mv F rfl fun a F => ?_
      obtain ⟨⟨x9, x10⟩, e11, j_1⟩ := Option.bind_eq_some_iff.1 j_1
      try dsimp only at j_1
      refine ls (call F Try.func57 (ref15_Disk_Read_ok (H.f1.f1.f2) e11) rfl rfl fun v w hR a F => ?_)
      obtain ⟨A12, c13, rfl, H⟩ := hR
      refine mv F rfl fun a F => ?_
      refine ls (qv F (r_ex (F.ev (x := .tmp 23) rfl) rfl) fun a F => ?_)
      refine ls (qv F (r_ex (F.ev (x := .tmp 23) rfl) rfl) fun a F => ?_)
      refine as_ F rfl fun a F => ?_
      refine as_ F rfl fun a F => ?_
      refine rgend ?_
      replace F := F.only [11, 10, 9, 8, 0, 1, 2, 7] (l' := [(11, .int .i64 x10), (10, .slice A12 x9.length c13), (9, .int .i64 x5), (8, .slice A7 x4.length c8), (0, .pointer (some ⟨g0_, 0, none⟩)), (1, .pointer (some ⟨g1_, 0, none⟩)), (2, .int .i64 a2), (7, .int .i64 x1)]) rfl
      refine rg ?_
      refine mv F rfl fun a F => ?_
      replace H := (H.f3.f2.f2.f3).freeze
      have hb14 := H.bytes 0 rfl
      refine ls (qv F (H.str 0 rfl (F.ev (x := .tmp 29) rfl) Try.underlying23 Try.underlying5 Try.underlying9) fun a F => ?_)
      refine mv F rfl fun a F => ?_
      replace H := (H).freeze
      have hb15 := H.bytes 0 rfl
      refine ls (qv F (H.str 0 rfl (F.ev (x := .tmp 31) rfl) Try.underlying23 Try.underlying5 Try.underlying9) fun a F => ?_)
      refine ls (qv F (r_sne (F.ev (x := .tmp 30) rfl) (F.ev (x := .tmp 32) rfl) hb14 hb15) fun a F => ?_)
      refine mv F rfl fun a F => ?_
      by_cases c16 : x4 ≠ x9
      · rw [if_pos c16] at j_1
        rw [decide_eq_true c16] at F
        refine ls (off F fun a F => ?_)
        refine ls (off F fun a F => ?_)
        refine ls (off F fun a F => ?_)
        refine ls (qv F (r_pickT (F.ev (x := .tmp 34) rfl) (F.ev (x := .const (.bool true)) rfl)) fun a F => ?_)
        refine rgend ?_
        replace F := F.only [38, 0, 1, 2, 7] (l' := [(38, .bool true), (0, .pointer (some ⟨g0_, 0, none⟩)), (1, .pointer (some ⟨g1_, 0, none⟩)), (2, .int .i64 a2), (7, .int .i64 x1)]) rfl
        refine wp_cond_true (F.ev rfl) ?_
        refine rg ?_
        refine as_ F (v := .bool false) rfl fun a F => ?_
        refine rgend ?_
        replace F := F.only [6] (l' := [(6, .bool false)]) rfl
        refine wp_ret ?_
        try dsimp only at j_1
        obtain rfl := Option.some.inj j_1
        obtain rfl := u_1 _ rfl
        try dsimp only at h
        obtain rfl := Option.some.inj h
        exact RET _ _ (ret1 F rfl rfl ⟨_, rfl, rfl, H.px1.px0.f1⟩)
      · rw [if_neg c16] at j_1
        rw [decide_eq_false c16] at F
        refine mv F rfl fun a F => ?_
        refine mv F rfl fun a F => ?_
        refine ls (qv F (r_ne (F.ev (x := .tmp 35) rfl) (F.ev (x := .tmp 36) rfl)) fun a F => ?_)
        refine ls (qv F (r_pickF (F.ev (x := .tmp 34) rfl) (F.ev (x := .tmp 37) rfl)) fun a F => ?_)
        refine rgend ?_
        replace F := F.only [38, 0, 1, 2, 7] (l' := [(38, .bool (decide (x5 ≠ x10))), (0, .pointer (some ⟨g0_, 0, none⟩)), (1, .pointer (some ⟨g1_, 0, none⟩)), (2, .int .i64 a2), (7, .int .i64 x1)]) rfl
        by_cases c17 : x5 ≠ x10
        · rw [if_pos c17] at j_1
          rw [decide_eq_true c17] at F
          refine wp_cond_true (F.ev rfl) ?_
          refine rg ?_
          refine as_ F (v := .bool false) rfl fun a F => ?_
          refine rgend ?_
          replace F := F.only [6] (l' := [(6, .bool false)]) rfl
          refine wp_ret ?_
          try dsimp only at j_1
          obtain rfl := Option.some.inj j_1
          obtain rfl := u_1 _ rfl
          try dsimp only at h
          obtain rfl := Option.some.inj h
          exact RET _ _ (ret1 F rfl rfl ⟨_, rfl, rfl, H.px1.px0.f1⟩)
        · rw [if_neg c17] at j_1
          rw [decide_eq_false c17] at F
          refine wp_cond_false (F.ev rfl) ?_
          refine wp_skip ?_
          refine wp_region_lit ?_
          refine mv F rfl fun a F => ?_
          refine ls (qv F (r_add (F.ev (x := .tmp 15) rfl) (F.ev (x := .const (.int .i64 1)) rfl)) fun a F => ?_)
          refine as_ F rfl fun a F => ?_
          refine wpList_nil ?_
          replace F := F.only [7, 0, 1, 2] (l' := [(7, .int .i64 (IntKind.i64.wrap (x1 + 1))), (0, .pointer (some ⟨g0_, 0, none⟩)), (1, .pointer (some ⟨g1_, 0, none⟩)), (2, .int .i64 a2)]) rfl
          try dsimp only at j_1
          obtain rfl := Option.some.inj j_1
          exact ⟨_, rfl, F.only [0, 1, 2, 7] rfl, H.px1.px0⟩
    · rw [if_neg c3] at j_1
      rw [decide_eq_false c3] at F
      refine wp_cond_false (F.ev rfl) ?_
      refine wp_exit ?_
      try dsimp only at j_1
      obtain rfl := Option.some.inj j_1
      obtain rfl := u_1 _ rfl
      repeat (with_reducible refine exT ?_)
      with_reducible refine exB ?_
      exact ⟨rfl, F.only [0, 1] rfl, H⟩
  · rintro a w ⟨rfl, F, H⟩
    try dsimp only at h F H
    refine rg ?_
    refine mv F rfl fun a F => ?_
    obtain ⟨x18, e19, h⟩ := Option.bind_eq_some_iff.1 h
    try dsimp only at h
    refine ls (call F Try.func24 (disk_Disk_Pending_ok (H.f1) e19) rfl rfl fun v w hR a F => ?_)
    obtain ⟨rfl, H⟩ := hR
    refine mv F rfl fun a F => ?_
    obtain ⟨x20, e21, h⟩ := Option.bind_eq_some_iff.1 h
    try dsimp only at h
    refine ls (call F Try.func58 (ref15_Disk_Pending_ok (H.f1) e21) rfl rfl fun v w hR a F => ?_)
    obtain ⟨rfl, H⟩ := hR
    refine ls (qv F (r_eq (F.ev (x := .tmp 40) rfl) (F.ev (x := .tmp 42) rfl)) fun a F => ?_)
    refine as_ F rfl fun a F => ?_
    refine rgend ?_
    replace F := F.only [6] (l' := [(6, .bool (decide (x18 = x20)))]) rfl
    refine wp_ret ?_
    try dsimp only at h
    obtain rfl := Option.some.inj h
    exact RET _ _ (ret1 F rfl rfl ⟨_, rfl, rfl, H.f1⟩)
end Go.Proofs.Ytdkdaggpfgajlaa
