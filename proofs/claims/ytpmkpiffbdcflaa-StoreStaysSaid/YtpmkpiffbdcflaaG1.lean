/- What the functions compute. Printed by wip/gen. -/
import Derived.Test.YtpmkpiffbdcflaaG0
set_option linter.unusedVariables false
set_option linter.unusedSimpArgs false
namespace Go.Proofs.Ytpmkpiffbdcflaa
open Go Go.RowKit
def region_Read_b0 (a0 : disk_Disk) (a1 : Int) (a2 : Int) (x3 : Int) (x5 : Int) (x6 : Int) : (Int × (List Int) × (List (List Int)) × (List (List Int))) → Option (Int × (List Int) × (List (List Int)) × (List (List Int)) ⊕ api_Region × Bool)
 | (x36, x37, x40, x43) => (((((if x36 ≥ a2 then some true else (if a1 < 0 then some true else ((disk_Disk_Sectors_f a0).bind fun x62 => some ((decide (x36 ≥ (IntKind.i64.wrap (x62 - a1)))))))) : Option (Bool)).bind fun x58 => (if x58 = true then some (0, 0, 0, 0, [], false) else ((disk_Disk_Read_f a0 (IntKind.i64.wrap (a1 + x36))).bind fun (x65, x66) => (if x66 ≠ 0 then some (0, 0, 0, 0, [], false) else ((sector_Get_f x65).bind fun (x71, x72) => some (x71.Gen, x71.Place, x71.Parts, x71.Kept, x71.Body, x72)))))) : Option (Int × Int × Int × Int × (List Int) × Bool)).bind fun (x47, x48, x49, x50, x51, x54) => (if x54 = true then (if x48 ≠ x36 then (if x36 < (IntKind.i64.wrap (x5 + x6)) then some (.inr (((⟨0, [], [], []⟩ : api_Region), false))) else some (.inr (((⟨x3, x37, x40, x43⟩ : api_Region), true)))) else (if x47 ≠ x3 then (if x36 < (IntKind.i64.wrap (x5 + x6)) then some (.inr (((⟨0, [], [], []⟩ : api_Region), false))) else some (.inr (((⟨x3, x37, x40, x43⟩ : api_Region), true)))) else (if x49 ≠ x5 then (if x36 < (IntKind.i64.wrap (x5 + x6)) then some (.inr (((⟨0, [], [], []⟩ : api_Region), false))) else some (.inr (((⟨x3, x37, x40, x43⟩ : api_Region), true)))) else (if x50 ≠ x6 then (if x36 < (IntKind.i64.wrap (x5 + x6)) then some (.inr (((⟨0, [], [], []⟩ : api_Region), false))) else some (.inr (((⟨x3, x37, x40, x43⟩ : api_Region), true)))) else (((if (IntKind.i64.wrap (x36 + 1)) < x49 then some ((decide ((x51.length : Int) < 50))) else some false) : Option (Bool)).bind fun x86 => (if x86 = true then some (.inr (((⟨0, [], [], []⟩ : api_Region), false))) else (((if (IntKind.i64.wrap (x36 + 1)) ≤ x49 then (if (x37.length + x51.length) * 1 ≤ 140737488355328 then some ((x37 ++ x51), x40, x43) else none) else (((if (IntKind.i64.wrap (x36 + 1)) ≤ (IntKind.i64.wrap (x5 + x6)) then (if (x40.length + 1) * 24 ≤ 140737488355328 then some ((x40 ++ ([x51])), x43) else none) else (if (x43.length + 1) * 24 ≤ 140737488355328 then some (x40, (x43 ++ ([x51]))) else none)) : Option ((List (List Int)) × (List (List Int)))).bind fun (x104, x107) => some (x37, x104, x107))) : Option ((List Int) × (List (List Int)) × (List (List Int)))).bind fun (x90, x93, x96) => some (.inl (IntKind.i64.wrap (x36 + 1), x90, x93, x96))))))))) else (if x36 < (IntKind.i64.wrap (x5 + x6)) then some (.inr (((⟨0, [], [], []⟩ : api_Region), false))) else some (.inr (((⟨x3, x37, x40, x43⟩ : api_Region), true))))))
def region_Read_f (a0 : disk_Disk) (a1 : Int) (a2 : Int) : Option (api_Region × Bool) :=
 (((((if 0 ≥ a2 then some true else (if a1 < 0 then some true else ((disk_Disk_Sectors_f a0).bind fun x18 => some ((decide (0 ≥ (IntKind.i64.wrap (x18 - a1)))))))) : Option (Bool)).bind fun x14 => (if x14 = true then some (0, 0, 0, 0, [], false) else ((disk_Disk_Read_f a0 (IntKind.i64.wrap (a1 + 0))).bind fun (x21, x22) => (if x22 ≠ 0 then some (0, 0, 0, 0, [], false) else ((sector_Get_f x21).bind fun (x27, x28) => some (x27.Gen, x27.Place, x27.Parts, x27.Kept, x27.Body, x28)))))) : Option (Int × Int × Int × Int × (List Int) × Bool)).bind fun (x3, x4, x5, x6, x7, x10) => (if x10 = true then (if (IntKind.i64.wrap (x5 + x6)) > a2 then some (((⟨0, [], [], []⟩ : api_Region), false)) else ((lp (region_Read_b0 a0 a1 a2 x3 x5 x6) (0, [], [], [])).bind fun r => some r)) else some (((⟨0, [], [], []⟩ : api_Region), false))))
set_option maxHeartbeats 4000000 in
set_option maxRecDepth 20000 in
theorem region_Read_ok {w0 w : World} {ps : List PF} {fs : List SF} {a0 : disk_Disk} {g0_ : Nat} {a1 : Int} {a2 : Int} {r0 : api_Region} {r1 : Bool} (H : Hp w0 ps (obj_disk_Disk g0_ a0 :: fs) w) (h : region_Read_f a0 a1 a2 = some (r0, r1)) :
  Calls Try.prog 37 [.pointer (some ⟨g0_, 0, none⟩), .int .i64 a1, .int .i64 a2].toArray w fun e w' => ∃ v, e = .returned v ∧ ∃ (A0_1 : Option Addr) (c0_1 : Nat) (A0_2 : Option Addr) (c0_2 : Nat) (A0_3 : Option Addr) (c0_3 : Nat), v = .tuple #[.agg #[.int .i64 r0.Gen, .slice A0_1 r0.State.length c0_1, .slice A0_2 r0.Kept.length c0_2, .slice A0_3 r0.More.length c0_3], .bool r1] ∧ Hp w0 (rd kByte A0_1 c0_1 r0.State :: rd (kSlice kByte) A0_2 c0_2 r0.Kept :: ps) (own (kSlice kByte) 29 A0_3 c0_3 r0.More :: obj_disk_Disk g0_ a0 :: fs) w' := by
 refine enter [.pointer (some ⟨g0_, 0, none⟩), .int .i64 a1, .int .i64 a2] 123 Try.func37 fun Q a NP RET NRM F => ?_
 replace NP : ∀ c a w, ¬ Q (.panic c) a w := fun c a w h => by rcases NP c a w h with h | ⟨w, v, h, _⟩ <;> cases h
 unfold region_Read_f at h
 refine rg ?_
 refine ls (lal F H ti32 (cs := [.int .i64 0, .slice none 0 0, .slice none 0 0, .slice none 0 0]) rfl fun g1 w a H F => ?_)
 refine as_ F (v := .bool false) rfl fun a F => ?_
 refine rgend ?_
 refine wscope 0 rfl ?_
 refine rg ?_
 refine mv F rfl fun a F => ?_
 refine mv F rfl fun a F => ?_
 refine mv F rfl fun a F => ?_
 refine ls (lbd F (vs := [(0, .pointer (some ⟨g0_, 0, none⟩)), (1, .int .i64 a1), (2, .int .i64 a2)]) (cs := [.pointer (some ⟨g0_, 0, none⟩), .int .i64 a1, .int .i64 a2]) rfl (fun w => by kernel_rfl) fun a F => ?_)
 refine ls (lal F H ti105 (cs := [.pointer none, .int .i64 0, .int .i64 0]) rfl fun g2 w a H F => ?_)
 obtain ⟨_, hr, H⟩ := Hp.store (t := 105) (o := 0) (n := 3) (vs := [.pointer (some ⟨g0_, 0, none⟩), .int .i64 a1, .int .i64 a2]) (cs' := [.pointer (some ⟨g0_, 0, none⟩), .int .i64 a1, .int .i64 a2]) (H) (F.t 8 rfl) (F.t 18 rfl) rfl sz105 rfl (Nat.le_of_ble_eq_true rfl) rfl rfl
 refine ls (qn F (.inl rfl) (hr _ _ _ _) fun a F => ?_)
 refine rgend ?_
 replace F := F.only [8, 6, 2] (l' := [(8, .pointer (some ⟨g2, 0, none⟩)), (6, .pointer (some ⟨g1, 0, none⟩)), (2, .int .i64 a2)]) rfl
 refine rg ?_
 refine qw F (r_ldA (F.t 8 rfl) (cel_range (o := 0) (n := 3) (vs := [.pointer (some ⟨g0_, 0, none⟩), .int .i64 a1, .int .i64 a2]) (H.cell 0 rfl) rfl) agg105 rfl) fun a F => ?_
 obtain ⟨o_10, k_10, h⟩ := Option.bind_eq_some_iff.1 h
 refine ls (call F Try.func77 (R := fun v w => ∃ (x3 : Int) (x4 : Int) (x5 : Int) (x6 : Int) (x7 : List Int) (x10 : Bool), (x3, x4, x5, x6, x7, x10) = o_10 ∧ ∃ (A8 : Option Addr) (c9 : Nat), v = .tuple #[.agg #[.int .i64 x3, .int .i64 x4, .int .i64 x5, .int .i64 x6, .slice A8 x7.length c9], .bool x10] ∧ Hp w0 (rd kByte A8 c9 x7 :: ps) (cel g2 [.pointer (some ⟨g0_, 0, none⟩), .int .i64 a1, .int .i64 a2] 105 :: obj_disk_Disk g0_ a0 :: cel g1 [.int .i64 0, .slice none 0 0, .slice none 0 0, .slice none 0 0] 32 :: fs) w) (args := [.agg #[.pointer (some ⟨g0_, 0, none⟩), .int .i64 a1, .int .i64 a2], .int .i64 0]) (cap := []) ?_ rfl rfl ?_)
 ·refine enter [.agg #[.pointer (some ⟨g0_, 0, none⟩), .int .i64 a1, .int .i64 a2], .int .i64 0] 45 Try.func77 fun Q a NP RET NRM F => ?_
  replace NP : ∀ c a w, ¬ Q (.panic c) a w := fun c a w h => by rcases NP c a w h with h | ⟨w, v, h, _⟩ <;> cases h
  refine rg ?_
  refine ls (lbox F H rfl (cs := [.pointer (some ⟨g0_, 0, none⟩), .int .i64 a1, .int .i64 a2]) rfl fun g12 w a H F => ?_)
  refine ls (lal F H ti53 (cs := [.int .i64 0, .int .i64 0, .int .i64 0, .int .i64 0, .slice none 0 0]) rfl fun g13 w a H F => ?_)
  refine as_ F (v := .bool false) rfl fun a F => ?_
  refine rgend ?_
  refine wp_seq ?_
  refine wp_seq ?_
  obtain ⟨o_14, k_14, k_10⟩ := Option.bind_eq_some_iff.1 k_10
  refine cut (fun a w => ∃ (x14 : Bool), x14 = o_14 ∧ Fr 45 [] [(1, .int .i64 0), (2, .pointer (some ⟨g12, 0, none⟩)), (4, .pointer (some ⟨g13, 0, none⟩)), (26, .bool x14)] a ∧ Hp w0 ps (cel g13 [.int .i64 0, .int .i64 0, .int .i64 0, .int .i64 0, .slice none 0 0] 53 :: cel g12 [.pointer (some ⟨g0_, 0, none⟩), .int .i64 a1, .int .i64 a2] 105 :: cel g2 [.pointer (some ⟨g0_, 0, none⟩), .int .i64 a1, .int .i64 a2] 105 :: obj_disk_Disk g0_ a0 :: cel g1 [.int .i64 0, .slice none 0 0, .slice none 0 0, .slice none 0 0] 32 :: fs) w) ?_ ?_
  ·skip
   replace H := H.drew
   have HS := H.fx4
   refine dr (fun w => Hp w0 ps (cel g13 [.int .i64 0, .int .i64 0, .int .i64 0, .int .i64 0, .slice none 0 0] 53 :: cel g12 [.pointer (some ⟨g0_, 0, none⟩), .int .i64 a1, .int .i64 a2] 105 :: cel g2 [.pointer (some ⟨g0_, 0, none⟩), .int .i64 a1, .int .i64 a2] 105 :: cel g1 [.int .i64 0, .slice none 0 0, .slice none 0 0, .slice none 0 0] 32 :: fs) w) _ (by kernel_rfl) ?_ (n := 19)
   refine dq 0 F rfl (by kernel_rfl) NP HS (fun w S => (r_mv (F.t 1 rfl))) fun a F => ?_
   refine dq 1 F rfl (by kernel_rfl) NP HS (fun w S => (r_fa (off := 2) (F.t 2 rfl) fa105_2)) fun a F => ?_
   refine dq 2 F rfl (by kernel_rfl) NP HS (fun w S => (r_ld (F.t 9 rfl) (cel_cell (o := 2) (S.cell 1 rfl) rfl) one3)) fun a F => ?_
   refine dq 3 F rfl (by kernel_rfl) NP HS (fun w S => (r_ge (F.t 8 rfl) (F.t 10 rfl))) fun a F => ?_
   refine dq 4 F rfl (by kernel_rfl) NP HS (fun w S => (r_mv (F.t 11 rfl))) fun a F => ?_
   by_cases c16 : 0 ≥ a2
   ·rw [if_pos c16] at k_14
    rw [decide_eq_true c16] at F
    refine doff 5 F rfl (by kernel_rfl) NP HS fun a F => ?_
    refine doff 6 F rfl (by kernel_rfl) NP HS fun a F => ?_
    refine doff 7 F rfl (by kernel_rfl) NP HS fun a F => ?_
    refine dq 8 F rfl (by kernel_rfl) NP HS (fun w S => (r_pickT (F.t 12 rfl) (F.ev (x := .const (.bool true)) rfl))) fun a F => ?_
    refine dq 9 F rfl (by kernel_rfl) NP HS (fun w S => (r_mv (F.t 16 rfl))) fun a F => ?_
    refine doff 10 F rfl (by kernel_rfl) NP HS fun a F => ?_
    refine doff 11 F rfl (by kernel_rfl) NP HS fun a F => ?_
    refine doff 12 F rfl (by kernel_rfl) NP HS fun a F => ?_
    refine doff 13 F rfl (by kernel_rfl) NP HS fun a F => ?_
    refine doff 14 F rfl (by kernel_rfl) NP HS fun a F => ?_
    refine doff 15 F rfl (by kernel_rfl) NP HS fun a F => ?_
    refine doff 16 F rfl (by kernel_rfl) NP HS fun a F => ?_
    refine doff 17 F rfl (by kernel_rfl) NP HS fun a F => ?_
    refine dq 18 F rfl (by kernel_rfl) NP HS (fun w S => (r_pickT (F.t 17 rfl) (F.ev (x := .const (.bool true)) rfl))) fun a F => ?_
    refine ddone (by kernel_rfl) ?_
    replace F := F.only [26, 4, 2, 1] (l' := [(26, .bool true), (4, .pointer (some ⟨g13, 0, none⟩)), (2, .pointer (some ⟨g12, 0, none⟩)), (1, .int .i64 0)]) rfl
    try dsimp only at k_14
    obtain rfl := Option.some.inj k_14
    exact ⟨_, rfl, F.only [1, 2, 4, 26] rfl, H.f3.f4.f4.f4.f4⟩
   ·rw [if_neg c16] at k_14
    rw [decide_eq_false c16] at F
    refine dq 5 F rfl (by kernel_rfl) NP HS (fun w S => (r_fa (off := 1) (F.t 2 rfl) fa105_1)) fun a F => ?_
    refine dq 6 F rfl (by kernel_rfl) NP HS (fun w S => (r_ld (F.t 13 rfl) (cel_cell (o := 1) (S.cell 1 rfl) rfl) one3)) fun a F => ?_
    refine dq 7 F rfl (by kernel_rfl) NP HS (fun w S => (r_lt (F.t 14 rfl) (F.ev (x := .const (.int .i64 0)) rfl))) fun a F => ?_
    refine dq 8 F rfl (by kernel_rfl) NP HS (fun w S => (r_pickF (F.t 12 rfl) (F.t 15 rfl))) fun a F => ?_
    refine dq 9 F rfl (by kernel_rfl) NP HS (fun w S => (r_mv (F.t 16 rfl))) fun a F => ?_
    by_cases c17 : a1 < 0
    ·rw [if_pos c17] at k_14
     rw [decide_eq_true c17] at F
     refine doff 10 F rfl (by kernel_rfl) NP HS fun a F => ?_
     refine doff 11 F rfl (by kernel_rfl) NP HS fun a F => ?_
     refine doff 12 F rfl (by kernel_rfl) NP HS fun a F => ?_
     refine doff 13 F rfl (by kernel_rfl) NP HS fun a F => ?_
     refine doff 14 F rfl (by kernel_rfl) NP HS fun a F => ?_
     refine doff 15 F rfl (by kernel_rfl) NP HS fun a F => ?_
     refine doff 16 F rfl (by kernel_rfl) NP HS fun a F => ?_
     refine doff 17 F rfl (by kernel_rfl) NP HS fun a F => ?_
     refine dq 18 F rfl (by kernel_rfl) NP HS (fun w S => (r_pickT (F.t 17 rfl) (F.ev (x := .const (.bool true)) rfl))) fun a F => ?_
     refine ddone (by kernel_rfl) ?_
     replace F := F.only [26, 4, 2, 1] (l' := [(26, .bool true), (4, .pointer (some ⟨g13, 0, none⟩)), (2, .pointer (some ⟨g12, 0, none⟩)), (1, .int .i64 0)]) rfl
     try dsimp only at k_14
     obtain rfl := Option.some.inj k_14
     exact ⟨_, rfl, F.only [1, 2, 4, 26] rfl, H.f3.f4.f4.f4.f4⟩
    ·rw [if_neg c17] at k_14
     rw [decide_eq_false c17] at F
     refine dq 10 F rfl (by kernel_rfl) NP HS (fun w S => (r_mv (F.t 1 rfl))) fun a F => ?_
     refine dq 11 F rfl (by kernel_rfl) NP HS (fun w S => (r_fa (off := 0) (F.t 2 rfl) fa105_0)) fun a F => ?_
     refine dq 12 F rfl (by kernel_rfl) NP HS (fun w S => (r_ld (F.t 19 rfl) (cel_cell (o := 0) (S.cell 1 rfl) rfl) one24)) fun a F => ?_
     refine dq 14 F rfl (by kernel_rfl) NP HS (fun w S => (r_fa (off := 1) (F.t 2 rfl) fa105_1)) fun a F => ?_
     refine dq 15 F rfl (by kernel_rfl) NP HS (fun w S => (r_ld (F.t 22 rfl) (cel_cell (o := 1) (S.cell 1 rfl) rfl) one3)) fun a F => ?_
     obtain ⟨x18, e19, k_14⟩ := Option.bind_eq_some_iff.1 k_14
     try dsimp only at k_14
     refine d1 13 rfl (by kernel_rfl) (call F Try.func76 (disk_Disk_Sectors_ok (H.f3.f3.f3.f3.f4) e19) rfl rfl fun v w hR a F => ?_)
     obtain ⟨rfl, H⟩ := hR
     have HS := H.fx0
     refine kg _ HS (fun w S => S) ?_
     refine dq 16 F rfl (by kernel_rfl) NP HS (fun w S => (r_sub (F.t 21 rfl) (F.t 23 rfl))) fun a F => ?_
     refine dq 17 F rfl (by kernel_rfl) NP HS (fun w S => (r_ge (F.t 18 rfl) (F.t 24 rfl))) fun a F => ?_
     refine dq 18 F rfl (by kernel_rfl) NP HS (fun w S => (r_pickF (F.t 17 rfl) (F.t 25 rfl))) fun a F => ?_
     refine ddone (by kernel_rfl) ?_
     replace F := F.only [26, 4, 2, 1] (l' := [(26, .bool (decide (0 ≥ (IntKind.i64.wrap (x18 - a1))))), (4, .pointer (some ⟨g13, 0, none⟩)), (2, .pointer (some ⟨g12, 0, none⟩)), (1, .int .i64 0)]) rfl
     try dsimp only at k_14
     obtain rfl := Option.some.inj k_14
     exact ⟨_, rfl, F.only [1, 2, 4, 26] rfl, H.f4.f1.f4.f4.f4⟩
  ·rintro a w ⟨x14, rfl, F, H⟩
   try dsimp only at k_10 F H
   by_cases c20 : x14 = true
   ·rw [if_pos c20] at k_10
    rw [c20] at F
    refine wp_cond_true (F.ev rfl) ?_
    refine rg ?_
    refine ls (lbd F (vs := []) (cs := [.int .i64 0, .int .i64 0, .int .i64 0, .int .i64 0, .slice none 0 0]) rfl (fun w => by kernel_rfl) fun a F => ?_)
    obtain ⟨_, hr, H⟩ := Hp.store (t := 53) (o := 0) (n := 5) (vs := [.int .i64 0, .int .i64 0, .int .i64 0, .int .i64 0, .slice none 0 0]) (cs' := [.int .i64 0, .int .i64 0, .int .i64 0, .int .i64 0, .slice none 0 0]) (H) (F.t 4 rfl) (F.t 27 rfl) rfl sz53 rfl (Nat.le_of_ble_eq_true rfl) rfl rfl
    refine ls (qn F (.inl rfl) (hr _ _ _ _) fun a F => ?_)
    refine as_ F (v := .bool false) rfl fun a F => ?_
    refine rgend ?_
    replace F := F.only [5, 4] (l' := [(5, .bool false), (4, .pointer (some ⟨g13, 0, none⟩))]) rfl
    refine wp_ret ?_
    replace H := H.nilRd kByte
    try dsimp only at k_10
    obtain rfl := Option.some.inj k_10
    exact RET _ _ (retC2 F rfl rfl rfl (ldvA (cel_range (o := 0) (n := 5) (vs := [.int .i64 0, .int .i64 0, .int .i64 0, .int .i64 0, .slice none 0 0]) (H.cell 0 rfl) rfl) agg53 rfl) ⟨_, rfl, _, _, _, _, _, _, rfl, none, 0, rfl, H.fx1.fx0⟩)
   ·rw [if_neg c20] at k_10
    rw [Bool.eq_false_iff.2 c20] at F
    refine wp_cond_false (F.ev rfl) ?_
    refine wp_skip ?_
    refine rg ?_
    refine qw F (r_fa (off := 0) (F.t 2 rfl) fa105_0) fun a F => ?_
    refine qw F (r_ld (F.t 29 rfl) (cel_cell (o := 0) (H.cell 1 rfl) rfl) one24) fun a F => ?_
    refine qw F (r_fa (off := 1) (F.t 2 rfl) fa105_1) fun a F => ?_
    refine qw F (r_ld (F.t 31 rfl) (cel_cell (o := 1) (H.cell 1 rfl) rfl) one3) fun a F => ?_
    refine mv F rfl fun a F => ?_
    refine qw F (r_add (F.t 32 rfl) (F.t 33 rfl)) fun a F => ?_
    obtain ⟨⟨x21, x22⟩, e23, k_10⟩ := Option.bind_eq_some_iff.1 k_10
    try dsimp only at k_10
    refine ls (call F Try.func64 (disk_Disk_Read_ok (H.f4.f3.f3.f3.f4) e23) rfl rfl fun v w hR a F => ?_)
    obtain ⟨A24, c25, rfl, H⟩ := hR
    refine mv F rfl fun a F => ?_
    refine qw F (r_ex (F.t 28 rfl) rfl) fun a F => ?_
    refine qw F (r_ex (F.t 28 rfl) rfl) fun a F => ?_
    refine as_ F rfl fun a F => ?_
    refine as_ F rfl fun a F => ?_
    refine rgend ?_
    replace F := F.only [7, 6, 4] (l' := [(7, .int .i64 x22), (6, .slice A24 x21.length c25), (4, .pointer (some ⟨g13, 0, none⟩))]) rfl
    refine wp_seq ?_
    refine rg ?_
    refine mv F rfl fun a F => ?_
    refine qw F (r_ne (F.t 38 rfl) (F.ev (x := .const (.int .i64 0)) rfl)) fun a F => ?_
    refine rgend ?_
    by_cases c26 : x22 ≠ 0
    ·rw [if_pos c26] at k_10
     rw [decide_eq_true c26] at F
     refine wp_cond_true (F.ev rfl) ?_
     refine rg ?_
     refine ls (lbd F (vs := []) (cs := [.int .i64 0, .int .i64 0, .int .i64 0, .int .i64 0, .slice none 0 0]) rfl (fun w => by kernel_rfl) fun a F => ?_)
     obtain ⟨_, hr, H⟩ := Hp.store (t := 53) (o := 0) (n := 5) (vs := [.int .i64 0, .int .i64 0, .int .i64 0, .int .i64 0, .slice none 0 0]) (cs' := [.int .i64 0, .int .i64 0, .int .i64 0, .int .i64 0, .slice none 0 0]) (H.f5.f5.f5.f4.f4.f5) (F.t 4 rfl) (F.t 40 rfl) rfl sz53 rfl (Nat.le_of_ble_eq_true rfl) rfl rfl
     refine ls (qn F (.inl rfl) (hr _ _ _ _) fun a F => ?_)
     refine as_ F (v := .bool false) rfl fun a F => ?_
     refine rgend ?_
     replace F := F.only [5, 4] (l' := [(5, .bool false), (4, .pointer (some ⟨g13, 0, none⟩))]) rfl
     refine wp_ret ?_
     replace H := H.nilRd kByte
     try dsimp only at k_10
     obtain rfl := Option.some.inj k_10
     exact RET _ _ (retC2 F rfl rfl rfl (ldvA (cel_range (o := 0) (n := 5) (vs := [.int .i64 0, .int .i64 0, .int .i64 0, .int .i64 0, .slice none 0 0]) (H.cell 0 rfl) rfl) agg53 rfl) ⟨_, rfl, _, _, _, _, _, _, rfl, none, 0, rfl, H.f5.f3.f5.fx5.fx4.fx3⟩)
    ·rw [if_neg c26] at k_10
     rw [decide_eq_false c26] at F
     refine wp_cond_false (F.ev rfl) ?_
     refine wp_skip ?_
     refine rg ?_
     refine mv F rfl fun a F => ?_
     replace H := (H).freeze
     obtain ⟨⟨x27, x28⟩, e29, k_10⟩ := Option.bind_eq_some_iff.1 k_10
     try dsimp only at k_10
     refine ls (call F Try.func92 (sector_Get_ok (H.p0) e29) rfl rfl fun v w hR a F => ?_)
     obtain ⟨A30, c31, rfl, H⟩ := hR
     refine qw F (r_ex (F.t 42 rfl) rfl) fun a F => ?_
     refine qw F (r_ex (F.t 42 rfl) rfl) fun a F => ?_
     obtain ⟨_, hr, H⟩ := Hp.store (t := 53) (o := 0) (n := 5) (vs := [.int .i64 x27.Gen, .int .i64 x27.Place, .int .i64 x27.Parts, .int .i64 x27.Kept, .slice A30 x27.Body.length c31]) (cs' := [.int .i64 x27.Gen, .int .i64 x27.Place, .int .i64 x27.Parts, .int .i64 x27.Kept, .slice A30 x27.Body.length c31]) (H.f4.f4.f4.f3.f4) (F.t 4 rfl) (F.t 43 rfl) rfl sz53 rfl (Nat.le_of_ble_eq_true rfl) rfl rfl
     refine ls (qn F (.inl rfl) (hr _ _ _ _) fun a F => ?_)
     refine as_ F rfl fun a F => ?_
     refine rgend ?_
     replace F := F.only [5, 4] (l' := [(5, .bool x28), (4, .pointer (some ⟨g13, 0, none⟩))]) rfl
     refine wp_ret ?_
     try dsimp only at k_10
     obtain rfl := Option.some.inj k_10
     exact RET _ _ (retC2 F rfl rfl rfl (ldvA (cel_range (o := 0) (n := 5) (vs := [.int .i64 x27.Gen, .int .i64 x27.Place, .int .i64 x27.Parts, .int .i64 x27.Kept, .slice A30 x27.Body.length c31]) (H.cell 0 rfl) rfl) agg53 rfl) ⟨_, rfl, _, _, _, _, _, _, rfl, A30, c31, rfl, H.px1.f4.f2.f4.fx4.fx3⟩)
 ·rintro v w ⟨x3, x4, x5, x6, x7, x10, rfl, A8, c9, rfl, H⟩ a F
  try dsimp only at h F H
  refine mv F rfl fun a F => ?_
  refine qw F (r_ex (F.t 19 rfl) rfl) fun a F => ?_
  refine qw F (r_ex (F.t 19 rfl) rfl) fun a F => ?_
  refine ls (lal F H ti53 (cs := [.int .i64 0, .int .i64 0, .int .i64 0, .int .i64 0, .slice none 0 0]) rfl fun g32 w a H F => ?_)
  obtain ⟨_, hr, H⟩ := Hp.store (t := 53) (o := 0) (n := 5) (vs := [.int .i64 x3, .int .i64 x4, .int .i64 x5, .int .i64 x6, .slice A8 x7.length c9]) (cs' := [.int .i64 x3, .int .i64 x4, .int .i64 x5, .int .i64 x6, .slice A8 x7.length c9]) (H) (F.t 9 rfl) (F.t 22 rfl) rfl sz53 rfl (Nat.le_of_ble_eq_true rfl) rfl rfl
  refine ls (qn F (.inl rfl) (hr _ _ _ _) fun a F => ?_)
  refine as_ F rfl fun a F => ?_
  refine rgend ?_
  replace F := F.only [10, 9, 8, 6, 2] (l' := [(10, .bool x10), (9, .pointer (some ⟨g32, 0, none⟩)), (8, .pointer (some ⟨g2, 0, none⟩)), (6, .pointer (some ⟨g1, 0, none⟩)), (2, .int .i64 a2)]) rfl
  refine rg ?_
  refine qw F (r_fa (off := 2) (F.t 9 rfl) fa53_2) fun a F => ?_
  refine qw F (r_ld (F.t 24 rfl) (cel_cell (o := 2) (H.cell 0 rfl) rfl) one3) fun a F => ?_
  refine qw F (r_fa (off := 3) (F.t 9 rfl) fa53_3) fun a F => ?_
  refine qw F (r_ld (F.t 26 rfl) (cel_cell (o := 3) (H.cell 0 rfl) rfl) one3) fun a F => ?_
  refine qw F (r_add (F.t 25 rfl) (F.t 27 rfl)) fun a F => ?_
  refine as_ F rfl fun a F => ?_
  refine rgend ?_
  replace F := F.only [11, 10, 9, 8, 6, 2] (l' := [(11, .int .i64 (IntKind.i64.wrap (x5 + x6))), (10, .bool x10), (9, .pointer (some ⟨g32, 0, none⟩)), (8, .pointer (some ⟨g2, 0, none⟩)), (6, .pointer (some ⟨g1, 0, none⟩)), (2, .int .i64 a2)]) rfl
  refine wp_seq ?_
  refine rg ?_
  refine mv F rfl fun a F => ?_
  refine qw F (r_not (F.t 29 rfl)) fun a F => ?_
  refine mv F rfl fun a F => ?_
  by_cases c33 : x10 = true
  ·rw [if_pos c33] at h
   rw [c33] at F
   refine mv F rfl fun a F => ?_
   refine mv F rfl fun a F => ?_
   refine qw F (r_gt (F.t 32 rfl) (F.t 33 rfl)) fun a F => ?_
   refine qw F (r_pickF (F.t 31 rfl) (F.t 34 rfl)) fun a F => ?_
   refine rgend ?_
   replace F := F.only [35, 11, 9, 8, 6] (l' := [(35, .bool (decide ((IntKind.i64.wrap (x5 + x6)) > a2))), (11, .int .i64 (IntKind.i64.wrap (x5 + x6))), (9, .pointer (some ⟨g32, 0, none⟩)), (8, .pointer (some ⟨g2, 0, none⟩)), (6, .pointer (some ⟨g1, 0, none⟩))]) rfl
   by_cases c34 : (IntKind.i64.wrap (x5 + x6)) > a2
   ·rw [if_pos c34] at h
    rw [decide_eq_true c34] at F
    refine wp_cond_true (F.ev rfl) ?_
    refine rg ?_
    refine ls (lbd F (vs := []) (cs := [.int .i64 0, .slice none 0 0, .slice none 0 0, .slice none 0 0]) rfl (fun w => by kernel_rfl) fun a F => ?_)
    obtain ⟨_, hr, H⟩ := Hp.store (t := 32) (o := 0) (n := 4) (vs := [.int .i64 0, .slice none 0 0, .slice none 0 0, .slice none 0 0]) (cs' := [.int .i64 0, .slice none 0 0, .slice none 0 0, .slice none 0 0]) (H.f2.f2.f2.f3) (F.t 6 rfl) (F.t 36 rfl) rfl sz32 rfl (Nat.le_of_ble_eq_true rfl) rfl rfl
    refine ls (qn F (.inl rfl) (hr _ _ _ _) fun a F => ?_)
    refine as_ F (v := .bool false) rfl fun a F => ?_
    refine rgend ?_
    replace F := F.only [7, 6] (l' := [(7, .bool false), (6, .pointer (some ⟨g1, 0, none⟩))]) rfl
    refine wp_ret ?_
    replace H := H.nilRd kByte
    replace H := H.nilRd (kSlice kByte)
    replace H := H.nilOwn (kSlice kByte) 29
    try dsimp only at h
    obtain ⟨rfl, rfl⟩ := Prod.mk.inj (Option.some.inj h)
    exact RET _ _ (retC2 F rfl rfl rfl (ldvA (cel_range (o := 0) (n := 4) (vs := [.int .i64 0, .slice none 0 0, .slice none 0 0, .slice none 0 0]) (H.cell 1 rfl) rfl) agg32 rfl) ⟨_, rfl, none, 0, none, 0, none, 0, rfl, H.p0.p2.px2.px2.px2.fx3.fx2.fx1⟩)
   ·rw [if_neg c34] at h
    rw [decide_eq_false c34] at F
    refine wp_cond_false (F.ev rfl) ?_
    refine wp_skip ?_
    refine rg ?_
    refine qw F (r_fa (off := 0) (F.t 9 rfl) fa53_0) fun a F => ?_
    refine qw F (r_ld (F.t 37 rfl) (cel_cell (o := 0) (H.cell 0 rfl) rfl) one2) fun a F => ?_
    refine ls (lbd F (vs := [(0, .int .i64 x3)]) (cs := [.int .i64 x3, .slice none 0 0, .slice none 0 0, .slice none 0 0]) rfl (fun w => by kernel_rfl) fun a F => ?_)
    refine ls (lal F H ti32 (cs := [.int .i64 0, .slice none 0 0, .slice none 0 0, .slice none 0 0]) rfl fun g35 w a H F => ?_)
    obtain ⟨_, hr, H⟩ := Hp.store (t := 32) (o := 0) (n := 4) (vs := [.int .i64 x3, .slice none 0 0, .slice none 0 0, .slice none 0 0]) (cs' := [.int .i64 x3, .slice none 0 0, .slice none 0 0, .slice none 0 0]) (H) (F.t 12 rfl) (F.t 39 rfl) rfl sz32 rfl (Nat.le_of_ble_eq_true rfl) rfl rfl
    refine ls (qn F (.inl rfl) (hr _ _ _ _) fun a F => ?_)
    refine rgend ?_
    replace F := F.only [12, 11, 9, 8, 6] (l' := [(12, .pointer (some ⟨g35, 0, none⟩)), (11, .int .i64 (IntKind.i64.wrap (x5 + x6))), (9, .pointer (some ⟨g32, 0, none⟩)), (8, .pointer (some ⟨g2, 0, none⟩)), (6, .pointer (some ⟨g1, 0, none⟩))]) rfl
    refine rg ?_
    refine as_ F (v := .int .i64 0) rfl fun a F => ?_
    refine rgend ?_
    replace H := H.nilOwn kByte 5
    replace H := H.nilOwn (kSlice kByte) 29
    replace H := H.nilOwn (kSlice kByte) 29
    obtain ⟨o_45, k_45, h⟩ := Option.bind_eq_some_iff.1 h
    ·refine wp_seq (wp_label (wlabel rfl (region_Read_b0 a0 a1 a2 x3 x5 x6) (fun (s : Int × (List Int) × (List (List Int)) × (List (List Int))) a w => ∃ (A38 : Option Addr) (c39 : Nat) (A41 : Option Addr) (c42 : Nat) (A44 : Option Addr) (c45 : Nat), Fr 123 [] [(6, .pointer (some ⟨g1, 0, none⟩)), (8, .pointer (some ⟨g2, 0, none⟩)), (9, .pointer (some ⟨g32, 0, none⟩)), (11, .int .i64 (IntKind.i64.wrap (x5 + x6))), (12, .pointer (some ⟨g35, 0, none⟩)), (13, .int .i64 s.1)] a ∧ Hp w0 (rd kByte A8 c9 x7 :: ps) (own kByte 5 A38 c39 s.2.1 :: own (kSlice kByte) 29 A41 c42 s.2.2.1 :: own (kSlice kByte) 29 A44 c45 s.2.2.2 :: cel g2 [.pointer (some ⟨g0_, 0, none⟩), .int .i64 a1, .int .i64 a2] 105 :: cel g32 [.int .i64 x3, .int .i64 x4, .int .i64 x5, .int .i64 x6, .slice A8 x7.length c9] 53 :: obj_disk_Disk g0_ a0 :: cel g1 [.int .i64 0, .slice none 0 0, .slice none 0 0, .slice none 0 0] 32 :: cel g35 [.int .i64 x3, .slice A38 s.2.1.length c39, .slice A41 s.2.2.1.length c42, .slice A44 s.2.2.2.length c45] 32 :: fs) w) k_45 ⟨none, 0, none, 0, none, 0, F.only [6, 8, 9, 11, 12, 13] rfl, H.f3.f7.f7.f6.f7.f6.f6.f7⟩ ?_))
     rintro ⟨x36, x37, x40, x43⟩ a w q_45 j_45 u_45 ⟨A38, c39, A41, c42, A44, c45, F, H⟩
     unfold region_Read_b0 at j_45
     try dsimp only at j_45 F H
     refine rg ?_
     refine qw F (r_ldA (F.t 8 rfl) (cel_range (o := 0) (n := 3) (vs := [.pointer (some ⟨g0_, 0, none⟩), .int .i64 a1, .int .i64 a2]) (H.cell 3 rfl) rfl) agg105 rfl) fun a F => ?_
     refine mv F rfl fun a F => ?_
     obtain ⟨o_54, k_54, j_45⟩ := Option.bind_eq_some_iff.1 j_45
     refine ls (call F Try.func77 (R := fun v w => ∃ (x47 : Int) (x48 : Int) (x49 : Int) (x50 : Int) (x51 : List Int) (x54 : Bool), (x47, x48, x49, x50, x51, x54) = o_54 ∧ ∃ (A52 : Option Addr) (c53 : Nat), v = .tuple #[.agg #[.int .i64 x47, .int .i64 x48, .int .i64 x49, .int .i64 x50, .slice A52 x51.length c53], .bool x54] ∧ Hp w0 (rd kByte A52 c53 x51 :: rd kByte A8 c9 x7 :: ps) (own kByte 5 A38 c39 x37 :: own (kSlice kByte) 29 A41 c42 x40 :: own (kSlice kByte) 29 A44 c45 x43 :: cel g2 [.pointer (some ⟨g0_, 0, none⟩), .int .i64 a1, .int .i64 a2] 105 :: cel g32 [.int .i64 x3, .int .i64 x4, .int .i64 x5, .int .i64 x6, .slice A8 x7.length c9] 53 :: obj_disk_Disk g0_ a0 :: cel g1 [.int .i64 0, .slice none 0 0, .slice none 0 0, .slice none 0 0] 32 :: cel g35 [.int .i64 x3, .slice A38 x37.length c39, .slice A41 x40.length c42, .slice A44 x43.length c45] 32 :: fs) w) (args := [.agg #[.pointer (some ⟨g0_, 0, none⟩), .int .i64 a1, .int .i64 a2], .int .i64 x36]) (cap := []) ?_ rfl rfl ?_)
     ·refine enter [.agg #[.pointer (some ⟨g0_, 0, none⟩), .int .i64 a1, .int .i64 a2], .int .i64 x36] 45 Try.func77 fun Q a NP RET NRM F => ?_
      replace NP : ∀ c a w, ¬ Q (.panic c) a w := fun c a w h => by rcases NP c a w h with h | ⟨w, v, h, _⟩ <;> cases h
      refine rg ?_
      refine ls (lbox F H rfl (cs := [.pointer (some ⟨g0_, 0, none⟩), .int .i64 a1, .int .i64 a2]) rfl fun g56 w a H F => ?_)
      refine ls (lal F H ti53 (cs := [.int .i64 0, .int .i64 0, .int .i64 0, .int .i64 0, .slice none 0 0]) rfl fun g57 w a H F => ?_)
      refine as_ F (v := .bool false) rfl fun a F => ?_
      refine rgend ?_
      refine wp_seq ?_
      refine wp_seq ?_
      obtain ⟨o_58, k_58, k_54⟩ := Option.bind_eq_some_iff.1 k_54
      refine cut (fun a w => ∃ (x58 : Bool), x58 = o_58 ∧ Fr 45 [] [(1, .int .i64 x36), (2, .pointer (some ⟨g56, 0, none⟩)), (4, .pointer (some ⟨g57, 0, none⟩)), (26, .bool x58)] a ∧ Hp w0 (rd kByte A8 c9 x7 :: ps) (own kByte 5 A38 c39 x37 :: own (kSlice kByte) 29 A41 c42 x40 :: own (kSlice kByte) 29 A44 c45 x43 :: cel g35 [.int .i64 x3, .slice A38 x37.length c39, .slice A41 x40.length c42, .slice A44 x43.length c45] 32 :: cel g2 [.pointer (some ⟨g0_, 0, none⟩), .int .i64 a1, .int .i64 a2] 105 :: cel g32 [.int .i64 x3, .int .i64 x4, .int .i64 x5, .int .i64 x6, .slice A8 x7.length c9] 53 :: obj_disk_Disk g0_ a0 :: cel g57 [.int .i64 0, .int .i64 0, .int .i64 0, .int .i64 0, .slice none 0 0] 53 :: cel g1 [.int .i64 0, .slice none 0 0, .slice none 0 0, .slice none 0 0] 32 :: cel g56 [.pointer (some ⟨g0_, 0, none⟩), .int .i64 a1, .int .i64 a2] 105 :: fs) w) ?_ ?_
      ·skip
       replace H := H.drew
       have HS := H.fx7.fx4.fx3.fx2
       refine dr (fun w => Hp w0 (rd kByte A8 c9 x7 :: ps) (cel g57 [.int .i64 0, .int .i64 0, .int .i64 0, .int .i64 0, .slice none 0 0] 53 :: cel g56 [.pointer (some ⟨g0_, 0, none⟩), .int .i64 a1, .int .i64 a2] 105 :: cel g2 [.pointer (some ⟨g0_, 0, none⟩), .int .i64 a1, .int .i64 a2] 105 :: cel g32 [.int .i64 x3, .int .i64 x4, .int .i64 x5, .int .i64 x6, .slice A8 x7.length c9] 53 :: cel g1 [.int .i64 0, .slice none 0 0, .slice none 0 0, .slice none 0 0] 32 :: cel g35 [.int .i64 x3, .slice A38 x37.length c39, .slice A41 x40.length c42, .slice A44 x43.length c45] 32 :: fs) w) _ (by kernel_rfl) ?_ (n := 19)
       refine dq 0 F rfl (by kernel_rfl) NP HS (fun w S => (r_mv (F.t 1 rfl))) fun a F => ?_
       refine dq 1 F rfl (by kernel_rfl) NP HS (fun w S => (r_fa (off := 2) (F.t 2 rfl) fa105_2)) fun a F => ?_
       refine dq 2 F rfl (by kernel_rfl) NP HS (fun w S => (r_ld (F.t 9 rfl) (cel_cell (o := 2) (S.cell 1 rfl) rfl) one3)) fun a F => ?_
       refine dq 3 F rfl (by kernel_rfl) NP HS (fun w S => (r_ge (F.t 8 rfl) (F.t 10 rfl))) fun a F => ?_
       refine dq 4 F rfl (by kernel_rfl) NP HS (fun w S => (r_mv (F.t 11 rfl))) fun a F => ?_
       by_cases c60 : x36 ≥ a2
       ·rw [if_pos c60] at k_58
        rw [decide_eq_true c60] at F
        refine doff 5 F rfl (by kernel_rfl) NP HS fun a F => ?_
        refine doff 6 F rfl (by kernel_rfl) NP HS fun a F => ?_
        refine doff 7 F rfl (by kernel_rfl) NP HS fun a F => ?_
        refine dq 8 F rfl (by kernel_rfl) NP HS (fun w S => (r_pickT (F.t 12 rfl) (F.ev (x := .const (.bool true)) rfl))) fun a F => ?_
        refine dq 9 F rfl (by kernel_rfl) NP HS (fun w S => (r_mv (F.t 16 rfl))) fun a F => ?_
        refine doff 10 F rfl (by kernel_rfl) NP HS fun a F => ?_
        refine doff 11 F rfl (by kernel_rfl) NP HS fun a F => ?_
        refine doff 12 F rfl (by kernel_rfl) NP HS fun a F => ?_
        refine doff 13 F rfl (by kernel_rfl) NP HS fun a F => ?_
        refine doff 14 F rfl (by kernel_rfl) NP HS fun a F => ?_
        refine doff 15 F rfl (by kernel_rfl) NP HS fun a F => ?_
        refine doff 16 F rfl (by kernel_rfl) NP HS fun a F => ?_
        refine doff 17 F rfl (by kernel_rfl) NP HS fun a F => ?_
        refine dq 18 F rfl (by kernel_rfl) NP HS (fun w S => (r_pickT (F.t 17 rfl) (F.ev (x := .const (.bool true)) rfl))) fun a F => ?_
        refine ddone (by kernel_rfl) ?_
        replace F := F.only [26, 4, 2, 1] (l' := [(26, .bool true), (4, .pointer (some ⟨g57, 0, none⟩)), (2, .pointer (some ⟨g56, 0, none⟩)), (1, .int .i64 x36)]) rfl
        try dsimp only at k_58
        obtain rfl := Option.some.inj k_58
        exact ⟨_, rfl, F.only [1, 2, 4, 26] rfl, H.f1.f8.f2.f8.f8.f8.f9.f9.f9.f9⟩
       ·rw [if_neg c60] at k_58
        rw [decide_eq_false c60] at F
        refine dq 5 F rfl (by kernel_rfl) NP HS (fun w S => (r_fa (off := 1) (F.t 2 rfl) fa105_1)) fun a F => ?_
        refine dq 6 F rfl (by kernel_rfl) NP HS (fun w S => (r_ld (F.t 13 rfl) (cel_cell (o := 1) (S.cell 1 rfl) rfl) one3)) fun a F => ?_
        refine dq 7 F rfl (by kernel_rfl) NP HS (fun w S => (r_lt (F.t 14 rfl) (F.ev (x := .const (.int .i64 0)) rfl))) fun a F => ?_
        refine dq 8 F rfl (by kernel_rfl) NP HS (fun w S => (r_pickF (F.t 12 rfl) (F.t 15 rfl))) fun a F => ?_
        refine dq 9 F rfl (by kernel_rfl) NP HS (fun w S => (r_mv (F.t 16 rfl))) fun a F => ?_
        by_cases c61 : a1 < 0
        ·rw [if_pos c61] at k_58
         rw [decide_eq_true c61] at F
         refine doff 10 F rfl (by kernel_rfl) NP HS fun a F => ?_
         refine doff 11 F rfl (by kernel_rfl) NP HS fun a F => ?_
         refine doff 12 F rfl (by kernel_rfl) NP HS fun a F => ?_
         refine doff 13 F rfl (by kernel_rfl) NP HS fun a F => ?_
         refine doff 14 F rfl (by kernel_rfl) NP HS fun a F => ?_
         refine doff 15 F rfl (by kernel_rfl) NP HS fun a F => ?_
         refine doff 16 F rfl (by kernel_rfl) NP HS fun a F => ?_
         refine doff 17 F rfl (by kernel_rfl) NP HS fun a F => ?_
         refine dq 18 F rfl (by kernel_rfl) NP HS (fun w S => (r_pickT (F.t 17 rfl) (F.ev (x := .const (.bool true)) rfl))) fun a F => ?_
         refine ddone (by kernel_rfl) ?_
         replace F := F.only [26, 4, 2, 1] (l' := [(26, .bool true), (4, .pointer (some ⟨g57, 0, none⟩)), (2, .pointer (some ⟨g56, 0, none⟩)), (1, .int .i64 x36)]) rfl
         try dsimp only at k_58
         obtain rfl := Option.some.inj k_58
         exact ⟨_, rfl, F.only [1, 2, 4, 26] rfl, H.f1.f8.f2.f8.f8.f8.f9.f9.f9.f9⟩
        ·rw [if_neg c61] at k_58
         rw [decide_eq_false c61] at F
         refine dq 10 F rfl (by kernel_rfl) NP HS (fun w S => (r_mv (F.t 1 rfl))) fun a F => ?_
         refine dq 11 F rfl (by kernel_rfl) NP HS (fun w S => (r_fa (off := 0) (F.t 2 rfl) fa105_0)) fun a F => ?_
         refine dq 12 F rfl (by kernel_rfl) NP HS (fun w S => (r_ld (F.t 19 rfl) (cel_cell (o := 0) (S.cell 1 rfl) rfl) one24)) fun a F => ?_
         refine dq 14 F rfl (by kernel_rfl) NP HS (fun w S => (r_fa (off := 1) (F.t 2 rfl) fa105_1)) fun a F => ?_
         refine dq 15 F rfl (by kernel_rfl) NP HS (fun w S => (r_ld (F.t 22 rfl) (cel_cell (o := 1) (S.cell 1 rfl) rfl) one3)) fun a F => ?_
         obtain ⟨x62, e63, k_58⟩ := Option.bind_eq_some_iff.1 k_58
         try dsimp only at k_58
         refine d1 13 rfl (by kernel_rfl) (call F Try.func76 (disk_Disk_Sectors_ok (H.f9.f9.f8.f8.f8.f8.f8.f8.f8.f9) e63) rfl rfl fun v w hR a F => ?_)
         obtain ⟨rfl, H⟩ := hR
         have HS := H.fx5.fx4.fx3.fx0
         refine kg _ HS (fun w S => S) ?_
         refine dq 16 F rfl (by kernel_rfl) NP HS (fun w S => (r_sub (F.t 21 rfl) (F.t 23 rfl))) fun a F => ?_
         refine dq 17 F rfl (by kernel_rfl) NP HS (fun w S => (r_ge (F.t 18 rfl) (F.t 24 rfl))) fun a F => ?_
         refine dq 18 F rfl (by kernel_rfl) NP HS (fun w S => (r_pickF (F.t 17 rfl) (F.t 25 rfl))) fun a F => ?_
         refine ddone (by kernel_rfl) ?_
         replace F := F.only [26, 4, 2, 1] (l' := [(26, .bool (decide (x36 ≥ (IntKind.i64.wrap (x62 - a1))))), (4, .pointer (some ⟨g57, 0, none⟩)), (2, .pointer (some ⟨g56, 0, none⟩)), (1, .int .i64 x36)]) rfl
         try dsimp only at k_58
         obtain rfl := Option.some.inj k_58
         exact ⟨_, rfl, F.only [1, 2, 4, 26] rfl, H.f2.f8.f3.f3.f8.f8.f9.f9.f9.f9⟩
      ·rintro a w ⟨x58, rfl, F, H⟩
       try dsimp only at k_54 F H
       by_cases c64 : x58 = true
       ·rw [if_pos c64] at k_54
        rw [c64] at F
        refine wp_cond_true (F.ev rfl) ?_
        refine rg ?_
        refine ls (lbd F (vs := []) (cs := [.int .i64 0, .int .i64 0, .int .i64 0, .int .i64 0, .slice none 0 0]) rfl (fun w => by kernel_rfl) fun a F => ?_)
        obtain ⟨_, hr, H⟩ := Hp.store (t := 53) (o := 0) (n := 5) (vs := [.int .i64 0, .int .i64 0, .int .i64 0, .int .i64 0, .slice none 0 0]) (cs' := [.int .i64 0, .int .i64 0, .int .i64 0, .int .i64 0, .slice none 0 0]) (H.f9.f9.f8.f8.f8.f8.f8.f8.f8.f9) (F.t 4 rfl) (F.t 27 rfl) rfl sz53 rfl (Nat.le_of_ble_eq_true rfl) rfl rfl
        refine ls (qn F (.inl rfl) (hr _ _ _ _) fun a F => ?_)
        refine as_ F (v := .bool false) rfl fun a F => ?_
        refine rgend ?_
        replace F := F.only [5, 4] (l' := [(5, .bool false), (4, .pointer (some ⟨g57, 0, none⟩))]) rfl
        refine wp_ret ?_
        replace H := H.nilRd kByte
        try dsimp only at k_54
        obtain rfl := Option.some.inj k_54
        exact RET _ _ (retC2 F rfl rfl rfl (ldvA (cel_range (o := 0) (n := 5) (vs := [.int .i64 0, .int .i64 0, .int .i64 0, .int .i64 0, .slice none 0 0]) (H.cell 0 rfl) rfl) agg53 rfl) ⟨_, rfl, _, _, _, _, _, _, rfl, none, 0, rfl, H.f4.f8.f8.f8.f8.f8.f8.f8.fx9.fx8⟩)
       ·rw [if_neg c64] at k_54
        rw [Bool.eq_false_iff.2 c64] at F
        refine wp_cond_false (F.ev rfl) ?_
        refine wp_skip ?_
        refine rg ?_
        refine qw F (r_fa (off := 0) (F.t 2 rfl) fa105_0) fun a F => ?_
        refine qw F (r_ld (F.t 29 rfl) (cel_cell (o := 0) (H.cell 9 rfl) rfl) one24) fun a F => ?_
        refine qw F (r_fa (off := 1) (F.t 2 rfl) fa105_1) fun a F => ?_
        refine qw F (r_ld (F.t 31 rfl) (cel_cell (o := 1) (H.cell 9 rfl) rfl) one3) fun a F => ?_
        refine mv F rfl fun a F => ?_
        refine qw F (r_add (F.t 32 rfl) (F.t 33 rfl)) fun a F => ?_
        obtain ⟨⟨x65, x66⟩, e67, k_54⟩ := Option.bind_eq_some_iff.1 k_54
        try dsimp only at k_54
        refine ls (call F Try.func64 (disk_Disk_Read_ok (H.f9.f9.f9.f8.f8.f8.f8.f8.f8.f9) e67) rfl rfl fun v w hR a F => ?_)
        obtain ⟨A68, c69, rfl, H⟩ := hR
        refine mv F rfl fun a F => ?_
        refine qw F (r_ex (F.t 28 rfl) rfl) fun a F => ?_
        refine qw F (r_ex (F.t 28 rfl) rfl) fun a F => ?_
        refine as_ F rfl fun a F => ?_
        refine as_ F rfl fun a F => ?_
        refine rgend ?_
        replace F := F.only [7, 6, 4] (l' := [(7, .int .i64 x66), (6, .slice A68 x65.length c69), (4, .pointer (some ⟨g57, 0, none⟩))]) rfl
        refine wp_seq ?_
        refine rg ?_
        refine mv F rfl fun a F => ?_
        refine qw F (r_ne (F.t 38 rfl) (F.ev (x := .const (.int .i64 0)) rfl)) fun a F => ?_
        refine rgend ?_
        by_cases c70 : x66 ≠ 0
        ·rw [if_pos c70] at k_54
         rw [decide_eq_true c70] at F
         refine wp_cond_true (F.ev rfl) ?_
         refine rg ?_
         refine ls (lbd F (vs := []) (cs := [.int .i64 0, .int .i64 0, .int .i64 0, .int .i64 0, .slice none 0 0]) rfl (fun w => by kernel_rfl) fun a F => ?_)
         obtain ⟨_, hr, H⟩ := Hp.store (t := 53) (o := 0) (n := 5) (vs := [.int .i64 0, .int .i64 0, .int .i64 0, .int .i64 0, .slice none 0 0]) (cs' := [.int .i64 0, .int .i64 0, .int .i64 0, .int .i64 0, .slice none 0 0]) (H.f10.f10.f9.f9.f9.f9.f9.f9.f9.f9.f10) (F.t 4 rfl) (F.t 40 rfl) rfl sz53 rfl (Nat.le_of_ble_eq_true rfl) rfl rfl
         refine ls (qn F (.inl rfl) (hr _ _ _ _) fun a F => ?_)
         refine as_ F (v := .bool false) rfl fun a F => ?_
         refine rgend ?_
         replace F := F.only [5, 4] (l' := [(5, .bool false), (4, .pointer (some ⟨g57, 0, none⟩))]) rfl
         refine wp_ret ?_
         replace H := H.nilRd kByte
         try dsimp only at k_54
         obtain rfl := Option.some.inj k_54
         exact RET _ _ (retC2 F rfl rfl rfl (ldvA (cel_range (o := 0) (n := 5) (vs := [.int .i64 0, .int .i64 0, .int .i64 0, .int .i64 0, .slice none 0 0]) (H.cell 0 rfl) rfl) agg53 rfl) ⟨_, rfl, _, _, _, _, _, _, rfl, none, 0, rfl, H.f6.f9.f4.f9.f9.f9.f9.f9.fx10.fx9.fx8⟩)
        ·rw [if_neg c70] at k_54
         rw [decide_eq_false c70] at F
         refine wp_cond_false (F.ev rfl) ?_
         refine wp_skip ?_
         refine rg ?_
         refine mv F rfl fun a F => ?_
         replace H := (H).freeze
         obtain ⟨⟨x71, x72⟩, e73, k_54⟩ := Option.bind_eq_some_iff.1 k_54
         try dsimp only at k_54
         refine ls (call F Try.func92 (sector_Get_ok (H.p0) e73) rfl rfl fun v w hR a F => ?_)
         obtain ⟨A74, c75, rfl, H⟩ := hR
         refine qw F (r_ex (F.t 42 rfl) rfl) fun a F => ?_
         refine qw F (r_ex (F.t 42 rfl) rfl) fun a F => ?_
         obtain ⟨_, hr, H⟩ := Hp.store (t := 53) (o := 0) (n := 5) (vs := [.int .i64 x71.Gen, .int .i64 x71.Place, .int .i64 x71.Parts, .int .i64 x71.Kept, .slice A74 x71.Body.length c75]) (cs' := [.int .i64 x71.Gen, .int .i64 x71.Place, .int .i64 x71.Parts, .int .i64 x71.Kept, .slice A74 x71.Body.length c75]) (H.f9.f9.f8.f8.f8.f8.f8.f8.f8.f9) (F.t 4 rfl) (F.t 43 rfl) rfl sz53 rfl (Nat.le_of_ble_eq_true rfl) rfl rfl
         refine ls (qn F (.inl rfl) (hr _ _ _ _) fun a F => ?_)
         refine as_ F rfl fun a F => ?_
         refine rgend ?_
         replace F := F.only [5, 4] (l' := [(5, .bool x72), (4, .pointer (some ⟨g57, 0, none⟩))]) rfl
         refine wp_ret ?_
         try dsimp only at k_54
         obtain rfl := Option.some.inj k_54
         exact RET _ _ (retC2 F rfl rfl rfl (ldvA (cel_range (o := 0) (n := 5) (vs := [.int .i64 x71.Gen, .int .i64 x71.Place, .int .i64 x71.Parts, .int .i64 x71.Kept, .slice A74 x71.Body.length c75]) (H.cell 0 rfl) rfl) agg53 rfl) ⟨_, rfl, _, _, _, _, _, _, rfl, A74, c75, rfl, H.px1.f5.f8.f3.f8.f8.f8.f8.f8.fx9.fx8⟩)
     ·rintro v w ⟨x47, x48, x49, x50, x51, x54, rfl, A52, c53, rfl, H⟩ a F
      try dsimp only at j_45 F H
      refine mv F rfl fun a F => ?_
      refine qw F (r_ex (F.t 40 rfl) rfl) fun a F => ?_
      refine qw F (r_ex (F.t 40 rfl) rfl) fun a F => ?_
      refine ls (lal F H ti53 (cs := [.int .i64 0, .int .i64 0, .int .i64 0, .int .i64 0, .slice none 0 0]) rfl fun g76 w a H F => ?_)
      obtain ⟨_, hr, H⟩ := Hp.store (t := 53) (o := 0) (n := 5) (vs := [.int .i64 x47, .int .i64 x48, .int .i64 x49, .int .i64 x50, .slice A52 x51.length c53]) (cs' := [.int .i64 x47, .int .i64 x48, .int .i64 x49, .int .i64 x50, .slice A52 x51.length c53]) (H) (F.t 14 rfl) (F.t 44 rfl) rfl sz53 rfl (Nat.le_of_ble_eq_true rfl) rfl rfl
      refine ls (qn F (.inl rfl) (hr _ _ _ _) fun a F => ?_)
      refine as_ F rfl fun a F => ?_
      refine rgend ?_
      replace F := F.only [10, 14, 6, 8, 9, 11, 12, 13] (l' := [(10, .bool x54), (14, .pointer (some ⟨g76, 0, none⟩)), (6, .pointer (some ⟨g1, 0, none⟩)), (8, .pointer (some ⟨g2, 0, none⟩)), (9, .pointer (some ⟨g32, 0, none⟩)), (11, .int .i64 (IntKind.i64.wrap (x5 + x6))), (12, .pointer (some ⟨g35, 0, none⟩)), (13, .int .i64 x36)]) rfl
      refine wp_seq ?_
      refine rg ?_
      refine mv F rfl fun a F => ?_
      refine qw F (r_not (F.t 46 rfl)) fun a F => ?_
      refine mv F rfl fun a F => ?_
      by_cases c77 : x54 = true
      ·rw [if_pos c77] at j_45
       rw [c77] at F
       refine qw F (r_fa (off := 1) (F.t 14 rfl) fa53_1) fun a F => ?_
       refine qw F (r_ld (F.t 49 rfl) (cel_cell (o := 1) (H.cell 0 rfl) rfl) one3) fun a F => ?_
       refine mv F rfl fun a F => ?_
       refine qw F (r_ne (F.t 50 rfl) (F.t 51 rfl)) fun a F => ?_
       refine qw F (r_pickF (F.t 48 rfl) (F.t 52 rfl)) fun a F => ?_
       refine mv F rfl fun a F => ?_
       by_cases c78 : x48 ≠ x36
       ·rw [if_pos c78] at j_45
        rw [decide_eq_true c78] at F
        refine of_ F fun a F => ?_
        refine of_ F fun a F => ?_
        refine of_ F fun a F => ?_
        refine of_ F fun a F => ?_
        refine of_ F fun a F => ?_
        refine qw F (r_pickT (F.t 54 rfl) (F.ev (x := .const (.bool true)) rfl)) fun a F => ?_
        refine mv F rfl fun a F => ?_
        refine of_ F fun a F => ?_
        refine of_ F fun a F => ?_
        refine of_ F fun a F => ?_
        refine of_ F fun a F => ?_
        refine of_ F fun a F => ?_
        refine qw F (r_pickT (F.t 61 rfl) (F.ev (x := .const (.bool true)) rfl)) fun a F => ?_
        refine mv F rfl fun a F => ?_
        refine of_ F fun a F => ?_
        refine of_ F fun a F => ?_
        refine of_ F fun a F => ?_
        refine of_ F fun a F => ?_
        refine of_ F fun a F => ?_
        refine qw F (r_pickT (F.t 68 rfl) (F.ev (x := .const (.bool true)) rfl)) fun a F => ?_
        refine rgend ?_
        replace F := F.only [74, 14, 6, 8, 9, 11, 12, 13] (l' := [(74, .bool true), (14, .pointer (some ⟨g76, 0, none⟩)), (6, .pointer (some ⟨g1, 0, none⟩)), (8, .pointer (some ⟨g2, 0, none⟩)), (9, .pointer (some ⟨g32, 0, none⟩)), (11, .int .i64 (IntKind.i64.wrap (x5 + x6))), (12, .pointer (some ⟨g35, 0, none⟩)), (13, .int .i64 x36)]) rfl
        refine wp_cond_true (F.ev rfl) ?_
        refine wp_seq ?_
        refine rg ?_
        refine mv F rfl fun a F => ?_
        refine mv F rfl fun a F => ?_
        refine qw F (r_lt (F.t 75 rfl) (F.t 76 rfl)) fun a F => ?_
        refine rgend ?_
        replace F := F.only [77, 6, 12] (l' := [(77, .bool (decide (x36 < (IntKind.i64.wrap (x5 + x6))))), (6, .pointer (some ⟨g1, 0, none⟩)), (12, .pointer (some ⟨g35, 0, none⟩))]) rfl
        by_cases c79 : x36 < (IntKind.i64.wrap (x5 + x6))
        ·rw [if_pos c79] at j_45
         rw [decide_eq_true c79] at F
         refine wp_cond_true (F.ev rfl) ?_
         refine rg ?_
         refine ls (lbd F (vs := []) (cs := [.int .i64 0, .slice none 0 0, .slice none 0 0, .slice none 0 0]) rfl (fun w => by kernel_rfl) fun a F => ?_)
         obtain ⟨_, hr, H⟩ := Hp.store (t := 32) (o := 0) (n := 4) (vs := [.int .i64 0, .slice none 0 0, .slice none 0 0, .slice none 0 0]) (cs' := [.int .i64 0, .slice none 0 0, .slice none 0 0, .slice none 0 0]) (H.f8.f7.f7.f7.f7.f7.f7.f7.f8) (F.t 6 rfl) (F.t 78 rfl) rfl sz32 rfl (Nat.le_of_ble_eq_true rfl) rfl rfl
         refine ls (qn F (.inl rfl) (hr _ _ _ _) fun a F => ?_)
         refine as_ F (v := .bool false) rfl fun a F => ?_
         refine rgend ?_
         refine wp_ret ?_
         replace H := H.nilRd kByte
         replace H := H.nilRd (kSlice kByte)
         replace H := H.nilOwn (kSlice kByte) 29
         try dsimp only at j_45
         obtain rfl := Option.some.inj j_45
         obtain rfl := u_45 _ rfl
         try dsimp only at h
         obtain ⟨rfl, rfl⟩ := Prod.mk.inj (Option.some.inj h)
         exact RET _ _ (retC2 F rfl rfl rfl (ldvA (cel_range (o := 0) (n := 4) (vs := [.int .i64 0, .slice none 0 0, .slice none 0 0, .slice none 0 0]) (H.cell 1 rfl) rfl) agg32 rfl) ⟨_, rfl, none, 0, none, 0, none, 0, rfl, H.p0.p2.px2.px2.px2.px2.fx9.fx7.fx6.fx5.fx4.fx3.fx2.fx1⟩)
        ·rw [if_neg c79] at j_45
         rw [decide_eq_false c79] at F
         refine wp_cond_false (F.ev rfl) ?_
         refine wp_skip ?_
         refine rg ?_
         refine qw F (r_ldA (F.t 12 rfl) (cel_range (o := 0) (n := 4) (vs := [.int .i64 x3, .slice A38 x37.length c39, .slice A41 x40.length c42, .slice A44 x43.length c45]) (H.cell 8 rfl) rfl) agg32 rfl) fun a F => ?_
         obtain ⟨_, hr, H⟩ := Hp.store (t := 32) (o := 0) (n := 4) (vs := [.int .i64 x3, .slice A38 x37.length c39, .slice A41 x40.length c42, .slice A44 x43.length c45]) (cs' := [.int .i64 x3, .slice A38 x37.length c39, .slice A41 x40.length c42, .slice A44 x43.length c45]) (H.f8.f7.f7.f7.f7.f7.f7.f7.f8) (F.t 6 rfl) (F.t 79 rfl) rfl sz32 rfl (Nat.le_of_ble_eq_true rfl) rfl rfl
         refine ls (qn F (.inl rfl) (hr _ _ _ _) fun a F => ?_)
         refine as_ F (v := .bool true) rfl fun a F => ?_
         refine rgend ?_
         refine wp_ret ?_
         replace H := (H.f8.f8.f8.f8.f8.f8.f7.f7.f8).freeze
         replace H := (H.f7.f7.f7.f7.f7.f6.f6.f7).freeze
         try dsimp only at j_45
         obtain rfl := Option.some.inj j_45
         obtain rfl := u_45 _ rfl
         try dsimp only at h
         obtain ⟨rfl, rfl⟩ := Prod.mk.inj (Option.some.inj h)
         exact RET _ _ (retC2 F rfl rfl rfl (ldvA (cel_range (o := 0) (n := 4) (vs := [.int .i64 x3, .slice A38 x37.length c39, .slice A41 x40.length c42, .slice A44 x43.length c45]) (H.cell 0 rfl) rfl) agg32 rfl) ⟨_, rfl, A38, c39, A41, c42, A44, c45, rfl, H.p0.p2.px2.px2.px2.px2.fx6.fx4.fx3.fx1.fx0⟩)
       ·rw [if_neg c78] at j_45
        rw [decide_eq_false c78] at F
        refine qw F (r_fa (off := 0) (F.t 14 rfl) fa53_0) fun a F => ?_
        refine qw F (r_ld (F.t 55 rfl) (cel_cell (o := 0) (H.cell 0 rfl) rfl) one2) fun a F => ?_
        refine qw F (r_fa (off := 0) (F.t 9 rfl) fa53_0) fun a F => ?_
        refine qw F (r_ld (F.t 57 rfl) (cel_cell (o := 0) (H.cell 5 rfl) rfl) one2) fun a F => ?_
        refine qw F (r_ne (F.t 56 rfl) (F.t 58 rfl)) fun a F => ?_
        refine qw F (r_pickF (F.t 54 rfl) (F.t 59 rfl)) fun a F => ?_
        refine mv F rfl fun a F => ?_
        by_cases c80 : x47 ≠ x3
        ·rw [if_pos c80] at j_45
         rw [decide_eq_true c80] at F
         refine of_ F fun a F => ?_
         refine of_ F fun a F => ?_
         refine of_ F fun a F => ?_
         refine of_ F fun a F => ?_
         refine of_ F fun a F => ?_
         refine qw F (r_pickT (F.t 61 rfl) (F.ev (x := .const (.bool true)) rfl)) fun a F => ?_
         refine mv F rfl fun a F => ?_
         refine of_ F fun a F => ?_
         refine of_ F fun a F => ?_
         refine of_ F fun a F => ?_
         refine of_ F fun a F => ?_
         refine of_ F fun a F => ?_
         refine qw F (r_pickT (F.t 68 rfl) (F.ev (x := .const (.bool true)) rfl)) fun a F => ?_
         refine rgend ?_
         replace F := F.only [74, 14, 6, 8, 9, 11, 12, 13] (l' := [(74, .bool true), (14, .pointer (some ⟨g76, 0, none⟩)), (6, .pointer (some ⟨g1, 0, none⟩)), (8, .pointer (some ⟨g2, 0, none⟩)), (9, .pointer (some ⟨g32, 0, none⟩)), (11, .int .i64 (IntKind.i64.wrap (x5 + x6))), (12, .pointer (some ⟨g35, 0, none⟩)), (13, .int .i64 x36)]) rfl
         refine wp_cond_true (F.ev rfl) ?_
         refine wp_seq ?_
         refine rg ?_
         refine mv F rfl fun a F => ?_
         refine mv F rfl fun a F => ?_
         refine qw F (r_lt (F.t 75 rfl) (F.t 76 rfl)) fun a F => ?_
         refine rgend ?_
         replace F := F.only [77, 6, 12] (l' := [(77, .bool (decide (x36 < (IntKind.i64.wrap (x5 + x6))))), (6, .pointer (some ⟨g1, 0, none⟩)), (12, .pointer (some ⟨g35, 0, none⟩))]) rfl
         by_cases c81 : x36 < (IntKind.i64.wrap (x5 + x6))
         ·rw [if_pos c81] at j_45
          rw [decide_eq_true c81] at F
          refine wp_cond_true (F.ev rfl) ?_
          refine rg ?_
          refine ls (lbd F (vs := []) (cs := [.int .i64 0, .slice none 0 0, .slice none 0 0, .slice none 0 0]) rfl (fun w => by kernel_rfl) fun a F => ?_)
          obtain ⟨_, hr, H⟩ := Hp.store (t := 32) (o := 0) (n := 4) (vs := [.int .i64 0, .slice none 0 0, .slice none 0 0, .slice none 0 0]) (cs' := [.int .i64 0, .slice none 0 0, .slice none 0 0, .slice none 0 0]) (H.f8.f7.f7.f7.f7.f7.f7.f7.f8) (F.t 6 rfl) (F.t 78 rfl) rfl sz32 rfl (Nat.le_of_ble_eq_true rfl) rfl rfl
          refine ls (qn F (.inl rfl) (hr _ _ _ _) fun a F => ?_)
          refine as_ F (v := .bool false) rfl fun a F => ?_
          refine rgend ?_
          refine wp_ret ?_
          replace H := H.nilRd kByte
          replace H := H.nilRd (kSlice kByte)
          replace H := H.nilOwn (kSlice kByte) 29
          try dsimp only at j_45
          obtain rfl := Option.some.inj j_45
          obtain rfl := u_45 _ rfl
          try dsimp only at h
          obtain ⟨rfl, rfl⟩ := Prod.mk.inj (Option.some.inj h)
          exact RET _ _ (retC2 F rfl rfl rfl (ldvA (cel_range (o := 0) (n := 4) (vs := [.int .i64 0, .slice none 0 0, .slice none 0 0, .slice none 0 0]) (H.cell 1 rfl) rfl) agg32 rfl) ⟨_, rfl, none, 0, none, 0, none, 0, rfl, H.p0.p2.px2.px2.px2.px2.fx9.fx7.fx6.fx5.fx4.fx3.fx2.fx1⟩)
         ·rw [if_neg c81] at j_45
          rw [decide_eq_false c81] at F
          refine wp_cond_false (F.ev rfl) ?_
          refine wp_skip ?_
          refine rg ?_
          refine qw F (r_ldA (F.t 12 rfl) (cel_range (o := 0) (n := 4) (vs := [.int .i64 x3, .slice A38 x37.length c39, .slice A41 x40.length c42, .slice A44 x43.length c45]) (H.cell 8 rfl) rfl) agg32 rfl) fun a F => ?_
          obtain ⟨_, hr, H⟩ := Hp.store (t := 32) (o := 0) (n := 4) (vs := [.int .i64 x3, .slice A38 x37.length c39, .slice A41 x40.length c42, .slice A44 x43.length c45]) (cs' := [.int .i64 x3, .slice A38 x37.length c39, .slice A41 x40.length c42, .slice A44 x43.length c45]) (H.f8.f7.f7.f7.f7.f7.f7.f7.f8) (F.t 6 rfl) (F.t 79 rfl) rfl sz32 rfl (Nat.le_of_ble_eq_true rfl) rfl rfl
          refine ls (qn F (.inl rfl) (hr _ _ _ _) fun a F => ?_)
          refine as_ F (v := .bool true) rfl fun a F => ?_
          refine rgend ?_
          refine wp_ret ?_
          replace H := (H.f8.f8.f8.f8.f8.f8.f7.f7.f8).freeze
          replace H := (H.f7.f7.f7.f7.f7.f6.f6.f7).freeze
          try dsimp only at j_45
          obtain rfl := Option.some.inj j_45
          obtain rfl := u_45 _ rfl
          try dsimp only at h
          obtain ⟨rfl, rfl⟩ := Prod.mk.inj (Option.some.inj h)
          exact RET _ _ (retC2 F rfl rfl rfl (ldvA (cel_range (o := 0) (n := 4) (vs := [.int .i64 x3, .slice A38 x37.length c39, .slice A41 x40.length c42, .slice A44 x43.length c45]) (H.cell 0 rfl) rfl) agg32 rfl) ⟨_, rfl, A38, c39, A41, c42, A44, c45, rfl, H.p0.p2.px2.px2.px2.px2.fx6.fx4.fx3.fx1.fx0⟩)
        ·rw [if_neg c80] at j_45
         rw [decide_eq_false c80] at F
         refine qw F (r_fa (off := 2) (F.t 14 rfl) fa53_2) fun a F => ?_
         refine qw F (r_ld (F.t 62 rfl) (cel_cell (o := 2) (H.cell 0 rfl) rfl) one3) fun a F => ?_
         refine qw F (r_fa (off := 2) (F.t 9 rfl) fa53_2) fun a F => ?_
         refine qw F (r_ld (F.t 64 rfl) (cel_cell (o := 2) (H.cell 5 rfl) rfl) one3) fun a F => ?_
         refine qw F (r_ne (F.t 63 rfl) (F.t 65 rfl)) fun a F => ?_
         refine qw F (r_pickF (F.t 61 rfl) (F.t 66 rfl)) fun a F => ?_
         refine mv F rfl fun a F => ?_
         by_cases c82 : x49 ≠ x5
         ·rw [if_pos c82] at j_45
          rw [decide_eq_true c82] at F
          refine of_ F fun a F => ?_
          refine of_ F fun a F => ?_
          refine of_ F fun a F => ?_
          refine of_ F fun a F => ?_
          refine of_ F fun a F => ?_
          refine qw F (r_pickT (F.t 68 rfl) (F.ev (x := .const (.bool true)) rfl)) fun a F => ?_
          refine rgend ?_
          replace F := F.only [74, 14, 6, 8, 9, 11, 12, 13] (l' := [(74, .bool true), (14, .pointer (some ⟨g76, 0, none⟩)), (6, .pointer (some ⟨g1, 0, none⟩)), (8, .pointer (some ⟨g2, 0, none⟩)), (9, .pointer (some ⟨g32, 0, none⟩)), (11, .int .i64 (IntKind.i64.wrap (x5 + x6))), (12, .pointer (some ⟨g35, 0, none⟩)), (13, .int .i64 x36)]) rfl
          refine wp_cond_true (F.ev rfl) ?_
          refine wp_seq ?_
          refine rg ?_
          refine mv F rfl fun a F => ?_
          refine mv F rfl fun a F => ?_
          refine qw F (r_lt (F.t 75 rfl) (F.t 76 rfl)) fun a F => ?_
          refine rgend ?_
          replace F := F.only [77, 6, 12] (l' := [(77, .bool (decide (x36 < (IntKind.i64.wrap (x5 + x6))))), (6, .pointer (some ⟨g1, 0, none⟩)), (12, .pointer (some ⟨g35, 0, none⟩))]) rfl
          by_cases c83 : x36 < (IntKind.i64.wrap (x5 + x6))
          ·rw [if_pos c83] at j_45
           rw [decide_eq_true c83] at F
           refine wp_cond_true (F.ev rfl) ?_
           refine rg ?_
           refine ls (lbd F (vs := []) (cs := [.int .i64 0, .slice none 0 0, .slice none 0 0, .slice none 0 0]) rfl (fun w => by kernel_rfl) fun a F => ?_)
           obtain ⟨_, hr, H⟩ := Hp.store (t := 32) (o := 0) (n := 4) (vs := [.int .i64 0, .slice none 0 0, .slice none 0 0, .slice none 0 0]) (cs' := [.int .i64 0, .slice none 0 0, .slice none 0 0, .slice none 0 0]) (H.f8.f7.f7.f7.f7.f7.f7.f7.f8) (F.t 6 rfl) (F.t 78 rfl) rfl sz32 rfl (Nat.le_of_ble_eq_true rfl) rfl rfl
           refine ls (qn F (.inl rfl) (hr _ _ _ _) fun a F => ?_)
           refine as_ F (v := .bool false) rfl fun a F => ?_
           refine rgend ?_
           refine wp_ret ?_
           replace H := H.nilRd kByte
           replace H := H.nilRd (kSlice kByte)
           replace H := H.nilOwn (kSlice kByte) 29
           try dsimp only at j_45
           obtain rfl := Option.some.inj j_45
           obtain rfl := u_45 _ rfl
           try dsimp only at h
           obtain ⟨rfl, rfl⟩ := Prod.mk.inj (Option.some.inj h)
           exact RET _ _ (retC2 F rfl rfl rfl (ldvA (cel_range (o := 0) (n := 4) (vs := [.int .i64 0, .slice none 0 0, .slice none 0 0, .slice none 0 0]) (H.cell 1 rfl) rfl) agg32 rfl) ⟨_, rfl, none, 0, none, 0, none, 0, rfl, H.p0.p2.px2.px2.px2.px2.fx9.fx7.fx6.fx5.fx4.fx3.fx2.fx1⟩)
          ·rw [if_neg c83] at j_45
           rw [decide_eq_false c83] at F
           refine wp_cond_false (F.ev rfl) ?_
           refine wp_skip ?_
           refine rg ?_
           refine qw F (r_ldA (F.t 12 rfl) (cel_range (o := 0) (n := 4) (vs := [.int .i64 x3, .slice A38 x37.length c39, .slice A41 x40.length c42, .slice A44 x43.length c45]) (H.cell 8 rfl) rfl) agg32 rfl) fun a F => ?_
           obtain ⟨_, hr, H⟩ := Hp.store (t := 32) (o := 0) (n := 4) (vs := [.int .i64 x3, .slice A38 x37.length c39, .slice A41 x40.length c42, .slice A44 x43.length c45]) (cs' := [.int .i64 x3, .slice A38 x37.length c39, .slice A41 x40.length c42, .slice A44 x43.length c45]) (H.f8.f7.f7.f7.f7.f7.f7.f7.f8) (F.t 6 rfl) (F.t 79 rfl) rfl sz32 rfl (Nat.le_of_ble_eq_true rfl) rfl rfl
           refine ls (qn F (.inl rfl) (hr _ _ _ _) fun a F => ?_)
           refine as_ F (v := .bool true) rfl fun a F => ?_
           refine rgend ?_
           refine wp_ret ?_
           replace H := (H.f8.f8.f8.f8.f8.f8.f7.f7.f8).freeze
           replace H := (H.f7.f7.f7.f7.f7.f6.f6.f7).freeze
           try dsimp only at j_45
           obtain rfl := Option.some.inj j_45
           obtain rfl := u_45 _ rfl
           try dsimp only at h
           obtain ⟨rfl, rfl⟩ := Prod.mk.inj (Option.some.inj h)
           exact RET _ _ (retC2 F rfl rfl rfl (ldvA (cel_range (o := 0) (n := 4) (vs := [.int .i64 x3, .slice A38 x37.length c39, .slice A41 x40.length c42, .slice A44 x43.length c45]) (H.cell 0 rfl) rfl) agg32 rfl) ⟨_, rfl, A38, c39, A41, c42, A44, c45, rfl, H.p0.p2.px2.px2.px2.px2.fx6.fx4.fx3.fx1.fx0⟩)
         ·rw [if_neg c82] at j_45
          rw [decide_eq_false c82] at F
          refine qw F (r_fa (off := 3) (F.t 14 rfl) fa53_3) fun a F => ?_
          refine qw F (r_ld (F.t 69 rfl) (cel_cell (o := 3) (H.cell 0 rfl) rfl) one3) fun a F => ?_
          refine qw F (r_fa (off := 3) (F.t 9 rfl) fa53_3) fun a F => ?_
          refine qw F (r_ld (F.t 71 rfl) (cel_cell (o := 3) (H.cell 5 rfl) rfl) one3) fun a F => ?_
          refine qw F (r_ne (F.t 70 rfl) (F.t 72 rfl)) fun a F => ?_
          refine qw F (r_pickF (F.t 68 rfl) (F.t 73 rfl)) fun a F => ?_
          refine rgend ?_
          replace F := F.only [74, 14, 6, 8, 9, 11, 12, 13] (l' := [(74, .bool (decide (x50 ≠ x6))), (14, .pointer (some ⟨g76, 0, none⟩)), (6, .pointer (some ⟨g1, 0, none⟩)), (8, .pointer (some ⟨g2, 0, none⟩)), (9, .pointer (some ⟨g32, 0, none⟩)), (11, .int .i64 (IntKind.i64.wrap (x5 + x6))), (12, .pointer (some ⟨g35, 0, none⟩)), (13, .int .i64 x36)]) rfl
          by_cases c84 : x50 ≠ x6
          ·rw [if_pos c84] at j_45
           rw [decide_eq_true c84] at F
           refine wp_cond_true (F.ev rfl) ?_
           refine wp_seq ?_
           refine rg ?_
           refine mv F rfl fun a F => ?_
           refine mv F rfl fun a F => ?_
           refine qw F (r_lt (F.t 75 rfl) (F.t 76 rfl)) fun a F => ?_
           refine rgend ?_
           replace F := F.only [77, 6, 12] (l' := [(77, .bool (decide (x36 < (IntKind.i64.wrap (x5 + x6))))), (6, .pointer (some ⟨g1, 0, none⟩)), (12, .pointer (some ⟨g35, 0, none⟩))]) rfl
           by_cases c85 : x36 < (IntKind.i64.wrap (x5 + x6))
           ·rw [if_pos c85] at j_45
            rw [decide_eq_true c85] at F
            refine wp_cond_true (F.ev rfl) ?_
            refine rg ?_
            refine ls (lbd F (vs := []) (cs := [.int .i64 0, .slice none 0 0, .slice none 0 0, .slice none 0 0]) rfl (fun w => by kernel_rfl) fun a F => ?_)
            obtain ⟨_, hr, H⟩ := Hp.store (t := 32) (o := 0) (n := 4) (vs := [.int .i64 0, .slice none 0 0, .slice none 0 0, .slice none 0 0]) (cs' := [.int .i64 0, .slice none 0 0, .slice none 0 0, .slice none 0 0]) (H.f8.f7.f7.f7.f7.f7.f7.f7.f8) (F.t 6 rfl) (F.t 78 rfl) rfl sz32 rfl (Nat.le_of_ble_eq_true rfl) rfl rfl
            refine ls (qn F (.inl rfl) (hr _ _ _ _) fun a F => ?_)
            refine as_ F (v := .bool false) rfl fun a F => ?_
            refine rgend ?_
            refine wp_ret ?_
            replace H := H.nilRd kByte
            replace H := H.nilRd (kSlice kByte)
            replace H := H.nilOwn (kSlice kByte) 29
            try dsimp only at j_45
            obtain rfl := Option.some.inj j_45
            obtain rfl := u_45 _ rfl
            try dsimp only at h
            obtain ⟨rfl, rfl⟩ := Prod.mk.inj (Option.some.inj h)
            exact RET _ _ (retC2 F rfl rfl rfl (ldvA (cel_range (o := 0) (n := 4) (vs := [.int .i64 0, .slice none 0 0, .slice none 0 0, .slice none 0 0]) (H.cell 1 rfl) rfl) agg32 rfl) ⟨_, rfl, none, 0, none, 0, none, 0, rfl, H.p0.p2.px2.px2.px2.px2.fx9.fx7.fx6.fx5.fx4.fx3.fx2.fx1⟩)
           ·rw [if_neg c85] at j_45
            rw [decide_eq_false c85] at F
            refine wp_cond_false (F.ev rfl) ?_
            refine wp_skip ?_
            refine rg ?_
            refine qw F (r_ldA (F.t 12 rfl) (cel_range (o := 0) (n := 4) (vs := [.int .i64 x3, .slice A38 x37.length c39, .slice A41 x40.length c42, .slice A44 x43.length c45]) (H.cell 8 rfl) rfl) agg32 rfl) fun a F => ?_
            obtain ⟨_, hr, H⟩ := Hp.store (t := 32) (o := 0) (n := 4) (vs := [.int .i64 x3, .slice A38 x37.length c39, .slice A41 x40.length c42, .slice A44 x43.length c45]) (cs' := [.int .i64 x3, .slice A38 x37.length c39, .slice A41 x40.length c42, .slice A44 x43.length c45]) (H.f8.f7.f7.f7.f7.f7.f7.f7.f8) (F.t 6 rfl) (F.t 79 rfl) rfl sz32 rfl (Nat.le_of_ble_eq_true rfl) rfl rfl
            refine ls (qn F (.inl rfl) (hr _ _ _ _) fun a F => ?_)
            refine as_ F (v := .bool true) rfl fun a F => ?_
            refine rgend ?_
            refine wp_ret ?_
            replace H := (H.f8.f8.f8.f8.f8.f8.f7.f7.f8).freeze
            replace H := (H.f7.f7.f7.f7.f7.f6.f6.f7).freeze
            try dsimp only at j_45
            obtain rfl := Option.some.inj j_45
            obtain rfl := u_45 _ rfl
            try dsimp only at h
            obtain ⟨rfl, rfl⟩ := Prod.mk.inj (Option.some.inj h)
            exact RET _ _ (retC2 F rfl rfl rfl (ldvA (cel_range (o := 0) (n := 4) (vs := [.int .i64 x3, .slice A38 x37.length c39, .slice A41 x40.length c42, .slice A44 x43.length c45]) (H.cell 0 rfl) rfl) agg32 rfl) ⟨_, rfl, A38, c39, A41, c42, A44, c45, rfl, H.p0.p2.px2.px2.px2.px2.fx6.fx4.fx3.fx1.fx0⟩)
          ·rw [if_neg c84] at j_45
           rw [decide_eq_false c84] at F
           refine wp_cond_false (F.ev rfl) ?_
           refine wp_skip ?_
           refine wp_seq ?_
           refine rg ?_
           refine mv F rfl fun a F => ?_
           refine qw F (r_add (F.t 80 rfl) (F.ev (x := .const (.int .i64 1)) rfl)) fun a F => ?_
           refine as_ F rfl fun a F => ?_
           refine rgend ?_
           replace F := F.only [13, 14, 6, 8, 9, 11, 12] (l' := [(13, .int .i64 (IntKind.i64.wrap (x36 + 1))), (14, .pointer (some ⟨g76, 0, none⟩)), (6, .pointer (some ⟨g1, 0, none⟩)), (8, .pointer (some ⟨g2, 0, none⟩)), (9, .pointer (some ⟨g32, 0, none⟩)), (11, .int .i64 (IntKind.i64.wrap (x5 + x6))), (12, .pointer (some ⟨g35, 0, none⟩))]) rfl
           refine wp_block ?_
           refine wp_seq ?_
           obtain ⟨o_86, k_86, j_45⟩ := Option.bind_eq_some_iff.1 j_45
           refine cut (fun a w => ∃ (x86 : Bool), x86 = o_86 ∧ Fr 123 [] [(6, .pointer (some ⟨g1, 0, none⟩)), (8, .pointer (some ⟨g2, 0, none⟩)), (9, .pointer (some ⟨g32, 0, none⟩)), (11, .int .i64 (IntKind.i64.wrap (x5 + x6))), (12, .pointer (some ⟨g35, 0, none⟩)), (13, .int .i64 (IntKind.i64.wrap (x36 + 1))), (14, .pointer (some ⟨g76, 0, none⟩)), (89, .bool x86)] a ∧ Hp w0 (rd kByte A8 c9 x7 :: rd kByte A52 c53 x51 :: ps) (own kByte 5 A38 c39 x37 :: own (kSlice kByte) 29 A41 c42 x40 :: own (kSlice kByte) 29 A44 c45 x43 :: cel g2 [.pointer (some ⟨g0_, 0, none⟩), .int .i64 a1, .int .i64 a2] 105 :: cel g32 [.int .i64 x3, .int .i64 x4, .int .i64 x5, .int .i64 x6, .slice A8 x7.length c9] 53 :: cel g76 [.int .i64 x47, .int .i64 x48, .int .i64 x49, .int .i64 x50, .slice A52 x51.length c53] 53 :: obj_disk_Disk g0_ a0 :: cel g1 [.int .i64 0, .slice none 0 0, .slice none 0 0, .slice none 0 0] 32 :: cel g35 [.int .i64 x3, .slice A38 x37.length c39, .slice A41 x40.length c42, .slice A44 x43.length c45] 32 :: fs) w) ?_ ?_
           ·skip
            refine wp_region_lit ?_
            refine mv F rfl fun a F => ?_
            refine qw F (r_fa (off := 2) (F.t 14 rfl) fa53_2) fun a F => ?_
            refine qw F (r_ld (F.t 91 rfl) (cel_cell (o := 2) (H.cell 0 rfl) rfl) one3) fun a F => ?_
            refine qw F (r_lt (F.t 90 rfl) (F.t 92 rfl)) fun a F => ?_
            refine mv F rfl fun a F => ?_
            by_cases c88 : (IntKind.i64.wrap (x36 + 1)) < x49
            ·rw [if_pos c88] at k_86
             rw [decide_eq_true c88] at F
             refine qw F (r_fa (off := 4) (F.t 14 rfl) fa53_4) fun a F => ?_
             refine qw F (r_ld (F.t 95 rfl) (cel_cell (o := 4) (H.cell 0 rfl) rfl) one29) fun a F => ?_
             refine qw F (r_len (F.t 96 rfl) Try.underlying29) fun a F => ?_
             refine qw F (r_lt (F.t 97 rfl) (F.ev (x := .const (.int .i64 50)) rfl)) fun a F => ?_
             refine qw F (r_pickT (F.t 94 rfl) (F.t 98 rfl)) fun a F => ?_
             refine as_ F rfl fun a F => ?_
             refine wpList_nil ?_
             replace F := F.only [89, 13, 14, 6, 8, 9, 11, 12] (l' := [(89, .bool (decide ((x51.length : Int) < 50))), (13, .int .i64 (IntKind.i64.wrap (x36 + 1))), (14, .pointer (some ⟨g76, 0, none⟩)), (6, .pointer (some ⟨g1, 0, none⟩)), (8, .pointer (some ⟨g2, 0, none⟩)), (9, .pointer (some ⟨g32, 0, none⟩)), (11, .int .i64 (IntKind.i64.wrap (x5 + x6))), (12, .pointer (some ⟨g35, 0, none⟩))]) rfl
             try dsimp only at k_86
             obtain rfl := Option.some.inj k_86
             exact ⟨_, rfl, F.only [6, 8, 9, 11, 12, 13, 14, 89] rfl, H.p0.p2.px2.px2.f8.f8.f8.f3.f8.f8.f8.f8.f8⟩
            ·rw [if_neg c88] at k_86
             rw [decide_eq_false c88] at F
             refine of_ F fun a F => ?_
             refine of_ F fun a F => ?_
             refine of_ F fun a F => ?_
             refine of_ F fun a F => ?_
             refine qw F (r_pickF (F.t 94 rfl) (F.ev (x := .const (.bool false)) rfl)) fun a F => ?_
             refine as_ F rfl fun a F => ?_
             refine wpList_nil ?_
             replace F := F.only [89, 13, 14, 6, 8, 9, 11, 12] (l' := [(89, .bool false), (13, .int .i64 (IntKind.i64.wrap (x36 + 1))), (14, .pointer (some ⟨g76, 0, none⟩)), (6, .pointer (some ⟨g1, 0, none⟩)), (8, .pointer (some ⟨g2, 0, none⟩)), (9, .pointer (some ⟨g32, 0, none⟩)), (11, .int .i64 (IntKind.i64.wrap (x5 + x6))), (12, .pointer (some ⟨g35, 0, none⟩))]) rfl
             try dsimp only at k_86
             obtain rfl := Option.some.inj k_86
             exact ⟨_, rfl, F.only [6, 8, 9, 11, 12, 13, 14, 89] rfl, H.p0.p2.px2.px2.f8.f8.f8.f3.f8.f8.f8.f8.f8⟩
           ·rintro a w ⟨x86, rfl, F, H⟩
            try dsimp only at j_45 F H
            by_cases c89 : x86 = true
            ·rw [if_pos c89] at j_45
             rw [c89] at F
             refine wp_cond_true (F.ev rfl) ?_
             refine rg ?_
             refine ls (lbd F (vs := []) (cs := [.int .i64 0, .slice none 0 0, .slice none 0 0, .slice none 0 0]) rfl (fun w => by kernel_rfl) fun a F => ?_)
             obtain ⟨_, hr, H⟩ := Hp.store (t := 32) (o := 0) (n := 4) (vs := [.int .i64 0, .slice none 0 0, .slice none 0 0, .slice none 0 0]) (cs' := [.int .i64 0, .slice none 0 0, .slice none 0 0, .slice none 0 0]) (H.f8.f7.f7.f7.f7.f7.f7.f7.f8) (F.t 6 rfl) (F.t 100 rfl) rfl sz32 rfl (Nat.le_of_ble_eq_true rfl) rfl rfl
             refine ls (qn F (.inl rfl) (hr _ _ _ _) fun a F => ?_)
             refine as_ F (v := .bool false) rfl fun a F => ?_
             refine rgend ?_
             replace F := F.only [7, 6] (l' := [(7, .bool false), (6, .pointer (some ⟨g1, 0, none⟩))]) rfl
             refine wp_ret ?_
             replace H := H.nilRd kByte
             replace H := H.nilRd (kSlice kByte)
             replace H := H.nilOwn (kSlice kByte) 29
             try dsimp only at j_45
             obtain rfl := Option.some.inj j_45
             obtain rfl := u_45 _ rfl
             try dsimp only at h
             obtain ⟨rfl, rfl⟩ := Prod.mk.inj (Option.some.inj h)
             exact RET _ _ (retC2 F rfl rfl rfl (ldvA (cel_range (o := 0) (n := 4) (vs := [.int .i64 0, .slice none 0 0, .slice none 0 0, .slice none 0 0]) (H.cell 1 rfl) rfl) agg32 rfl) ⟨_, rfl, none, 0, none, 0, none, 0, rfl, H.p0.p2.px2.px2.px2.px2.fx9.fx7.fx6.fx5.fx4.fx3.fx2.fx1⟩)
            ·rw [if_neg c89] at j_45
             rw [Bool.eq_false_iff.2 c89] at F
             refine wp_cond_false (F.ev rfl) ?_
             refine rg ?_
             refine mv F rfl fun a F => ?_
             refine qw F (r_fa (off := 2) (F.t 14 rfl) fa53_2) fun a F => ?_
             refine qw F (r_ld (F.t 103 rfl) (cel_cell (o := 2) (H.cell 5 rfl) rfl) one3) fun a F => ?_
             refine qw F (r_le (F.t 102 rfl) (F.t 104 rfl)) fun a F => ?_
             refine as_ F rfl fun a F => ?_
             refine rgend ?_
             replace F := F.only [101, 6, 8, 9, 11, 12, 13, 14] (l' := [(101, .bool (decide ((IntKind.i64.wrap (x36 + 1)) ≤ x49))), (6, .pointer (some ⟨g1, 0, none⟩)), (8, .pointer (some ⟨g2, 0, none⟩)), (9, .pointer (some ⟨g32, 0, none⟩)), (11, .int .i64 (IntKind.i64.wrap (x5 + x6))), (12, .pointer (some ⟨g35, 0, none⟩)), (13, .int .i64 (IntKind.i64.wrap (x36 + 1))), (14, .pointer (some ⟨g76, 0, none⟩))]) rfl
             obtain ⟨o_98, k_98, j_45⟩ := Option.bind_eq_some_iff.1 j_45
             refine cut (fun a w => ∃ (x90 : List Int) (x93 : List (List Int)) (x96 : List (List Int)), (x90, x93, x96) = o_98 ∧ ∃ (A91 : Option Addr) (c92 : Nat) (A94 : Option Addr) (c95 : Nat) (A97 : Option Addr) (c98 : Nat), Fr 123 [] [(6, .pointer (some ⟨g1, 0, none⟩)), (8, .pointer (some ⟨g2, 0, none⟩)), (9, .pointer (some ⟨g32, 0, none⟩)), (11, .int .i64 (IntKind.i64.wrap (x5 + x6))), (12, .pointer (some ⟨g35, 0, none⟩)), (13, .int .i64 (IntKind.i64.wrap (x36 + 1)))] a ∧ Hp w0 (rd kByte A8 c9 x7 :: ps) (own kByte 5 A91 c92 x90 :: own (kSlice kByte) 29 A94 c95 x93 :: own (kSlice kByte) 29 A97 c98 x96 :: cel g2 [.pointer (some ⟨g0_, 0, none⟩), .int .i64 a1, .int .i64 a2] 105 :: cel g32 [.int .i64 x3, .int .i64 x4, .int .i64 x5, .int .i64 x6, .slice A8 x7.length c9] 53 :: obj_disk_Disk g0_ a0 :: cel g1 [.int .i64 0, .slice none 0 0, .slice none 0 0, .slice none 0 0] 32 :: cel g35 [.int .i64 x3, .slice A91 x90.length c92, .slice A94 x93.length c95, .slice A97 x96.length c98] 32 :: fs) w) ?_ ?_
             ·skip
              by_cases c100 : (IntKind.i64.wrap (x36 + 1)) ≤ x49
              ·rw [if_pos c100] at k_98
               rw [decide_eq_true c100] at F
               refine wp_cond_true (F.ev rfl) ?_
               refine wp_region_lit ?_
               refine qw F (r_fa (off := 1) (F.t 12 rfl) fa32_1) fun a F => ?_
               refine qw F (r_ld (F.t 106 rfl) (cel_cell (o := 1) (H.cell 8 rfl) rfl) one29) fun a F => ?_
               refine qw F (r_fa (off := 4) (F.t 14 rfl) fa53_4) fun a F => ?_
               refine qw F (r_ld (F.t 108 rfl) (cel_cell (o := 4) (H.cell 5 rfl) rfl) one29) fun a F => ?_
               obtain ⟨c101, k_98⟩ := guardO k_98
               obtain ⟨A102, c103, _, hr, H⟩ := Hp.appendRd (kd := kByte) (xs := x37) (ys := x51) (H) 1 rfl (F.t 107 rfl) (F.t 109 rfl) Try.underlying29 ti5 rfl (by decide) (by decide) c101
               refine qw F (hr _ _ _ _ _) fun a F => ?_
               refine qw F (r_fa (off := 1) (F.t 12 rfl) fa32_1) fun a F => ?_
               obtain ⟨_, hr, H⟩ := Hp.store (t := 29) (o := 1) (n := 1) (vs := [.slice A102 (x37 ++ x51).length c103]) (cs' := [.int .i64 x3, .slice A102 (x37 ++ x51).length c103, .slice A41 x40.length c42, .slice A44 x43.length c45]) (H.f7.f7.f7.f7.f7.f7.f7.f7.f8) (F.t 111 rfl) (F.t 110 rfl) rfl sz29 rfl (Nat.le_of_ble_eq_true rfl) rfl rfl
               refine ls (qn F (.inl rfl) (hr _ _ _ _) fun a F => ?_)
               refine wpList_nil ?_
               replace F := F.only [6, 8, 9, 11, 12, 13] (l' := [(6, .pointer (some ⟨g1, 0, none⟩)), (8, .pointer (some ⟨g2, 0, none⟩)), (9, .pointer (some ⟨g32, 0, none⟩)), (11, .int .i64 (IntKind.i64.wrap (x5 + x6))), (12, .pointer (some ⟨g35, 0, none⟩)), (13, .int .i64 (IntKind.i64.wrap (x36 + 1)))]) rfl
               try dsimp only at k_98
               obtain rfl := Option.some.inj k_98
               exact ⟨_, _, _, rfl, A102, c103, A41, c42, A44, c45, F.only [6, 8, 9, 11, 12, 13] rfl, H.px1.f8.f8.f7.f7.f7.f7.f7.fx8⟩
              ·rw [if_neg c100] at k_98
               rw [decide_eq_false c100] at F
               refine wp_cond_false (F.ev rfl) ?_
               refine rg ?_
               refine mv F rfl fun a F => ?_
               refine mv F rfl fun a F => ?_
               refine qw F (r_le (F.t 113 rfl) (F.t 114 rfl)) fun a F => ?_
               refine as_ F rfl fun a F => ?_
               refine rgend ?_
               replace F := F.only [112, 6, 8, 9, 11, 12, 13, 14] (l' := [(112, .bool (decide ((IntKind.i64.wrap (x36 + 1)) ≤ (IntKind.i64.wrap (x5 + x6))))), (6, .pointer (some ⟨g1, 0, none⟩)), (8, .pointer (some ⟨g2, 0, none⟩)), (9, .pointer (some ⟨g32, 0, none⟩)), (11, .int .i64 (IntKind.i64.wrap (x5 + x6))), (12, .pointer (some ⟨g35, 0, none⟩)), (13, .int .i64 (IntKind.i64.wrap (x36 + 1))), (14, .pointer (some ⟨g76, 0, none⟩))]) rfl
               obtain ⟨o_109, k_109, k_98⟩ := Option.bind_eq_some_iff.1 k_98
               refine cut (fun a w => ∃ (x104 : List (List Int)) (x107 : List (List Int)), (x104, x107) = o_109 ∧ ∃ (A105 : Option Addr) (c106 : Nat) (A108 : Option Addr) (c109 : Nat), Fr 123 [] [(6, .pointer (some ⟨g1, 0, none⟩)), (8, .pointer (some ⟨g2, 0, none⟩)), (9, .pointer (some ⟨g32, 0, none⟩)), (11, .int .i64 (IntKind.i64.wrap (x5 + x6))), (12, .pointer (some ⟨g35, 0, none⟩)), (13, .int .i64 (IntKind.i64.wrap (x36 + 1)))] a ∧ Hp w0 (rd kByte A8 c9 x7 :: ps) (own (kSlice kByte) 29 A105 c106 x104 :: own (kSlice kByte) 29 A108 c109 x107 :: own kByte 5 A38 c39 x37 :: cel g2 [.pointer (some ⟨g0_, 0, none⟩), .int .i64 a1, .int .i64 a2] 105 :: cel g32 [.int .i64 x3, .int .i64 x4, .int .i64 x5, .int .i64 x6, .slice A8 x7.length c9] 53 :: obj_disk_Disk g0_ a0 :: cel g1 [.int .i64 0, .slice none 0 0, .slice none 0 0, .slice none 0 0] 32 :: cel g35 [.int .i64 x3, .slice A38 x37.length c39, .slice A105 x104.length c106, .slice A108 x107.length c109] 32 :: fs) w) ?_ ?_
               ·skip
                by_cases c111 : (IntKind.i64.wrap (x36 + 1)) ≤ (IntKind.i64.wrap (x5 + x6))
                ·rw [if_pos c111] at k_109
                 rw [decide_eq_true c111] at F
                 refine wp_cond_true (F.ev rfl) ?_
                 refine wp_region_lit ?_
                 refine qw F (r_fa (off := 2) (F.t 12 rfl) fa32_2) fun a F => ?_
                 refine qw F (r_ld (F.t 116 rfl) (cel_cell (o := 2) (H.cell 8 rfl) rfl) one30) fun a F => ?_
                 refine qw F (r_fa (off := 4) (F.t 14 rfl) fa53_4) fun a F => ?_
                 refine qw F (r_ld (F.t 118 rfl) (cel_cell (o := 4) (H.cell 5 rfl) rfl) one29) fun a F => ?_
                 refine ls (lbs F H (e := 29) (vs := [(0, .slice A52 x51.length c53)]) (cs := [.slice A52 x51.length c53]) rfl (fun w => by kernel_rfl) fun g112 w a H F => ?_)
                 obtain ⟨c113, k_109⟩ := guardO k_109
                 obtain ⟨A114, c115, _, hr, H⟩ := Hp.appendCelL (kd := (kSlice kByte)) (xs := x40) (ys := [x51]) (H.f9.f9.f9.f9.f9.f9.f9.f8.f8.f9) (F.t 117 rfl) (F.t 120 rfl) Try.underlying30 ti29 rfl (by decide) (by decide) rfl ((SayL.cons (kd := (kSlice kByte)) (c1 := [.slice A52 x51.length c53]) (y := x51) (fun Z hp => ⟨A52, c53, rfl, pat hp 1 rfl⟩) SayL.nil)) c113
                 refine qw F (hr _ _ _ _ _) fun a F => ?_
                 refine qw F (r_fa (off := 2) (F.t 12 rfl) fa32_2) fun a F => ?_
                 obtain ⟨_, hr, H⟩ := Hp.store (t := 30) (o := 2) (n := 1) (vs := [.slice A114 ((x40 ++ ([x51]))).length c115]) (cs' := [.int .i64 x3, .slice A38 x37.length c39, .slice A114 ((x40 ++ ([x51]))).length c115, .slice A44 x43.length c45]) (H.f7.f7.f7.f7.f7.f7.f7.f7.f8) (F.t 122 rfl) (F.t 121 rfl) rfl sz30 rfl (Nat.le_of_ble_eq_true rfl) rfl rfl
                 refine ls (qn F (.inl rfl) (hr _ _ _ _) fun a F => ?_)
                 refine wpList_nil ?_
                 replace F := F.only [6, 8, 9, 11, 12, 13] (l' := [(6, .pointer (some ⟨g1, 0, none⟩)), (8, .pointer (some ⟨g2, 0, none⟩)), (9, .pointer (some ⟨g32, 0, none⟩)), (11, .int .i64 (IntKind.i64.wrap (x5 + x6))), (12, .pointer (some ⟨g35, 0, none⟩)), (13, .int .i64 (IntKind.i64.wrap (x36 + 1)))]) rfl
                 try dsimp only at k_109
                 obtain rfl := Option.some.inj k_109
                 exact ⟨_, _, rfl, A114, c115, A44, c45, F.only [6, 8, 9, 11, 12, 13] rfl, H.px1.f8.f8.f7.f7.f6.f7.f7.fx8⟩
                ·rw [if_neg c111] at k_109
                 rw [decide_eq_false c111] at F
                 refine wp_cond_false (F.ev rfl) ?_
                 refine wp_region_lit ?_
                 refine qw F (r_fa (off := 3) (F.t 12 rfl) fa32_3) fun a F => ?_
                 refine qw F (r_ld (F.t 82 rfl) (cel_cell (o := 3) (H.cell 8 rfl) rfl) one30) fun a F => ?_
                 refine qw F (r_fa (off := 4) (F.t 14 rfl) fa53_4) fun a F => ?_
                 refine qw F (r_ld (F.t 84 rfl) (cel_cell (o := 4) (H.cell 5 rfl) rfl) one29) fun a F => ?_
                 refine ls (lbs F H (e := 29) (vs := [(0, .slice A52 x51.length c53)]) (cs := [.slice A52 x51.length c53]) rfl (fun w => by kernel_rfl) fun g116 w a H F => ?_)
                 obtain ⟨c117, k_109⟩ := guardO k_109
                 obtain ⟨A118, c119, _, hr, H⟩ := Hp.appendCelL (kd := (kSlice kByte)) (xs := x43) (ys := [x51]) (H.f9.f9.f9.f9.f9.f9.f8.f8.f8.f9) (F.t 83 rfl) (F.t 86 rfl) Try.underlying30 ti29 rfl (by decide) (by decide) rfl ((SayL.cons (kd := (kSlice kByte)) (c1 := [.slice A52 x51.length c53]) (y := x51) (fun Z hp => ⟨A52, c53, rfl, pat hp 1 rfl⟩) SayL.nil)) c117
                 refine qw F (hr _ _ _ _ _) fun a F => ?_
                 refine qw F (r_fa (off := 3) (F.t 12 rfl) fa32_3) fun a F => ?_
                 obtain ⟨_, hr, H⟩ := Hp.store (t := 30) (o := 3) (n := 1) (vs := [.slice A118 ((x43 ++ ([x51]))).length c119]) (cs' := [.int .i64 x3, .slice A38 x37.length c39, .slice A41 x40.length c42, .slice A118 ((x43 ++ ([x51]))).length c119]) (H.f7.f7.f7.f7.f7.f7.f7.f7.f8) (F.t 88 rfl) (F.t 87 rfl) rfl sz30 rfl (Nat.le_of_ble_eq_true rfl) rfl rfl
                 refine ls (qn F (.inl rfl) (hr _ _ _ _) fun a F => ?_)
                 refine wpList_nil ?_
                 replace F := F.only [6, 8, 9, 11, 12, 13] (l' := [(6, .pointer (some ⟨g1, 0, none⟩)), (8, .pointer (some ⟨g2, 0, none⟩)), (9, .pointer (some ⟨g32, 0, none⟩)), (11, .int .i64 (IntKind.i64.wrap (x5 + x6))), (12, .pointer (some ⟨g35, 0, none⟩)), (13, .int .i64 (IntKind.i64.wrap (x36 + 1)))]) rfl
                 try dsimp only at k_109
                 obtain rfl := Option.some.inj k_109
                 exact ⟨_, _, rfl, A41, c42, A118, c119, F.only [6, 8, 9, 11, 12, 13] rfl, H.px1.f8.f8.f7.f7.f6.f6.f7.fx8⟩
               ·rintro a w ⟨x104, x107, rfl, A105, c106, A108, c109, F, H⟩
                try dsimp only at k_98 F H
                try dsimp only at k_98
                obtain rfl := Option.some.inj k_98
                exact ⟨_, _, _, rfl, A38, c39, A105, c106, A108, c109, F.only [6, 8, 9, 11, 12, 13] rfl, H.f7.f7.f7.f7.f7.f6.f6.f7⟩
             ·rintro a w ⟨x90, x93, x96, rfl, A91, c92, A94, c95, A97, c98, F, H⟩
              try dsimp only at j_45 F H
              refine wp_goto ?_
              try dsimp only at j_45
              obtain rfl := Option.some.inj j_45
              exact ⟨rfl, _, rfl, A91, c92, A94, c95, A97, c98, F.only [6, 8, 9, 11, 12, 13] rfl, H⟩
      ·rw [if_neg c77] at j_45
       rw [Bool.eq_false_iff.2 c77] at F
       refine of_ F fun a F => ?_
       refine of_ F fun a F => ?_
       refine of_ F fun a F => ?_
       refine of_ F fun a F => ?_
       refine qw F (r_pickT (F.t 48 rfl) (F.ev (x := .const (.bool true)) rfl)) fun a F => ?_
       refine mv F rfl fun a F => ?_
       refine of_ F fun a F => ?_
       refine of_ F fun a F => ?_
       refine of_ F fun a F => ?_
       refine of_ F fun a F => ?_
       refine of_ F fun a F => ?_
       refine qw F (r_pickT (F.t 54 rfl) (F.ev (x := .const (.bool true)) rfl)) fun a F => ?_
       refine mv F rfl fun a F => ?_
       refine of_ F fun a F => ?_
       refine of_ F fun a F => ?_
       refine of_ F fun a F => ?_
       refine of_ F fun a F => ?_
       refine of_ F fun a F => ?_
       refine qw F (r_pickT (F.t 61 rfl) (F.ev (x := .const (.bool true)) rfl)) fun a F => ?_
       refine mv F rfl fun a F => ?_
       refine of_ F fun a F => ?_
       refine of_ F fun a F => ?_
       refine of_ F fun a F => ?_
       refine of_ F fun a F => ?_
       refine of_ F fun a F => ?_
       refine qw F (r_pickT (F.t 68 rfl) (F.ev (x := .const (.bool true)) rfl)) fun a F => ?_
       refine rgend ?_
       replace F := F.only [74, 14, 6, 8, 9, 11, 12, 13] (l' := [(74, .bool true), (14, .pointer (some ⟨g76, 0, none⟩)), (6, .pointer (some ⟨g1, 0, none⟩)), (8, .pointer (some ⟨g2, 0, none⟩)), (9, .pointer (some ⟨g32, 0, none⟩)), (11, .int .i64 (IntKind.i64.wrap (x5 + x6))), (12, .pointer (some ⟨g35, 0, none⟩)), (13, .int .i64 x36)]) rfl
       refine wp_cond_true (F.ev rfl) ?_
       refine wp_seq ?_
       refine rg ?_
       refine mv F rfl fun a F => ?_
       refine mv F rfl fun a F => ?_
       refine qw F (r_lt (F.t 75 rfl) (F.t 76 rfl)) fun a F => ?_
       refine rgend ?_
       replace F := F.only [77, 6, 12] (l' := [(77, .bool (decide (x36 < (IntKind.i64.wrap (x5 + x6))))), (6, .pointer (some ⟨g1, 0, none⟩)), (12, .pointer (some ⟨g35, 0, none⟩))]) rfl
       by_cases c120 : x36 < (IntKind.i64.wrap (x5 + x6))
       ·rw [if_pos c120] at j_45
        rw [decide_eq_true c120] at F
        refine wp_cond_true (F.ev rfl) ?_
        refine rg ?_
        refine ls (lbd F (vs := []) (cs := [.int .i64 0, .slice none 0 0, .slice none 0 0, .slice none 0 0]) rfl (fun w => by kernel_rfl) fun a F => ?_)
        obtain ⟨_, hr, H⟩ := Hp.store (t := 32) (o := 0) (n := 4) (vs := [.int .i64 0, .slice none 0 0, .slice none 0 0, .slice none 0 0]) (cs' := [.int .i64 0, .slice none 0 0, .slice none 0 0, .slice none 0 0]) (H.f8.f7.f7.f7.f7.f7.f7.f7.f8) (F.t 6 rfl) (F.t 78 rfl) rfl sz32 rfl (Nat.le_of_ble_eq_true rfl) rfl rfl
        refine ls (qn F (.inl rfl) (hr _ _ _ _) fun a F => ?_)
        refine as_ F (v := .bool false) rfl fun a F => ?_
        refine rgend ?_
        refine wp_ret ?_
        replace H := H.nilRd kByte
        replace H := H.nilRd (kSlice kByte)
        replace H := H.nilOwn (kSlice kByte) 29
        try dsimp only at j_45
        obtain rfl := Option.some.inj j_45
        obtain rfl := u_45 _ rfl
        try dsimp only at h
        obtain ⟨rfl, rfl⟩ := Prod.mk.inj (Option.some.inj h)
        exact RET _ _ (retC2 F rfl rfl rfl (ldvA (cel_range (o := 0) (n := 4) (vs := [.int .i64 0, .slice none 0 0, .slice none 0 0, .slice none 0 0]) (H.cell 1 rfl) rfl) agg32 rfl) ⟨_, rfl, none, 0, none, 0, none, 0, rfl, H.p0.p2.px2.px2.px2.px2.fx9.fx7.fx6.fx5.fx4.fx3.fx2.fx1⟩)
       ·rw [if_neg c120] at j_45
        rw [decide_eq_false c120] at F
        refine wp_cond_false (F.ev rfl) ?_
        refine wp_skip ?_
        refine rg ?_
        refine qw F (r_ldA (F.t 12 rfl) (cel_range (o := 0) (n := 4) (vs := [.int .i64 x3, .slice A38 x37.length c39, .slice A41 x40.length c42, .slice A44 x43.length c45]) (H.cell 8 rfl) rfl) agg32 rfl) fun a F => ?_
        obtain ⟨_, hr, H⟩ := Hp.store (t := 32) (o := 0) (n := 4) (vs := [.int .i64 x3, .slice A38 x37.length c39, .slice A41 x40.length c42, .slice A44 x43.length c45]) (cs' := [.int .i64 x3, .slice A38 x37.length c39, .slice A41 x40.length c42, .slice A44 x43.length c45]) (H.f8.f7.f7.f7.f7.f7.f7.f7.f8) (F.t 6 rfl) (F.t 79 rfl) rfl sz32 rfl (Nat.le_of_ble_eq_true rfl) rfl rfl
        refine ls (qn F (.inl rfl) (hr _ _ _ _) fun a F => ?_)
        refine as_ F (v := .bool true) rfl fun a F => ?_
        refine rgend ?_
        refine wp_ret ?_
        replace H := (H.f8.f8.f8.f8.f8.f8.f7.f7.f8).freeze
        replace H := (H.f7.f7.f7.f7.f7.f6.f6.f7).freeze
        try dsimp only at j_45
        obtain rfl := Option.some.inj j_45
        obtain rfl := u_45 _ rfl
        try dsimp only at h
        obtain ⟨rfl, rfl⟩ := Prod.mk.inj (Option.some.inj h)
        exact RET _ _ (retC2 F rfl rfl rfl (ldvA (cel_range (o := 0) (n := 4) (vs := [.int .i64 x3, .slice A38 x37.length c39, .slice A41 x40.length c42, .slice A44 x43.length c45]) (H.cell 0 rfl) rfl) agg32 rfl) ⟨_, rfl, A38, c39, A41, c42, A44, c45, rfl, H.p0.p2.px2.px2.px2.px2.fx6.fx4.fx3.fx1.fx0⟩)
  ·rw [if_neg c33] at h
   rw [Bool.eq_false_iff.2 c33] at F
   refine of_ F fun a F => ?_
   refine of_ F fun a F => ?_
   refine of_ F fun a F => ?_
   refine qw F (r_pickT (F.t 31 rfl) (F.ev (x := .const (.bool true)) rfl)) fun a F => ?_
   refine rgend ?_
   replace F := F.only [35, 11, 9, 8, 6] (l' := [(35, .bool true), (11, .int .i64 (IntKind.i64.wrap (x5 + x6))), (9, .pointer (some ⟨g32, 0, none⟩)), (8, .pointer (some ⟨g2, 0, none⟩)), (6, .pointer (some ⟨g1, 0, none⟩))]) rfl
   refine wp_cond_true (F.ev rfl) ?_
   refine rg ?_
   refine ls (lbd F (vs := []) (cs := [.int .i64 0, .slice none 0 0, .slice none 0 0, .slice none 0 0]) rfl (fun w => by kernel_rfl) fun a F => ?_)
   obtain ⟨_, hr, H⟩ := Hp.store (t := 32) (o := 0) (n := 4) (vs := [.int .i64 0, .slice none 0 0, .slice none 0 0, .slice none 0 0]) (cs' := [.int .i64 0, .slice none 0 0, .slice none 0 0, .slice none 0 0]) (H.f2.f2.f2.f3) (F.t 6 rfl) (F.t 36 rfl) rfl sz32 rfl (Nat.le_of_ble_eq_true rfl) rfl rfl
   refine ls (qn F (.inl rfl) (hr _ _ _ _) fun a F => ?_)
   refine as_ F (v := .bool false) rfl fun a F => ?_
   refine rgend ?_
   replace F := F.only [7, 6] (l' := [(7, .bool false), (6, .pointer (some ⟨g1, 0, none⟩))]) rfl
   refine wp_ret ?_
   replace H := H.nilRd kByte
   replace H := H.nilRd (kSlice kByte)
   replace H := H.nilOwn (kSlice kByte) 29
   try dsimp only at h
   obtain ⟨rfl, rfl⟩ := Prod.mk.inj (Option.some.inj h)
   exact RET _ _ (retC2 F rfl rfl rfl (ldvA (cel_range (o := 0) (n := 4) (vs := [.int .i64 0, .slice none 0 0, .slice none 0 0, .slice none 0 0]) (H.cell 1 rfl) rfl) agg32 rfl) ⟨_, rfl, none, 0, none, 0, none, 0, rfl, H.p0.p2.px2.px2.px2.fx3.fx2.fx1⟩)
def region_Greatest_b0 (a0 : disk_Disk) (a1 : Int) (a2 : Int) (x2 : Int) : (Int × Int) → Option (Int × Int ⊕ Int)
 | (x4, x5) => (if x5 < (max (min a2 x2) 0) then (((((if x5 ≥ a2 then some true else (if a1 < 0 then some true else ((disk_Disk_Sectors_f a0).bind fun x24 => some ((decide (x5 ≥ (IntKind.i64.wrap (x24 - a1)))))))) : Option (Bool)).bind fun x20 => (if x20 = true then some (0, 0, 0, 0, [], false) else ((disk_Disk_Read_f a0 (IntKind.i64.wrap (a1 + x5))).bind fun (x27, x28) => (if x28 ≠ 0 then some (0, 0, 0, 0, [], false) else ((sector_Get_f x27).bind fun (x33, x34) => some (x33.Gen, x33.Place, x33.Parts, x33.Kept, x33.Body, x34)))))) : Option (Int × Int × Int × Int × (List Int) × Bool)).bind fun (x9, x10, x11, x12, x13, x16) => (((if x16 = true then some ((max x4 x9)) else some x4) : Option (Int)).bind fun x39 => some (.inl (x39, IntKind.i64.wrap (x5 + 1))))) else some (.inr x4))
def region_Greatest_f (a0 : disk_Disk) (a1 : Int) (a2 : Int) : Option (Int) :=
 ((disk_Disk_Sectors_f a0).bind fun x2 => ((lp (region_Greatest_b0 a0 a1 a2 x2) (0, 0)).bind fun x6 => some x6))
set_option maxHeartbeats 4000000 in
set_option maxRecDepth 20000 in
theorem region_Greatest_ok {w0 w : World} {ps : List PF} {fs : List SF} {a0 : disk_Disk} {g0_ : Nat} {a1 : Int} {a2 : Int} {r0 : Int} (H : Hp w0 ps (obj_disk_Disk g0_ a0 :: fs) w) (h : region_Greatest_f a0 a1 a2 = some r0) :
  Calls Try.prog 42 [.pointer (some ⟨g0_, 0, none⟩), .int .i64 a1, .int .i64 a2].toArray w fun e w' => ∃ v, e = .returned v ∧ v = .int .i64 r0 ∧ Hp w0 ps (obj_disk_Disk g0_ a0 :: fs) w' := by
 refine enter [.pointer (some ⟨g0_, 0, none⟩), .int .i64 a1, .int .i64 a2] 37 Try.func42 fun Q a NP RET NRM F => ?_
 replace NP : ∀ c a w, ¬ Q (.panic c) a w := fun c a w h => by rcases NP c a w h with h | ⟨w, v, h, _⟩ <;> cases h
 unfold region_Greatest_f at h
 refine rg ?_
 refine as_ F (v := .int .i64 0) rfl fun a F => ?_
 refine rgend ?_
 refine rg ?_
 refine mv F rfl fun a F => ?_
 refine mv F rfl fun a F => ?_
 refine mv F rfl fun a F => ?_
 refine ls (lbd F (vs := [(0, .pointer (some ⟨g0_, 0, none⟩)), (1, .int .i64 a1), (2, .int .i64 a2)]) (cs := [.pointer (some ⟨g0_, 0, none⟩), .int .i64 a1, .int .i64 a2]) rfl (fun w => by kernel_rfl) fun a F => ?_)
 refine ls (lal F H ti105 (cs := [.pointer none, .int .i64 0, .int .i64 0]) rfl fun g1 w a H F => ?_)
 obtain ⟨_, hr, H⟩ := Hp.store (t := 105) (o := 0) (n := 3) (vs := [.pointer (some ⟨g0_, 0, none⟩), .int .i64 a1, .int .i64 a2]) (cs' := [.pointer (some ⟨g0_, 0, none⟩), .int .i64 a1, .int .i64 a2]) (H) (F.t 7 rfl) (F.t 15 rfl) rfl sz105 rfl (Nat.le_of_ble_eq_true rfl) rfl rfl
 refine ls (qn F (.inl rfl) (hr _ _ _ _) fun a F => ?_)
 refine rgend ?_
 replace F := F.only [7, 0, 2] (l' := [(7, .pointer (some ⟨g1, 0, none⟩)), (0, .pointer (some ⟨g0_, 0, none⟩)), (2, .int .i64 a2)]) rfl
 refine rg ?_
 refine as_ F (v := .int .i64 0) rfl fun a F => ?_
 refine rgend ?_
 refine wp_seq ?_
 refine rg ?_
 refine mv F rfl fun a F => ?_
 refine mv F rfl fun a F => ?_
 obtain ⟨x2, e3, h⟩ := Option.bind_eq_some_iff.1 h
 try dsimp only at h
 refine ls (call F Try.func76 (disk_Disk_Sectors_ok (H.f1) e3) rfl rfl fun v w hR a F => ?_)
 obtain ⟨rfl, H⟩ := hR
 refine qw F (r_min (F.t 16 rfl) (F.t 18 rfl)) fun a F => ?_
 refine qw F (r_max (F.t 19 rfl) (F.ev (x := .const (.int .i64 0)) rfl)) fun a F => ?_
 refine mv F (v := .int .i64 0) rfl fun a F => ?_
 refine rgend ?_
 replace F := F.only [21, 20, 8, 7] (l' := [(21, .int .i64 0), (20, .int .i64 (max (min a2 x2) 0)), (8, .int .i64 0), (7, .pointer (some ⟨g1, 0, none⟩))]) rfl
 obtain ⟨o_6, k_6, h⟩ := Option.bind_eq_some_iff.1 h
 refine cut (fun a w => ∃ (x6 : Int), x6 = o_6 ∧ Fr 37 [] [(8, .int .i64 x6)] a ∧ Hp w0 ps (obj_disk_Disk g0_ a0 :: fs) w) (wp_block ?_) ?_
 ·refine wloop (region_Greatest_b0 a0 a1 a2 x2) (fun (s : Int × Int) a w => Fr 37 [] [(7, .pointer (some ⟨g1, 0, none⟩)), (8, .int .i64 s.1), (20, .int .i64 (max (min a2 x2) 0)), (21, .int .i64 s.2)] a ∧ Hp w0 ps (obj_disk_Disk g0_ a0 :: cel g1 [.pointer (some ⟨g0_, 0, none⟩), .int .i64 a1, .int .i64 a2] 105 :: fs) w) k_6 ⟨F.only [7, 8, 20, 21] rfl, H⟩ ?_
  rintro ⟨x4, x5⟩ a w q_6 j_6 u_6 ⟨F, H⟩
  unfold region_Greatest_b0 at j_6
  try dsimp only at j_6 F H
  refine rg ?_
  refine qw F (r_lt (F.t 21 rfl) (F.t 20 rfl)) fun a F => ?_
  refine rgend ?_
  refine wp_seq ?_
  by_cases c8 : x5 < (max (min a2 x2) 0)
  ·rw [if_pos c8] at j_6
   rw [decide_eq_true c8] at F
   refine wp_cond_true (F.ev rfl) ?_
   refine wp_skip ?_
   refine wp_seq ?_
   refine wp_block ?_
   refine rg ?_
   refine mv F rfl fun a F => ?_
   refine as_ F rfl fun a F => ?_
   refine rgend ?_
   refine rg ?_
   refine qw F (r_ldA (F.t 7 rfl) (cel_range (o := 0) (n := 3) (vs := [.pointer (some ⟨g0_, 0, none⟩), .int .i64 a1, .int .i64 a2]) (H.cell 1 rfl) rfl) agg105 rfl) fun a F => ?_
   refine mv F rfl fun a F => ?_
   obtain ⟨o_16, k_16, j_6⟩ := Option.bind_eq_some_iff.1 j_6
   refine ls (call F Try.func77 (R := fun v w => ∃ (x9 : Int) (x10 : Int) (x11 : Int) (x12 : Int) (x13 : List Int) (x16 : Bool), (x9, x10, x11, x12, x13, x16) = o_16 ∧ ∃ (A14 : Option Addr) (c15 : Nat), v = .tuple #[.agg #[.int .i64 x9, .int .i64 x10, .int .i64 x11, .int .i64 x12, .slice A14 x13.length c15], .bool x16] ∧ Hp w0 (rd kByte A14 c15 x13 :: ps) (obj_disk_Disk g0_ a0 :: cel g1 [.pointer (some ⟨g0_, 0, none⟩), .int .i64 a1, .int .i64 a2] 105 :: fs) w) (args := [.agg #[.pointer (some ⟨g0_, 0, none⟩), .int .i64 a1, .int .i64 a2], .int .i64 x5]) (cap := []) ?_ rfl rfl ?_)
   ·refine enter [.agg #[.pointer (some ⟨g0_, 0, none⟩), .int .i64 a1, .int .i64 a2], .int .i64 x5] 45 Try.func77 fun Q a NP RET NRM F => ?_
    replace NP : ∀ c a w, ¬ Q (.panic c) a w := fun c a w h => by rcases NP c a w h with h | ⟨w, v, h, _⟩ <;> cases h
    refine rg ?_
    refine ls (lbox F H rfl (cs := [.pointer (some ⟨g0_, 0, none⟩), .int .i64 a1, .int .i64 a2]) rfl fun g18 w a H F => ?_)
    refine ls (lal F H ti53 (cs := [.int .i64 0, .int .i64 0, .int .i64 0, .int .i64 0, .slice none 0 0]) rfl fun g19 w a H F => ?_)
    refine as_ F (v := .bool false) rfl fun a F => ?_
    refine rgend ?_
    refine wp_seq ?_
    refine wp_seq ?_
    obtain ⟨o_20, k_20, k_16⟩ := Option.bind_eq_some_iff.1 k_16
    refine cut (fun a w => ∃ (x20 : Bool), x20 = o_20 ∧ Fr 45 [] [(1, .int .i64 x5), (2, .pointer (some ⟨g18, 0, none⟩)), (4, .pointer (some ⟨g19, 0, none⟩)), (26, .bool x20)] a ∧ Hp w0 ps (obj_disk_Disk g0_ a0 :: cel g19 [.int .i64 0, .int .i64 0, .int .i64 0, .int .i64 0, .slice none 0 0] 53 :: cel g1 [.pointer (some ⟨g0_, 0, none⟩), .int .i64 a1, .int .i64 a2] 105 :: cel g18 [.pointer (some ⟨g0_, 0, none⟩), .int .i64 a1, .int .i64 a2] 105 :: fs) w) ?_ ?_
    ·skip
     replace H := H.drew
     have HS := H.fx2
     refine dr (fun w => Hp w0 ps (cel g19 [.int .i64 0, .int .i64 0, .int .i64 0, .int .i64 0, .slice none 0 0] 53 :: cel g18 [.pointer (some ⟨g0_, 0, none⟩), .int .i64 a1, .int .i64 a2] 105 :: cel g1 [.pointer (some ⟨g0_, 0, none⟩), .int .i64 a1, .int .i64 a2] 105 :: fs) w) _ (by kernel_rfl) ?_ (n := 19)
     refine dq 0 F rfl (by kernel_rfl) NP HS (fun w S => (r_mv (F.t 1 rfl))) fun a F => ?_
     refine dq 1 F rfl (by kernel_rfl) NP HS (fun w S => (r_fa (off := 2) (F.t 2 rfl) fa105_2)) fun a F => ?_
     refine dq 2 F rfl (by kernel_rfl) NP HS (fun w S => (r_ld (F.t 9 rfl) (cel_cell (o := 2) (S.cell 1 rfl) rfl) one3)) fun a F => ?_
     refine dq 3 F rfl (by kernel_rfl) NP HS (fun w S => (r_ge (F.t 8 rfl) (F.t 10 rfl))) fun a F => ?_
     refine dq 4 F rfl (by kernel_rfl) NP HS (fun w S => (r_mv (F.t 11 rfl))) fun a F => ?_
     by_cases c22 : x5 ≥ a2
     ·rw [if_pos c22] at k_20
      rw [decide_eq_true c22] at F
      refine doff 5 F rfl (by kernel_rfl) NP HS fun a F => ?_
      refine doff 6 F rfl (by kernel_rfl) NP HS fun a F => ?_
      refine doff 7 F rfl (by kernel_rfl) NP HS fun a F => ?_
      refine dq 8 F rfl (by kernel_rfl) NP HS (fun w S => (r_pickT (F.t 12 rfl) (F.ev (x := .const (.bool true)) rfl))) fun a F => ?_
      refine dq 9 F rfl (by kernel_rfl) NP HS (fun w S => (r_mv (F.t 16 rfl))) fun a F => ?_
      refine doff 10 F rfl (by kernel_rfl) NP HS fun a F => ?_
      refine doff 11 F rfl (by kernel_rfl) NP HS fun a F => ?_
      refine doff 12 F rfl (by kernel_rfl) NP HS fun a F => ?_
      refine doff 13 F rfl (by kernel_rfl) NP HS fun a F => ?_
      refine doff 14 F rfl (by kernel_rfl) NP HS fun a F => ?_
      refine doff 15 F rfl (by kernel_rfl) NP HS fun a F => ?_
      refine doff 16 F rfl (by kernel_rfl) NP HS fun a F => ?_
      refine doff 17 F rfl (by kernel_rfl) NP HS fun a F => ?_
      refine dq 18 F rfl (by kernel_rfl) NP HS (fun w S => (r_pickT (F.t 17 rfl) (F.ev (x := .const (.bool true)) rfl))) fun a F => ?_
      refine ddone (by kernel_rfl) ?_
      replace F := F.only [26, 4, 2, 1] (l' := [(26, .bool true), (4, .pointer (some ⟨g19, 0, none⟩)), (2, .pointer (some ⟨g18, 0, none⟩)), (1, .int .i64 x5)]) rfl
      try dsimp only at k_20
      obtain rfl := Option.some.inj k_20
      exact ⟨_, rfl, F.only [1, 2, 4, 26] rfl, H.f1.f3.f2.f3⟩
     ·rw [if_neg c22] at k_20
      rw [decide_eq_false c22] at F
      refine dq 5 F rfl (by kernel_rfl) NP HS (fun w S => (r_fa (off := 1) (F.t 2 rfl) fa105_1)) fun a F => ?_
      refine dq 6 F rfl (by kernel_rfl) NP HS (fun w S => (r_ld (F.t 13 rfl) (cel_cell (o := 1) (S.cell 1 rfl) rfl) one3)) fun a F => ?_
      refine dq 7 F rfl (by kernel_rfl) NP HS (fun w S => (r_lt (F.t 14 rfl) (F.ev (x := .const (.int .i64 0)) rfl))) fun a F => ?_
      refine dq 8 F rfl (by kernel_rfl) NP HS (fun w S => (r_pickF (F.t 12 rfl) (F.t 15 rfl))) fun a F => ?_
      refine dq 9 F rfl (by kernel_rfl) NP HS (fun w S => (r_mv (F.t 16 rfl))) fun a F => ?_
      by_cases c23 : a1 < 0
      ·rw [if_pos c23] at k_20
       rw [decide_eq_true c23] at F
       refine doff 10 F rfl (by kernel_rfl) NP HS fun a F => ?_
       refine doff 11 F rfl (by kernel_rfl) NP HS fun a F => ?_
       refine doff 12 F rfl (by kernel_rfl) NP HS fun a F => ?_
       refine doff 13 F rfl (by kernel_rfl) NP HS fun a F => ?_
       refine doff 14 F rfl (by kernel_rfl) NP HS fun a F => ?_
       refine doff 15 F rfl (by kernel_rfl) NP HS fun a F => ?_
       refine doff 16 F rfl (by kernel_rfl) NP HS fun a F => ?_
       refine doff 17 F rfl (by kernel_rfl) NP HS fun a F => ?_
       refine dq 18 F rfl (by kernel_rfl) NP HS (fun w S => (r_pickT (F.t 17 rfl) (F.ev (x := .const (.bool true)) rfl))) fun a F => ?_
       refine ddone (by kernel_rfl) ?_
       replace F := F.only [26, 4, 2, 1] (l' := [(26, .bool true), (4, .pointer (some ⟨g19, 0, none⟩)), (2, .pointer (some ⟨g18, 0, none⟩)), (1, .int .i64 x5)]) rfl
       try dsimp only at k_20
       obtain rfl := Option.some.inj k_20
       exact ⟨_, rfl, F.only [1, 2, 4, 26] rfl, H.f1.f3.f2.f3⟩
      ·rw [if_neg c23] at k_20
       rw [decide_eq_false c23] at F
       refine dq 10 F rfl (by kernel_rfl) NP HS (fun w S => (r_mv (F.t 1 rfl))) fun a F => ?_
       refine dq 11 F rfl (by kernel_rfl) NP HS (fun w S => (r_fa (off := 0) (F.t 2 rfl) fa105_0)) fun a F => ?_
       refine dq 12 F rfl (by kernel_rfl) NP HS (fun w S => (r_ld (F.t 19 rfl) (cel_cell (o := 0) (S.cell 1 rfl) rfl) one24)) fun a F => ?_
       refine dq 14 F rfl (by kernel_rfl) NP HS (fun w S => (r_fa (off := 1) (F.t 2 rfl) fa105_1)) fun a F => ?_
       refine dq 15 F rfl (by kernel_rfl) NP HS (fun w S => (r_ld (F.t 22 rfl) (cel_cell (o := 1) (S.cell 1 rfl) rfl) one3)) fun a F => ?_
       obtain ⟨x24, e25, k_20⟩ := Option.bind_eq_some_iff.1 k_20
       try dsimp only at k_20
       refine d1 13 rfl (by kernel_rfl) (call F Try.func76 (disk_Disk_Sectors_ok (H.f3.f2.f2.f3) e25) rfl rfl fun v w hR a F => ?_)
       obtain ⟨rfl, H⟩ := hR
       have HS := H.fx0
       refine kg _ HS (fun w S => S) ?_
       refine dq 16 F rfl (by kernel_rfl) NP HS (fun w S => (r_sub (F.t 21 rfl) (F.t 23 rfl))) fun a F => ?_
       refine dq 17 F rfl (by kernel_rfl) NP HS (fun w S => (r_ge (F.t 18 rfl) (F.t 24 rfl))) fun a F => ?_
       refine dq 18 F rfl (by kernel_rfl) NP HS (fun w S => (r_pickF (F.t 17 rfl) (F.t 25 rfl))) fun a F => ?_
       refine ddone (by kernel_rfl) ?_
       replace F := F.only [26, 4, 2, 1] (l' := [(26, .bool (decide (x5 ≥ (IntKind.i64.wrap (x24 - a1))))), (4, .pointer (some ⟨g19, 0, none⟩)), (2, .pointer (some ⟨g18, 0, none⟩)), (1, .int .i64 x5)]) rfl
       try dsimp only at k_20
       obtain rfl := Option.some.inj k_20
       exact ⟨_, rfl, F.only [1, 2, 4, 26] rfl, H.f2.f3.f3.f3⟩
    ·rintro a w ⟨x20, rfl, F, H⟩
     try dsimp only at k_16 F H
     by_cases c26 : x20 = true
     ·rw [if_pos c26] at k_16
      rw [c26] at F
      refine wp_cond_true (F.ev rfl) ?_
      refine rg ?_
      refine ls (lbd F (vs := []) (cs := [.int .i64 0, .int .i64 0, .int .i64 0, .int .i64 0, .slice none 0 0]) rfl (fun w => by kernel_rfl) fun a F => ?_)
      obtain ⟨_, hr, H⟩ := Hp.store (t := 53) (o := 0) (n := 5) (vs := [.int .i64 0, .int .i64 0, .int .i64 0, .int .i64 0, .slice none 0 0]) (cs' := [.int .i64 0, .int .i64 0, .int .i64 0, .int .i64 0, .slice none 0 0]) (H.f3.f3.f2.f3) (F.t 4 rfl) (F.t 27 rfl) rfl sz53 rfl (Nat.le_of_ble_eq_true rfl) rfl rfl
      refine ls (qn F (.inl rfl) (hr _ _ _ _) fun a F => ?_)
      refine as_ F (v := .bool false) rfl fun a F => ?_
      refine rgend ?_
      replace F := F.only [5, 4] (l' := [(5, .bool false), (4, .pointer (some ⟨g19, 0, none⟩))]) rfl
      refine wp_ret ?_
      replace H := H.nilRd kByte
      try dsimp only at k_16
      obtain rfl := Option.some.inj k_16
      exact RET _ _ (retC2 F rfl rfl rfl (ldvA (cel_range (o := 0) (n := 5) (vs := [.int .i64 0, .int .i64 0, .int .i64 0, .int .i64 0, .slice none 0 0]) (H.cell 0 rfl) rfl) agg53 rfl) ⟨_, rfl, _, _, _, _, _, _, rfl, none, 0, rfl, H.fx3.fx0⟩)
     ·rw [if_neg c26] at k_16
      rw [Bool.eq_false_iff.2 c26] at F
      refine wp_cond_false (F.ev rfl) ?_
      refine wp_skip ?_
      refine rg ?_
      refine qw F (r_fa (off := 0) (F.t 2 rfl) fa105_0) fun a F => ?_
      refine qw F (r_ld (F.t 29 rfl) (cel_cell (o := 0) (H.cell 3 rfl) rfl) one24) fun a F => ?_
      refine qw F (r_fa (off := 1) (F.t 2 rfl) fa105_1) fun a F => ?_
      refine qw F (r_ld (F.t 31 rfl) (cel_cell (o := 1) (H.cell 3 rfl) rfl) one3) fun a F => ?_
      refine mv F rfl fun a F => ?_
      refine qw F (r_add (F.t 32 rfl) (F.t 33 rfl)) fun a F => ?_
      obtain ⟨⟨x27, x28⟩, e29, k_16⟩ := Option.bind_eq_some_iff.1 k_16
      try dsimp only at k_16
      refine ls (call F Try.func64 (disk_Disk_Read_ok (H) e29) rfl rfl fun v w hR a F => ?_)
      obtain ⟨A30, c31, rfl, H⟩ := hR
      refine mv F rfl fun a F => ?_
      refine qw F (r_ex (F.t 28 rfl) rfl) fun a F => ?_
      refine qw F (r_ex (F.t 28 rfl) rfl) fun a F => ?_
      refine as_ F rfl fun a F => ?_
      refine as_ F rfl fun a F => ?_
      refine rgend ?_
      replace F := F.only [7, 6, 4] (l' := [(7, .int .i64 x28), (6, .slice A30 x27.length c31), (4, .pointer (some ⟨g19, 0, none⟩))]) rfl
      refine wp_seq ?_
      refine rg ?_
      refine mv F rfl fun a F => ?_
      refine qw F (r_ne (F.t 38 rfl) (F.ev (x := .const (.int .i64 0)) rfl)) fun a F => ?_
      refine rgend ?_
      by_cases c32 : x28 ≠ 0
      ·rw [if_pos c32] at k_16
       rw [decide_eq_true c32] at F
       refine wp_cond_true (F.ev rfl) ?_
       refine rg ?_
       refine ls (lbd F (vs := []) (cs := [.int .i64 0, .int .i64 0, .int .i64 0, .int .i64 0, .slice none 0 0]) rfl (fun w => by kernel_rfl) fun a F => ?_)
       obtain ⟨_, hr, H⟩ := Hp.store (t := 53) (o := 0) (n := 5) (vs := [.int .i64 0, .int .i64 0, .int .i64 0, .int .i64 0, .slice none 0 0]) (cs' := [.int .i64 0, .int .i64 0, .int .i64 0, .int .i64 0, .slice none 0 0]) (H.f4.f4.f3.f3.f4) (F.t 4 rfl) (F.t 40 rfl) rfl sz53 rfl (Nat.le_of_ble_eq_true rfl) rfl rfl
       refine ls (qn F (.inl rfl) (hr _ _ _ _) fun a F => ?_)
       refine as_ F (v := .bool false) rfl fun a F => ?_
       refine rgend ?_
       replace F := F.only [5, 4] (l' := [(5, .bool false), (4, .pointer (some ⟨g19, 0, none⟩))]) rfl
       refine wp_ret ?_
       replace H := H.nilRd kByte
       try dsimp only at k_16
       obtain rfl := Option.some.inj k_16
       exact RET _ _ (retC2 F rfl rfl rfl (ldvA (cel_range (o := 0) (n := 5) (vs := [.int .i64 0, .int .i64 0, .int .i64 0, .int .i64 0, .slice none 0 0]) (H.cell 0 rfl) rfl) agg53 rfl) ⟨_, rfl, _, _, _, _, _, _, rfl, none, 0, rfl, H.fx4.fx1.fx0⟩)
      ·rw [if_neg c32] at k_16
       rw [decide_eq_false c32] at F
       refine wp_cond_false (F.ev rfl) ?_
       refine wp_skip ?_
       refine rg ?_
       refine mv F rfl fun a F => ?_
       replace H := (H).freeze
       obtain ⟨⟨x33, x34⟩, e35, k_16⟩ := Option.bind_eq_some_iff.1 k_16
       try dsimp only at k_16
       refine ls (call F Try.func92 (sector_Get_ok (H.p0) e35) rfl rfl fun v w hR a F => ?_)
       obtain ⟨A36, c37, rfl, H⟩ := hR
       refine qw F (r_ex (F.t 42 rfl) rfl) fun a F => ?_
       refine qw F (r_ex (F.t 42 rfl) rfl) fun a F => ?_
       obtain ⟨_, hr, H⟩ := Hp.store (t := 53) (o := 0) (n := 5) (vs := [.int .i64 x33.Gen, .int .i64 x33.Place, .int .i64 x33.Parts, .int .i64 x33.Kept, .slice A36 x33.Body.length c37]) (cs' := [.int .i64 x33.Gen, .int .i64 x33.Place, .int .i64 x33.Parts, .int .i64 x33.Kept, .slice A36 x33.Body.length c37]) (H.f3.f3.f2.f3) (F.t 4 rfl) (F.t 43 rfl) rfl sz53 rfl (Nat.le_of_ble_eq_true rfl) rfl rfl
       refine ls (qn F (.inl rfl) (hr _ _ _ _) fun a F => ?_)
       refine as_ F rfl fun a F => ?_
       refine rgend ?_
       replace F := F.only [5, 4] (l' := [(5, .bool x34), (4, .pointer (some ⟨g19, 0, none⟩))]) rfl
       refine wp_ret ?_
       try dsimp only at k_16
       obtain rfl := Option.some.inj k_16
       exact RET _ _ (retC2 F rfl rfl rfl (ldvA (cel_range (o := 0) (n := 5) (vs := [.int .i64 x33.Gen, .int .i64 x33.Place, .int .i64 x33.Parts, .int .i64 x33.Kept, .slice A36 x33.Body.length c37]) (H.cell 0 rfl) rfl) agg53 rfl) ⟨_, rfl, _, _, _, _, _, _, rfl, A36, c37, rfl, H.px1.fx3.fx0⟩)
   ·rintro v w ⟨x9, x10, x11, x12, x13, x16, rfl, A14, c15, rfl, H⟩ a F
    try dsimp only at j_6 F H
    refine mv F rfl fun a F => ?_
    refine qw F (r_ex (F.t 24 rfl) rfl) fun a F => ?_
    refine qw F (r_ex (F.t 24 rfl) rfl) fun a F => ?_
    refine ls (lal F H ti53 (cs := [.int .i64 0, .int .i64 0, .int .i64 0, .int .i64 0, .slice none 0 0]) rfl fun g38 w a H F => ?_)
    obtain ⟨_, hr, H⟩ := Hp.store (t := 53) (o := 0) (n := 5) (vs := [.int .i64 x9, .int .i64 x10, .int .i64 x11, .int .i64 x12, .slice A14 x13.length c15]) (cs' := [.int .i64 x9, .int .i64 x10, .int .i64 x11, .int .i64 x12, .slice A14 x13.length c15]) (H) (F.t 10 rfl) (F.t 28 rfl) rfl sz53 rfl (Nat.le_of_ble_eq_true rfl) rfl rfl
    refine ls (qn F (.inl rfl) (hr _ _ _ _) fun a F => ?_)
    refine as_ F rfl fun a F => ?_
    refine rgend ?_
    replace F := F.only [11, 10, 7, 8, 20, 21] (l' := [(11, .bool x16), (10, .pointer (some ⟨g38, 0, none⟩)), (7, .pointer (some ⟨g1, 0, none⟩)), (8, .int .i64 x4), (20, .int .i64 (max (min a2 x2) 0)), (21, .int .i64 x5)]) rfl
    refine rg ?_
    refine mv F rfl fun a F => ?_
    refine rgend ?_
    obtain ⟨o_39, k_39, j_6⟩ := Option.bind_eq_some_iff.1 j_6
    refine cut (fun a w => ∃ (x39 : Int), x39 = o_39 ∧ Fr 37 [] [(7, .pointer (some ⟨g1, 0, none⟩)), (8, .int .i64 x39), (20, .int .i64 (max (min a2 x2) 0)), (21, .int .i64 x5)] a ∧ Hp w0 ps (obj_disk_Disk g0_ a0 :: cel g1 [.pointer (some ⟨g0_, 0, none⟩), .int .i64 a1, .int .i64 a2] 105 :: fs) w) ?_ ?_
    ·skip
     by_cases c41 : x16 = true
     ·rw [if_pos c41] at k_39
      rw [c41] at F
      refine wp_cond_true (F.ev rfl) ?_
      refine wp_region_lit ?_
      refine mv F rfl fun a F => ?_
      refine qw F (r_fa (off := 0) (F.t 10 rfl) fa53_0) fun a F => ?_
      refine qw F (r_ld (F.t 32 rfl) (cel_cell (o := 0) (H.cell 0 rfl) rfl) one2) fun a F => ?_
      refine qw F (r_max (F.t 31 rfl) (F.t 33 rfl)) fun a F => ?_
      refine as_ F rfl fun a F => ?_
      refine wpList_nil ?_
      replace F := F.only [8, 7, 20, 21] (l' := [(8, .int .i64 (max x4 x9)), (7, .pointer (some ⟨g1, 0, none⟩)), (20, .int .i64 (max (min a2 x2) 0)), (21, .int .i64 x5)]) rfl
      try dsimp only at k_39
      obtain rfl := Option.some.inj k_39
      exact ⟨_, rfl, F.only [7, 8, 20, 21] rfl, H.px0.fx0⟩
     ·rw [if_neg c41] at k_39
      rw [Bool.eq_false_iff.2 c41] at F
      refine wp_cond_false (F.ev rfl) ?_
      refine wp_skip ?_
      try dsimp only at k_39
      obtain rfl := Option.some.inj k_39
      exact ⟨_, rfl, F.only [7, 8, 20, 21] rfl, H.px0.fx0⟩
    ·rintro a w ⟨x39, rfl, F, H⟩
     try dsimp only at j_6 F H
     refine wp_region_lit ?_
     refine qw F (r_add (F.t 21 rfl) (F.ev (x := .const (.int .i64 1)) rfl)) fun a F => ?_
     refine mv F rfl fun a F => ?_
     refine wpList_nil ?_
     try dsimp only at j_6
     obtain rfl := Option.some.inj j_6
     exact ⟨_, rfl, F.only [7, 8, 20, 21] rfl, H⟩
  ·rw [if_neg c8] at j_6
   rw [decide_eq_false c8] at F
   refine wp_cond_false (F.ev rfl) ?_
   refine wp_exit ?_
   try dsimp only at j_6
   obtain rfl := Option.some.inj j_6
   obtain rfl := u_6 _ rfl
   repeat (with_reducible refine exT ?_)
   with_reducible refine exB ?_
   exact ⟨_, rfl, F.only [8] rfl, H.fx1⟩
 ·rintro a w ⟨x6, rfl, F, H⟩
  try dsimp only at h F H
  refine rg ?_
  refine mv F rfl fun a F => ?_
  refine as_ F rfl fun a F => ?_
  refine rgend ?_
  refine wp_ret ?_
  try dsimp only at h
  obtain rfl := Option.some.inj h
  exact RET _ _ (ret1 F rfl rfl ⟨_, rfl, rfl, H⟩)
def region_Lay_b2 (a1 : Int) (a3 : Int) (a5 : List (List Int)) (x23 : Int) : (Int × Int × disk_Disk) → Option (Int × Int × disk_Disk ⊕ (disk_Disk ⊕ (Int × disk_Disk)))
 | (x49, x50, x51) => (if x49 < (a5.length : Int) then (if 0 ≤ x49 ∧ x49 < (a5.length : Int) then ((((sector_Put_f ((⟨a3, x50, x23, (a5.length : Int), (a5.getD (x49 : Int).toNat [])⟩ : api_Sector))).bind fun x65 => ((disk_Disk_Write_f x51 (IntKind.i64.wrap (a1 + x50)) x65).bind fun (x69, x70) => some (x69, x70))) : Option (Int × disk_Disk)).bind fun (x61, x62) => (if x61 ≠ 0 then some (.inr (.inr (x61, x62))) else some (.inl (IntKind.i64.wrap (x49 + 1), IntKind.i64.wrap (x50 + 1), x62)))) else none) else some (.inr (.inl x51)))
def region_Lay_b1 (a1 : Int) (a3 : Int) (a4 : List Int) (a5 : List (List Int)) (x23 : Int) : (Int × disk_Disk) → Option (Int × disk_Disk ⊕ ((Int × disk_Disk) ⊕ (Int × disk_Disk)))
 | (x28, x29) => (if x28 < x23 then (if 0 ≤ IntKind.i64.wrap (50 * x28) ∧ IntKind.i64.wrap (50 * x28) ≤ min (IntKind.i64.wrap (50 * (IntKind.i64.wrap (x28 + 1)))) (a4.length : Int) ∧ min (IntKind.i64.wrap (50 * (IntKind.i64.wrap (x28 + 1)))) (a4.length : Int) ≤ (a4.length : Int) then ((((sector_Put_f ((⟨a3, x28, x23, (a5.length : Int), ((a4.take (min (IntKind.i64.wrap (50 * (IntKind.i64.wrap (x28 + 1)))) (a4.length : Int)).toNat).drop (IntKind.i64.wrap (50 * x28)).toNat)⟩ : api_Sector))).bind fun x41 => ((disk_Disk_Write_f x29 (IntKind.i64.wrap (a1 + x28)) x41).bind fun (x45, x46) => some (x45, x46))) : Option (Int × disk_Disk)).bind fun (x37, x38) => (if x37 ≠ 0 then some (.inr (.inr (x37, x38))) else some (.inl (IntKind.i64.wrap (x28 + 1), x38)))) else none) else some (.inr (.inl (x28, x29))))
def region_Lay_b0 (a0 : disk_Disk) (a5 : List (List Int)) : Int → Option (Int ⊕ (Unit ⊕ (Int × disk_Disk)))
 | x11 => (if x11 < (a5.length : Int) then (if 0 ≤ x11 ∧ x11 < (a5.length : Int) then ((region_entry_f ((a5.getD (x11 : Int).toNat []))).bind fun x20 => (if x20 = true then some (.inl (IntKind.i64.wrap (x11 + 1))) else some (.inr (.inr (1, a0))))) else none) else some (.inr (.inl ())))
def region_Lay_f (a0 : disk_Disk) (a1 : Int) (a2 : Int) (a3 : Int) (a4 : List Int) (a5 : List (List Int)) : Option (Int × disk_Disk) :=
 (if a3 < 1 then some (1, a0) else (if a3 > 281474976710656 then some (1, a0) else ((region_state_f a4).bind fun x7 => (if x7 = true then (if (a5.length : Int) > 1000 then some (1, a0) else ((lp (region_Lay_b0 a0 a5) 0).bind fun q => match q with | .inl _ => ((region_parts_f a4).bind fun x23 => (if (IntKind.i64.wrap (x23 + (a5.length : Int))) > a2 then some (5, a0) else ((lp (region_Lay_b1 a1 a3 a4 a5 x23) (0, a0)).bind fun q => match q with | .inl (x30, x31) => ((lp (region_Lay_b2 a1 a3 a5 x23) (0, x30, x31)).bind fun q => match q with | .inl x52 => some (0, x52) | .inr r => some r) | .inr r => some r))) | .inr r => some r)) else some (1, a0)))))
set_option maxHeartbeats 4000000 in
set_option maxRecDepth 20000 in
theorem region_Lay_ok {w0 w : World} {ps : List PF} {fs : List SF} {a0 : disk_Disk} {g0_ : Nat} {a1 : Int} {a2 : Int} {a3 : Int} {a4 : List Int} {A4_ : Option Addr} {c4_ : Nat} {a5 : List (List Int)} {A5_ : Option Addr} {c5_ : Nat} {r0 : Int} {s0 : disk_Disk} (H : Hp w0 (rd kByte A4_ c4_ a4 :: rd (kSlice kByte) A5_ c5_ a5 :: ps) (obj_disk_Disk g0_ a0 :: fs) w) (h : region_Lay_f a0 a1 a2 a3 a4 a5 = some (r0, s0)) :
  Calls Try.prog 44 [.pointer (some ⟨g0_, 0, none⟩), .int .i64 a1, .int .i64 a2, .int .i64 a3, .slice A4_ a4.length c4_, .slice A5_ a5.length c5_].toArray w fun e w' => ∃ v, e = .returned v ∧ v = .int .i64 r0 ∧ Hp w0 ps (obj_disk_Disk g0_ s0 :: fs) w' := by
 refine enter [.pointer (some ⟨g0_, 0, none⟩), .int .i64 a1, .int .i64 a2, .int .i64 a3, .slice A4_ a4.length c4_, .slice A5_ a5.length c5_] 91 Try.func44 fun Q a NP RET NRM F => ?_
 replace NP : ∀ c a w, ¬ Q (.panic c) a w := fun c a w h => by rcases NP c a w h with h | ⟨w, v, h, _⟩ <;> cases h
 unfold region_Lay_f at h
 refine rg ?_
 refine ls (lbox F H rfl (cs := [.pointer (some ⟨g0_, 0, none⟩)]) rfl fun g1 w a H F => ?_)
 refine ls (lbox F H rfl (cs := [.int .i64 a1]) rfl fun g2 w a H F => ?_)
 refine ls (lbox F H rfl (cs := [.int .i64 a3]) rfl fun g3 w a H F => ?_)
 refine ls (lbox F H rfl (cs := [.slice A5_ a5.length c5_]) rfl fun g4 w a H F => ?_)
 refine as_ F (v := .int .i64 0) rfl fun a F => ?_
 refine rgend ?_
 replace F := F.only [11, 9, 7, 6, 2, 4] (l' := [(11, .pointer (some ⟨g4, 0, none⟩)), (9, .pointer (some ⟨g3, 0, none⟩)), (7, .pointer (some ⟨g2, 0, none⟩)), (6, .pointer (some ⟨g1, 0, none⟩)), (2, .int .i64 a2), (4, .slice A4_ a4.length c4_)]) rfl
 refine wp_seq ?_
 refine rg ?_
 refine qw F (r_ld (F.t 9 rfl) (cel_cell (o := 0) (H.cell 1 rfl) rfl) one2) fun a F => ?_
 refine qw F (r_lt (F.t 23 rfl) (F.ev (x := .const (.int .i64 1)) rfl)) fun a F => ?_
 refine mv F rfl fun a F => ?_
 by_cases c5 : a3 < 1
 ·rw [if_pos c5] at h
  rw [decide_eq_true c5] at F
  refine of_ F fun a F => ?_
  refine of_ F fun a F => ?_
  refine qw F (r_pickT (F.t 25 rfl) (F.ev (x := .const (.bool true)) rfl)) fun a F => ?_
  refine mv F rfl fun a F => ?_
  refine of_ F fun a F => ?_
  refine of_ F fun a F => ?_
  refine of_ F fun a F => ?_
  refine qw F (r_pickT (F.t 29 rfl) (F.ev (x := .const (.bool true)) rfl)) fun a F => ?_
  refine mv F rfl fun a F => ?_
  refine of_ F fun a F => ?_
  refine of_ F fun a F => ?_
  refine of_ F fun a F => ?_
  refine qw F (r_pickT (F.t 34 rfl) (F.ev (x := .const (.bool true)) rfl)) fun a F => ?_
  refine rgend ?_
  replace F := F.only [38, 11, 9, 7, 6, 2, 4] (l' := [(38, .bool true), (11, .pointer (some ⟨g4, 0, none⟩)), (9, .pointer (some ⟨g3, 0, none⟩)), (7, .pointer (some ⟨g2, 0, none⟩)), (6, .pointer (some ⟨g1, 0, none⟩)), (2, .int .i64 a2), (4, .slice A4_ a4.length c4_)]) rfl
  refine wp_cond_true (F.ev rfl) ?_
  refine rg ?_
  refine as_ F (v := .int .i64 1) rfl fun a F => ?_
  refine rgend ?_
  replace F := F.only [12] (l' := [(12, .int .i64 1)]) rfl
  refine wp_ret ?_
  try dsimp only at h
  obtain ⟨rfl, rfl⟩ := Prod.mk.inj (Option.some.inj h)
  exact RET _ _ (ret1 F rfl rfl ⟨_, rfl, rfl, H.px1.px0.fx3.fx2.fx1.fx0⟩)
 ·rw [if_neg c5] at h
  rw [decide_eq_false c5] at F
  refine qw F (r_ld (F.t 9 rfl) (cel_cell (o := 0) (H.cell 1 rfl) rfl) one2) fun a F => ?_
  refine qw F (r_gt (F.t 26 rfl) (F.ev (x := .const (.int .i64 281474976710656)) rfl)) fun a F => ?_
  refine qw F (r_pickF (F.t 25 rfl) (F.t 27 rfl)) fun a F => ?_
  refine mv F rfl fun a F => ?_
  by_cases c6 : a3 > 281474976710656
  ·rw [if_pos c6] at h
   rw [decide_eq_true c6] at F
   refine of_ F fun a F => ?_
   refine of_ F fun a F => ?_
   refine of_ F fun a F => ?_
   refine qw F (r_pickT (F.t 29 rfl) (F.ev (x := .const (.bool true)) rfl)) fun a F => ?_
   refine mv F rfl fun a F => ?_
   refine of_ F fun a F => ?_
   refine of_ F fun a F => ?_
   refine of_ F fun a F => ?_
   refine qw F (r_pickT (F.t 34 rfl) (F.ev (x := .const (.bool true)) rfl)) fun a F => ?_
   refine rgend ?_
   replace F := F.only [38, 11, 9, 7, 6, 2, 4] (l' := [(38, .bool true), (11, .pointer (some ⟨g4, 0, none⟩)), (9, .pointer (some ⟨g3, 0, none⟩)), (7, .pointer (some ⟨g2, 0, none⟩)), (6, .pointer (some ⟨g1, 0, none⟩)), (2, .int .i64 a2), (4, .slice A4_ a4.length c4_)]) rfl
   refine wp_cond_true (F.ev rfl) ?_
   refine rg ?_
   refine as_ F (v := .int .i64 1) rfl fun a F => ?_
   refine rgend ?_
   replace F := F.only [12] (l' := [(12, .int .i64 1)]) rfl
   refine wp_ret ?_
   try dsimp only at h
   obtain ⟨rfl, rfl⟩ := Prod.mk.inj (Option.some.inj h)
   exact RET _ _ (ret1 F rfl rfl ⟨_, rfl, rfl, H.px1.px0.fx3.fx2.fx1.fx0⟩)
  ·rw [if_neg c6] at h
   rw [decide_eq_false c6] at F
   refine mv F rfl fun a F => ?_
   obtain ⟨x7, e8, h⟩ := Option.bind_eq_some_iff.1 h
   try dsimp only at h
   refine ls (call F Try.func78 (region_state_ok (a0 := a4) (H) e8) rfl rfl fun v w hR a F => ?_)
   obtain ⟨rfl, H⟩ := hR
   refine qw F (r_not (F.t 31 rfl)) fun a F => ?_
   refine qw F (r_pickF (F.t 29 rfl) (F.t 32 rfl)) fun a F => ?_
   refine mv F rfl fun a F => ?_
   by_cases c9 : x7 = true
   ·rw [if_pos c9] at h
    rw [c9] at F
    refine qw F (r_ld (F.t 11 rfl) (cel_cell (o := 0) (H.cell 0 rfl) rfl) one30) fun a F => ?_
    refine qw F (r_len (F.t 35 rfl) Try.underlying30) fun a F => ?_
    refine qw F (r_gt (F.t 36 rfl) (F.ev (x := .const (.int .i64 1000)) rfl)) fun a F => ?_
    refine qw F (r_pickF (F.t 34 rfl) (F.t 37 rfl)) fun a F => ?_
    refine rgend ?_
    replace F := F.only [38, 11, 9, 7, 6, 2, 4] (l' := [(38, .bool (decide ((a5.length : Int) > 1000))), (11, .pointer (some ⟨g4, 0, none⟩)), (9, .pointer (some ⟨g3, 0, none⟩)), (7, .pointer (some ⟨g2, 0, none⟩)), (6, .pointer (some ⟨g1, 0, none⟩)), (2, .int .i64 a2), (4, .slice A4_ a4.length c4_)]) rfl
    by_cases c10 : (a5.length : Int) > 1000
    ·rw [if_pos c10] at h
     rw [decide_eq_true c10] at F
     refine wp_cond_true (F.ev rfl) ?_
     refine rg ?_
     refine as_ F (v := .int .i64 1) rfl fun a F => ?_
     refine rgend ?_
     replace F := F.only [12] (l' := [(12, .int .i64 1)]) rfl
     refine wp_ret ?_
     try dsimp only at h
     obtain ⟨rfl, rfl⟩ := Prod.mk.inj (Option.some.inj h)
     exact RET _ _ (ret1 F rfl rfl ⟨_, rfl, rfl, H.px1.px0.fx3.fx2.fx1.fx0⟩)
    ·rw [if_neg c10] at h
     rw [decide_eq_false c10] at F
     refine wp_cond_false (F.ev rfl) ?_
     refine wp_skip ?_
     refine wp_seq ?_
     refine rg ?_
     refine qw F (r_ld (F.t 11 rfl) (cel_cell (o := 0) (H.cell 0 rfl) rfl) one30) fun a F => ?_
     refine qw F (r_len (F.t 39 rfl) Try.underlying30) fun a F => ?_
     refine mv F (v := .int .i64 0) rfl fun a F => ?_
     refine rgend ?_
     obtain ⟨o_11, k_11, h⟩ := Option.bind_eq_some_iff.1 h
     refine cut (fun a w => Sum.inl () = o_11 ∧ Fr 91 [] [(2, .int .i64 a2), (4, .slice A4_ a4.length c4_), (6, .pointer (some ⟨g1, 0, none⟩)), (7, .pointer (some ⟨g2, 0, none⟩)), (9, .pointer (some ⟨g3, 0, none⟩)), (11, .pointer (some ⟨g4, 0, none⟩))] a ∧ Hp w0 (rd kByte A4_ c4_ a4 :: rd (kSlice kByte) A5_ c5_ a5 :: ps) (cel g4 [.slice A5_ a5.length c5_] 30 :: cel g2 [.int .i64 a1] 3 :: obj_disk_Disk g0_ a0 :: cel g1 [.pointer (some ⟨g0_, 0, none⟩)] 24 :: cel g3 [.int .i64 a3] 2 :: fs) w) (wp_block ?_) ?_
     ·refine wloop (region_Lay_b0 a0 a5) (fun (s : Int) a w => Fr 91 [] [(2, .int .i64 a2), (4, .slice A4_ a4.length c4_), (6, .pointer (some ⟨g1, 0, none⟩)), (7, .pointer (some ⟨g2, 0, none⟩)), (9, .pointer (some ⟨g3, 0, none⟩)), (11, .pointer (some ⟨g4, 0, none⟩)), (39, .slice A5_ a5.length c5_), (40, .int .i64 (a5.length : Int)), (41, .int .i64 s)] a ∧ Hp w0 (rd kByte A4_ c4_ a4 :: rd (kSlice kByte) A5_ c5_ a5 :: ps) (cel g4 [.slice A5_ a5.length c5_] 30 :: cel g2 [.int .i64 a1] 3 :: obj_disk_Disk g0_ a0 :: cel g1 [.pointer (some ⟨g0_, 0, none⟩)] 24 :: cel g3 [.int .i64 a3] 2 :: fs) w) k_11 ⟨F.only [2, 4, 6, 7, 9, 11, 39, 40, 41] rfl, H.f1.f3.f4.f4.f4⟩ ?_
      rintro x11 a w q_11 j_11 u_11 ⟨F, H⟩
      unfold region_Lay_b0 at j_11
      try dsimp only at j_11 F H
      refine rg ?_
      refine qw F (r_lt (F.t 41 rfl) (F.t 40 rfl)) fun a F => ?_
      refine rgend ?_
      refine wp_seq ?_
      by_cases c13 : x11 < (a5.length : Int)
      ·rw [if_pos c13] at j_11
       rw [decide_eq_true c13] at F
       refine wp_cond_true (F.ev rfl) ?_
       refine wp_skip ?_
       refine wp_seq ?_
       refine wp_block ?_
       refine rg ?_
       obtain ⟨c14, j_11⟩ := guardO j_11
       obtain ⟨g15, o16, s17, hr, H⟩ := H.ix [] 1 rfl (F.t 39 rfl) (F.t 41 rfl) Try.underlying30 sz29 (by decide) c14.1 c14.2
       obtain ⟨A18, c19, rfl, H⟩ := H.says_slice 1 rfl
       refine qw F (hr _ _ _ _ _ _) fun a F => ?_
       refine qw F (r_ld (F.t 43 rfl) (range_cell (j := 0) (H.range 1 rfl) rfl) one29) fun a F => ?_
       refine as_ F rfl fun a F => ?_
       refine rgend ?_
       refine rg ?_
       refine mv F rfl fun a F => ?_
       obtain ⟨x20, e21, j_11⟩ := Option.bind_eq_some_iff.1 j_11
       try dsimp only at j_11
       refine ls (call F Try.func79 (region_entry_ok (a0 := (a5.getD (x11 : Int).toNat [])) (H) e21) rfl rfl fun v w hR a F => ?_)
       obtain ⟨rfl, H⟩ := hR
       refine qw F (r_not (F.t 46 rfl)) fun a F => ?_
       refine rgend ?_
       replace F := F.only [47, 2, 4, 6, 7, 9, 11, 39, 40, 41] (l' := [(47, .bool (!x20)), (2, .int .i64 a2), (4, .slice A4_ a4.length c4_), (6, .pointer (some ⟨g1, 0, none⟩)), (7, .pointer (some ⟨g2, 0, none⟩)), (9, .pointer (some ⟨g3, 0, none⟩)), (11, .pointer (some ⟨g4, 0, none⟩)), (39, .slice A5_ a5.length c5_), (40, .int .i64 (a5.length : Int)), (41, .int .i64 x11)]) rfl
       by_cases c22 : x20 = true
       ·rw [if_pos c22] at j_11
        rw [c22] at F
        refine wp_cond_false (F.ev rfl) ?_
        refine wp_skip ?_
        refine wp_region_lit ?_
        refine qw F (r_add (F.t 41 rfl) (F.ev (x := .const (.int .i64 1)) rfl)) fun a F => ?_
        refine mv F rfl fun a F => ?_
        refine wpList_nil ?_
        try dsimp only at j_11
        obtain rfl := Option.some.inj j_11
        exact ⟨_, rfl, F.only [2, 4, 6, 7, 9, 11, 39, 40, 41] rfl, H.px2.px1.px0⟩
       ·rw [if_neg c22] at j_11
        rw [Bool.eq_false_iff.2 c22] at F
        refine wp_cond_true (F.ev rfl) ?_
        refine rg ?_
        refine as_ F (v := .int .i64 1) rfl fun a F => ?_
        refine rgend ?_
        replace F := F.only [12] (l' := [(12, .int .i64 1)]) rfl
        refine wp_ret ?_
        try dsimp only at j_11
        obtain rfl := Option.some.inj j_11
        obtain rfl := u_11 _ rfl
        try dsimp only at h
        obtain ⟨rfl, rfl⟩ := Prod.mk.inj (Option.some.inj h)
        exact RET _ _ (ret1 F rfl rfl ⟨_, rfl, rfl, H.px4.px3.px2.px1.px0.fx4.fx3.fx1.fx0⟩)
      ·rw [if_neg c13] at j_11
       rw [decide_eq_false c13] at F
       refine wp_cond_false (F.ev rfl) ?_
       refine wp_exit ?_
       try dsimp only at j_11
       obtain rfl := Option.some.inj j_11
       obtain rfl := u_11 _ rfl
       repeat (with_reducible refine exT ?_)
       with_reducible refine exB ?_
       exact ⟨rfl, F.only [2, 4, 6, 7, 9, 11] rfl, H⟩
     ·rintro a w ⟨rfl, F, H⟩
      try dsimp only at h F H
      refine rg ?_
      refine mv F rfl fun a F => ?_
      obtain ⟨x23, e24, h⟩ := Option.bind_eq_some_iff.1 h
      try dsimp only at h
      refine ls (call F Try.func80 (region_parts_ok (a0 := a4) (H) e24) rfl rfl fun v w hR a F => ?_)
      obtain ⟨rfl, H⟩ := hR
      refine ls (lal F H ti3 (cs := [.int .i64 0]) rfl fun g25 w a H F => ?_)
      obtain ⟨_, hr, H⟩ := Hp.store (t := 3) (o := 0) (n := 1) (vs := [.int .i64 x23]) (cs' := [.int .i64 x23]) (H) (F.t 15 rfl) (F.t 50 rfl) rfl sz3 rfl (Nat.le_of_ble_eq_true rfl) rfl rfl
      refine ls (qn F (.inl rfl) (hr _ _ _ _) fun a F => ?_)
      refine rgend ?_
      refine wp_seq ?_
      refine rg ?_
      refine qw F (r_ld (F.t 15 rfl) (cel_cell (o := 0) (H.cell 0 rfl) rfl) one3) fun a F => ?_
      refine qw F (r_ld (F.t 11 rfl) (cel_cell (o := 0) (H.cell 1 rfl) rfl) one30) fun a F => ?_
      refine qw F (r_len (F.t 52 rfl) Try.underlying30) fun a F => ?_
      refine qw F (r_add (F.t 51 rfl) (F.t 53 rfl)) fun a F => ?_
      refine mv F rfl fun a F => ?_
      refine qw F (r_gt (F.t 54 rfl) (F.t 55 rfl)) fun a F => ?_
      refine rgend ?_
      replace F := F.only [56, 15, 4, 6, 7, 9, 11] (l' := [(56, .bool (decide ((IntKind.i64.wrap (x23 + (a5.length : Int))) > a2))), (15, .pointer (some ⟨g25, 0, none⟩)), (4, .slice A4_ a4.length c4_), (6, .pointer (some ⟨g1, 0, none⟩)), (7, .pointer (some ⟨g2, 0, none⟩)), (9, .pointer (some ⟨g3, 0, none⟩)), (11, .pointer (some ⟨g4, 0, none⟩))]) rfl
      by_cases c26 : (IntKind.i64.wrap (x23 + (a5.length : Int))) > a2
      ·rw [if_pos c26] at h
       rw [decide_eq_true c26] at F
       refine wp_cond_true (F.ev rfl) ?_
       refine rg ?_
       refine as_ F (v := .int .i64 5) rfl fun a F => ?_
       refine rgend ?_
       replace F := F.only [12] (l' := [(12, .int .i64 5)]) rfl
       refine wp_ret ?_
       try dsimp only at h
       obtain ⟨rfl, rfl⟩ := Prod.mk.inj (Option.some.inj h)
       exact RET _ _ (ret1 F rfl rfl ⟨_, rfl, rfl, H.px1.px0.fx5.fx4.fx2.fx1.fx0⟩)
      ·rw [if_neg c26] at h
       rw [decide_eq_false c26] at F
       refine wp_cond_false (F.ev rfl) ?_
       refine wp_skip ?_
       refine rg ?_
       refine ls (lal F H ti3 (cs := [.int .i64 0]) rfl fun g27 w a H F => ?_)
       obtain ⟨_, hr, H⟩ := Hp.store (t := 3) (o := 0) (n := 1) (vs := [.int .i64 0]) (cs' := [.int .i64 0]) (H) (F.t 16 rfl) (F.ev (x := .const (.int .i64 0)) rfl) rfl sz3 rfl (Nat.le_of_ble_eq_true rfl) rfl rfl
       refine ls (qn F (.inl rfl) (hr _ _ _ _) fun a F => ?_)
       refine rgend ?_
       refine rg ?_
       refine qw F (r_mf (f' := #[]) (c' := #[.pointer (some ⟨g3, 0, none⟩), .pointer (some ⟨g27, 0, none⟩), .pointer (some ⟨g25, 0, none⟩), .pointer (some ⟨g4, 0, none⟩), .pointer (some ⟨g1, 0, none⟩), .pointer (some ⟨g2, 0, none⟩)]) (by simp) (by rw [List.map_toArray]; exact congrArg _ (F.evs rfl))) fun a F => ?_
       refine as_ F rfl fun a F => ?_
       refine rgend ?_
       replace F := F.only [17, 15, 4, 11] (l' := [(17, .func (.func 81) #[] #[.pointer (some ⟨g3, 0, none⟩), .pointer (some ⟨g27, 0, none⟩), .pointer (some ⟨g25, 0, none⟩), .pointer (some ⟨g4, 0, none⟩), .pointer (some ⟨g1, 0, none⟩), .pointer (some ⟨g2, 0, none⟩)]), (15, .pointer (some ⟨g25, 0, none⟩)), (4, .slice A4_ a4.length c4_), (11, .pointer (some ⟨g4, 0, none⟩))]) rfl
       refine wp_seq ?_
       refine rg ?_
       refine qw F (r_ld (F.t 15 rfl) (cel_cell (o := 0) (H.cell 1 rfl) rfl) one3) fun a F => ?_
       refine mv F (v := .int .i64 0) rfl fun a F => ?_
       refine rgend ?_
       obtain ⟨o_31, k_31, h⟩ := Option.bind_eq_some_iff.1 h
       refine cut (fun a w => ∃ (x30 : Int) (x31 : disk_Disk), Sum.inl (x30, x31) = o_31 ∧ Fr 91 [] [(11, .pointer (some ⟨g4, 0, none⟩)), (17, .func (.func 81) #[] #[.pointer (some ⟨g3, 0, none⟩), .pointer (some ⟨g27, 0, none⟩), .pointer (some ⟨g25, 0, none⟩), .pointer (some ⟨g4, 0, none⟩), .pointer (some ⟨g1, 0, none⟩), .pointer (some ⟨g2, 0, none⟩)])] a ∧ Hp w0 (rd (kSlice kByte) A5_ c5_ a5 :: ps) (cel g27 [.int .i64 x30] 3 :: cel g4 [.slice A5_ a5.length c5_] 30 :: cel g2 [.int .i64 a1] 3 :: cel g25 [.int .i64 x23] 3 :: obj_disk_Disk g0_ x31 :: cel g1 [.pointer (some ⟨g0_, 0, none⟩)] 24 :: cel g3 [.int .i64 a3] 2 :: fs) w) (wp_block ?_) ?_
       ·refine wloop (region_Lay_b1 a1 a3 a4 a5 x23) (fun (s : Int × disk_Disk) a w => Fr 91 [] [(4, .slice A4_ a4.length c4_), (11, .pointer (some ⟨g4, 0, none⟩)), (17, .func (.func 81) #[] #[.pointer (some ⟨g3, 0, none⟩), .pointer (some ⟨g27, 0, none⟩), .pointer (some ⟨g25, 0, none⟩), .pointer (some ⟨g4, 0, none⟩), .pointer (some ⟨g1, 0, none⟩), .pointer (some ⟨g2, 0, none⟩)]), (58, .int .i64 x23), (59, .int .i64 s.1)] a ∧ Hp w0 (rd kByte A4_ c4_ a4 :: rd (kSlice kByte) A5_ c5_ a5 :: ps) (cel g27 [.int .i64 s.1] 3 :: cel g4 [.slice A5_ a5.length c5_] 30 :: cel g2 [.int .i64 a1] 3 :: cel g25 [.int .i64 x23] 3 :: obj_disk_Disk g0_ s.2 :: cel g1 [.pointer (some ⟨g0_, 0, none⟩)] 24 :: cel g3 [.int .i64 a3] 2 :: fs) w) k_31 ⟨F.only [4, 11, 17, 58, 59] rfl, H.f6.f6.f6.f4.f6.f6.f6⟩ ?_
        rintro ⟨x28, x29⟩ a w q_31 j_31 u_31 ⟨F, H⟩
        unfold region_Lay_b1 at j_31
        try dsimp only at j_31 F H
        refine rg ?_
        refine qw F (r_lt (F.t 59 rfl) (F.t 58 rfl)) fun a F => ?_
        refine rgend ?_
        refine wp_seq ?_
        by_cases c33 : x28 < x23
        ·rw [if_pos c33] at j_31
         rw [decide_eq_true c33] at F
         refine wp_cond_true (F.ev rfl) ?_
         refine wp_skip ?_
         refine wp_seq ?_
         refine wp_block ?_
         refine rg ?_
         refine mv F rfl fun a F => ?_
         refine as_ F rfl fun a F => ?_
         refine rgend ?_
         refine rg ?_
         refine mv F rfl fun a F => ?_
         refine mv F rfl fun a F => ?_
         refine mv F rfl fun a F => ?_
         refine qw F (r_mul (F.ev (x := .const (.int .i64 50)) rfl) (F.t 64 rfl)) fun a F => ?_
         refine mv F rfl fun a F => ?_
         refine qw F (r_add (F.t 66 rfl) (F.ev (x := .const (.int .i64 1)) rfl)) fun a F => ?_
         refine qw F (r_mul (F.ev (x := .const (.int .i64 50)) rfl) (F.t 67 rfl)) fun a F => ?_
         refine mv F rfl fun a F => ?_
         refine qw F (r_len (F.t 69 rfl) Try.underlying29) fun a F => ?_
         refine qw F (r_min (F.t 68 rfl) (F.t 70 rfl)) fun a F => ?_
         obtain ⟨c34, j_31⟩ := guardO j_31
         obtain ⟨A35, c36, hr, H⟩ := Hp.sl (kd := kByte) (jl := IntKind.i64.wrap (50 * x28)) (jh := min (IntKind.i64.wrap (50 * (IntKind.i64.wrap (x28 + 1)))) (a4.length : Int)) H 0 rfl (F.t 63 rfl) Try.underlying29 sz5 (.inr ⟨_, _, rfl, (F.t 65 rfl)⟩) (.inr ⟨_, _, rfl, (F.t 71 rfl)⟩) c34
         refine qw F (hr _ _ _ _ _ _) fun a F => ?_
         obtain ⟨o_38, k_38, j_31⟩ := Option.bind_eq_some_iff.1 j_31
         refine ls (call F Try.func81 (R := fun v w => ∃ (x37 : Int) (x38 : disk_Disk), (x37, x38) = o_38 ∧ v = .int .i64 x37 ∧ Hp w0 (rd kByte A4_ c4_ a4 :: rd kByte A35 c36 (((a4.take (min (IntKind.i64.wrap (50 * (IntKind.i64.wrap (x28 + 1)))) (a4.length : Int)).toNat).drop (IntKind.i64.wrap (50 * x28)).toNat)) :: rd (kSlice kByte) A5_ c5_ a5 :: ps) (cel g27 [.int .i64 (IntKind.i64.wrap (x28 + 1))] 3 :: cel g4 [.slice A5_ a5.length c5_] 30 :: cel g2 [.int .i64 a1] 3 :: cel g1 [.pointer (some ⟨g0_, 0, none⟩)] 24 :: cel g25 [.int .i64 x23] 3 :: obj_disk_Disk g0_ x38 :: cel g3 [.int .i64 a3] 2 :: fs) w) (args := [.slice A35 (((a4.take (min (IntKind.i64.wrap (50 * (IntKind.i64.wrap (x28 + 1)))) (a4.length : Int)).toNat).drop (IntKind.i64.wrap (50 * x28)).toNat)).length c36, .pointer (some ⟨g3, 0, none⟩), .pointer (some ⟨g27, 0, none⟩), .pointer (some ⟨g25, 0, none⟩), .pointer (some ⟨g4, 0, none⟩), .pointer (some ⟨g1, 0, none⟩), .pointer (some ⟨g2, 0, none⟩)]) (cap := [.pointer (some ⟨g3, 0, none⟩), .pointer (some ⟨g27, 0, none⟩), .pointer (some ⟨g25, 0, none⟩), .pointer (some ⟨g4, 0, none⟩), .pointer (some ⟨g1, 0, none⟩), .pointer (some ⟨g2, 0, none⟩)]) ?_ rfl rfl ?_)
         ·refine enter [.slice A35 (((a4.take (min (IntKind.i64.wrap (50 * (IntKind.i64.wrap (x28 + 1)))) (a4.length : Int)).toNat).drop (IntKind.i64.wrap (50 * x28)).toNat)).length c36, .pointer (some ⟨g3, 0, none⟩), .pointer (some ⟨g27, 0, none⟩), .pointer (some ⟨g25, 0, none⟩), .pointer (some ⟨g4, 0, none⟩), .pointer (some ⟨g1, 0, none⟩), .pointer (some ⟨g2, 0, none⟩)] 27 Try.func81 fun Q a NP RET NRM F => ?_
          replace NP : ∀ c a w, ¬ Q (.panic c) a w := fun c a w h => by rcases NP c a w h with h | ⟨w, v, h, _⟩ <;> cases h
          refine rg ?_
          refine as_ F (v := .int .i64 0) rfl fun a F => ?_
          refine rgend ?_
          refine rg ?_
          refine qw F (r_ld (F.t 1 rfl) (cel_cell (o := 0) (H.cell 6 rfl) rfl) one2) fun a F => ?_
          refine qw F (r_ld (F.t 2 rfl) (cel_cell (o := 0) (H.cell 0 rfl) rfl) one3) fun a F => ?_
          refine qw F (r_ld (F.t 3 rfl) (cel_cell (o := 0) (H.cell 3 rfl) rfl) one3) fun a F => ?_
          refine qw F (r_ld (F.t 4 rfl) (cel_cell (o := 0) (H.cell 1 rfl) rfl) one30) fun a F => ?_
          refine qw F (r_len (F.t 13 rfl) Try.underlying30) fun a F => ?_
          refine mv F rfl fun a F => ?_
          refine ls (lbd F (vs := [(0, .int .i64 a3), (1, .int .i64 x28), (2, .int .i64 x23), (3, .int .i64 (a5.length : Int)), (4, .slice A35 (((a4.take (min (IntKind.i64.wrap (50 * (IntKind.i64.wrap (x28 + 1)))) (a4.length : Int)).toNat).drop (IntKind.i64.wrap (50 * x28)).toNat)).length c36)]) (cs := [.int .i64 a3, .int .i64 x28, .int .i64 x23, .int .i64 (a5.length : Int), .slice A35 (((a4.take (min (IntKind.i64.wrap (50 * (IntKind.i64.wrap (x28 + 1)))) (a4.length : Int)).toNat).drop (IntKind.i64.wrap (50 * x28)).toNat)).length c36]) rfl (fun w => by kernel_rfl) fun a F => ?_)
          refine ls (lal F H ti53 (cs := [.int .i64 0, .int .i64 0, .int .i64 0, .int .i64 0, .slice none 0 0]) rfl fun g40 w a H F => ?_)
          obtain ⟨_, hr, H⟩ := Hp.store (t := 53) (o := 0) (n := 5) (vs := [.int .i64 a3, .int .i64 x28, .int .i64 x23, .int .i64 (a5.length : Int), .slice A35 (((a4.take (min (IntKind.i64.wrap (50 * (IntKind.i64.wrap (x28 + 1)))) (a4.length : Int)).toNat).drop (IntKind.i64.wrap (50 * x28)).toNat)).length c36]) (cs' := [.int .i64 a3, .int .i64 x28, .int .i64 x23, .int .i64 (a5.length : Int), .slice A35 (((a4.take (min (IntKind.i64.wrap (50 * (IntKind.i64.wrap (x28 + 1)))) (a4.length : Int)).toNat).drop (IntKind.i64.wrap (50 * x28)).toNat)).length c36]) (H) (F.t 9 rfl) (F.t 16 rfl) rfl sz53 rfl (Nat.le_of_ble_eq_true rfl) rfl rfl
          refine ls (qn F (.inl rfl) (hr _ _ _ _) fun a F => ?_)
          refine rgend ?_
          replace F := F.only [9, 2, 5, 6] (l' := [(9, .pointer (some ⟨g40, 0, none⟩)), (2, .pointer (some ⟨g27, 0, none⟩)), (5, .pointer (some ⟨g1, 0, none⟩)), (6, .pointer (some ⟨g2, 0, none⟩))]) rfl
          refine rg ?_
          refine qw F (r_ld (F.t 2 rfl) (cel_cell (o := 0) (H.cell 1 rfl) rfl) one3) fun a F => ?_
          refine qw F (r_add (F.t 17 rfl) (F.ev (x := .const (.int .i64 1)) rfl)) fun a F => ?_
          obtain ⟨_, hr, H⟩ := Hp.store (t := 3) (o := 0) (n := 1) (vs := [.int .i64 (IntKind.i64.wrap (x28 + 1))]) (cs' := [.int .i64 (IntKind.i64.wrap (x28 + 1))]) (H.f7.f7.f7.f7.f7.f7.f6.f7) (F.t 2 rfl) (F.t 18 rfl) rfl sz3 rfl (Nat.le_of_ble_eq_true rfl) rfl rfl
          refine ls (qn F (.inl rfl) (hr _ _ _ _) fun a F => ?_)
          refine rgend ?_
          refine wp_seq ?_
          replace H := H.drew
          have HS := H.fx5
          refine dr (fun w => Hp w0 (rd kByte A35 c36 (((a4.take (min (IntKind.i64.wrap (50 * (IntKind.i64.wrap (x28 + 1)))) (a4.length : Int)).toNat).drop (IntKind.i64.wrap (50 * x28)).toNat)) :: rd kByte A4_ c4_ a4 :: rd (kSlice kByte) A5_ c5_ a5 :: ps) (cel g27 [.int .i64 (IntKind.i64.wrap (x28 + 1))] 3 :: cel g40 [.int .i64 a3, .int .i64 x28, .int .i64 x23, .int .i64 (a5.length : Int), .slice A35 (((a4.take (min (IntKind.i64.wrap (50 * (IntKind.i64.wrap (x28 + 1)))) (a4.length : Int)).toNat).drop (IntKind.i64.wrap (50 * x28)).toNat)).length c36] 53 :: cel g4 [.slice A5_ a5.length c5_] 30 :: cel g2 [.int .i64 a1] 3 :: cel g25 [.int .i64 x23] 3 :: cel g1 [.pointer (some ⟨g0_, 0, none⟩)] 24 :: cel g3 [.int .i64 a3] 2 :: fs) w) _ (by kernel_rfl) ?_ (n := 9)
          refine dq 0 F rfl (by kernel_rfl) NP HS (fun w S => (r_ld (F.t 5 rfl) (cel_cell (o := 0) (S.cell 5 rfl) rfl) one24)) fun a F => ?_
          refine dq 1 F rfl (by kernel_rfl) NP HS (fun w S => (r_ld (F.t 6 rfl) (cel_cell (o := 0) (S.cell 3 rfl) rfl) one3)) fun a F => ?_
          refine dq 2 F rfl (by kernel_rfl) NP HS (fun w S => (r_fa (off := 1) (F.t 9 rfl) fa53_1)) fun a F => ?_
          refine dq 3 F rfl (by kernel_rfl) NP HS (fun w S => (r_ld (F.t 21 rfl) (cel_cell (o := 1) (S.cell 1 rfl) rfl) one3)) fun a F => ?_
          refine dq 4 F rfl (by kernel_rfl) NP HS (fun w S => (r_add (F.t 20 rfl) (F.t 22 rfl))) fun a F => ?_
          refine dq 5 F rfl (by kernel_rfl) NP HS (fun w S => (r_ldA (F.t 9 rfl) (cel_range (o := 0) (n := 5) (vs := [.int .i64 a3, .int .i64 x28, .int .i64 x23, .int .i64 (a5.length : Int), .slice A35 (((a4.take (min (IntKind.i64.wrap (50 * (IntKind.i64.wrap (x28 + 1)))) (a4.length : Int)).toNat).drop (IntKind.i64.wrap (50 * x28)).toNat)).length c36]) (S.cell 1 rfl) rfl) agg53 rfl)) fun a F => ?_
          obtain ⟨x41, e42, k_38⟩ := Option.bind_eq_some_iff.1 k_38
          try dsimp only at k_38
          refine d1 6 rfl (by kernel_rfl) (call F Try.func82 (sector_Put_ok (a0 := (⟨a3, x28, x23, (a5.length : Int), ((a4.take (min (IntKind.i64.wrap (50 * (IntKind.i64.wrap (x28 + 1)))) (a4.length : Int)).toNat).drop (IntKind.i64.wrap (50 * x28)).toNat)⟩ : api_Sector)) (H.p0) e42) rfl rfl fun v w hR a F => ?_)
          obtain ⟨A43, c44, rfl, H⟩ := hR
          have HS := H.fx5
          refine kg _ HS (fun w S => S.px0) ?_
          obtain ⟨⟨x45, x46⟩, e47, k_38⟩ := Option.bind_eq_some_iff.1 k_38
          try dsimp only at k_38
          refine d1 7 rfl (by kernel_rfl) (call F Try.func26 (disk_Disk_Write_ok (H.p0.f7.f7.f6.f6.f6.f6.f6.f7) e47) rfl rfl fun v w hR a F => ?_)
          obtain ⟨rfl, H⟩ := hR
          have HS := H.fx0
          refine kg _ HS (fun w S => S) ?_
          refine dq 8 F rfl (by kernel_rfl) NP HS (fun w S => (r_as (F.t 26 rfl))) fun a F => ?_
          refine ddone (by kernel_rfl) ?_
          replace F := F.only [8] (l' := [(8, .int .i64 x45)]) rfl
          refine wp_ret ?_
          try dsimp only at k_38
          obtain rfl := Option.some.inj k_38
          exact RET _ _ (ret1 F rfl rfl ⟨_, rfl, _, _, rfl, rfl, H.p3.p2.p4.px3.px3.px3.px3.f7.f1.f6.f7.f7.f7.f6.fx7⟩)
         ·rintro v w ⟨x37, x38, rfl, rfl, H⟩ a F
          try dsimp only at j_31 F H
          refine as_ F rfl fun a F => ?_
          refine rgend ?_
          replace F := F.only [19, 4, 11, 17, 58, 59] (l' := [(19, .int .i64 x37), (4, .slice A4_ a4.length c4_), (11, .pointer (some ⟨g4, 0, none⟩)), (17, .func (.func 81) #[] #[.pointer (some ⟨g3, 0, none⟩), .pointer (some ⟨g27, 0, none⟩), .pointer (some ⟨g25, 0, none⟩), .pointer (some ⟨g4, 0, none⟩), .pointer (some ⟨g1, 0, none⟩), .pointer (some ⟨g2, 0, none⟩)]), (58, .int .i64 x23), (59, .int .i64 x28)]) rfl
          refine rg ?_
          refine mv F rfl fun a F => ?_
          refine qw F (r_ne (F.t 74 rfl) (F.ev (x := .const (.int .i64 0)) rfl)) fun a F => ?_
          refine rgend ?_
          by_cases c48 : x37 ≠ 0
          ·rw [if_pos c48] at j_31
           rw [decide_eq_true c48] at F
           refine wp_cond_true (F.ev rfl) ?_
           refine rg ?_
           refine mv F rfl fun a F => ?_
           refine as_ F rfl fun a F => ?_
           refine rgend ?_
           replace F := F.only [12] (l' := [(12, .int .i64 x37)]) rfl
           refine wp_ret ?_
           try dsimp only at j_31
           obtain rfl := Option.some.inj j_31
           obtain rfl := u_31 _ rfl
           try dsimp only at h
           obtain ⟨rfl, rfl⟩ := Prod.mk.inj (Option.some.inj h)
           exact RET _ _ (ret1 F rfl rfl ⟨_, rfl, rfl, H.px2.px1.px0.fx6.fx4.fx3.fx2.fx1.fx0⟩)
          ·rw [if_neg c48] at j_31
           rw [decide_eq_false c48] at F
           refine wp_cond_false (F.ev rfl) ?_
           refine wp_skip ?_
           refine wp_region_lit ?_
           refine qw F (r_add (F.t 59 rfl) (F.ev (x := .const (.int .i64 1)) rfl)) fun a F => ?_
           refine mv F rfl fun a F => ?_
           refine wpList_nil ?_
           replace F := F.only [59, 4, 11, 17, 58] (l' := [(59, .int .i64 (IntKind.i64.wrap (x28 + 1))), (4, .slice A4_ a4.length c4_), (11, .pointer (some ⟨g4, 0, none⟩)), (17, .func (.func 81) #[] #[.pointer (some ⟨g3, 0, none⟩), .pointer (some ⟨g27, 0, none⟩), .pointer (some ⟨g25, 0, none⟩), .pointer (some ⟨g4, 0, none⟩), .pointer (some ⟨g1, 0, none⟩), .pointer (some ⟨g2, 0, none⟩)]), (58, .int .i64 x23)]) rfl
           try dsimp only at j_31
           obtain rfl := Option.some.inj j_31
           exact ⟨_, rfl, F.only [4, 11, 17, 58, 59] rfl, H.px1.f6.f4.f6.f6.f6.f6.f6⟩
        ·rw [if_neg c33] at j_31
         rw [decide_eq_false c33] at F
         refine wp_cond_false (F.ev rfl) ?_
         refine wp_exit ?_
         try dsimp only at j_31
         obtain rfl := Option.some.inj j_31
         obtain rfl := u_31 _ rfl
         repeat (with_reducible refine exT ?_)
         with_reducible refine exB ?_
         exact ⟨_, _, rfl, F.only [11, 17] rfl, H.px0⟩
       ·rintro a w ⟨x30, x31, rfl, F, H⟩
        try dsimp only at h F H
        refine wp_seq ?_
        refine rg ?_
        refine qw F (r_ld (F.t 11 rfl) (cel_cell (o := 0) (H.cell 1 rfl) rfl) one30) fun a F => ?_
        refine qw F (r_len (F.t 78 rfl) Try.underlying30) fun a F => ?_
        refine mv F (v := .int .i64 0) rfl fun a F => ?_
        refine rgend ?_
        obtain ⟨o_52, k_52, h⟩ := Option.bind_eq_some_iff.1 h
        refine cut (fun a w => ∃ (x52 : disk_Disk), Sum.inl x52 = o_52 ∧ Fr 91 [] [] a ∧ Hp w0 ps (obj_disk_Disk g0_ x52 :: fs) w) (wp_block ?_) ?_
        ·refine wloop (region_Lay_b2 a1 a3 a5 x23) (fun (s : Int × Int × disk_Disk) a w => Fr 91 [] [(17, .func (.func 81) #[] #[.pointer (some ⟨g3, 0, none⟩), .pointer (some ⟨g27, 0, none⟩), .pointer (some ⟨g25, 0, none⟩), .pointer (some ⟨g4, 0, none⟩), .pointer (some ⟨g1, 0, none⟩), .pointer (some ⟨g2, 0, none⟩)]), (78, .slice A5_ a5.length c5_), (79, .int .i64 (a5.length : Int)), (80, .int .i64 s.1)] a ∧ Hp w0 (rd (kSlice kByte) A5_ c5_ a5 :: ps) (cel g27 [.int .i64 s.2.1] 3 :: cel g4 [.slice A5_ a5.length c5_] 30 :: cel g2 [.int .i64 a1] 3 :: cel g25 [.int .i64 x23] 3 :: obj_disk_Disk g0_ s.2.2 :: cel g1 [.pointer (some ⟨g0_, 0, none⟩)] 24 :: cel g3 [.int .i64 a3] 2 :: fs) w) k_52 ⟨F.only [17, 78, 79, 80] rfl, H⟩ ?_
         rintro ⟨x49, x50, x51⟩ a w q_52 j_52 u_52 ⟨F, H⟩
         unfold region_Lay_b2 at j_52
         try dsimp only at j_52 F H
         refine rg ?_
         refine qw F (r_lt (F.t 80 rfl) (F.t 79 rfl)) fun a F => ?_
         refine rgend ?_
         refine wp_seq ?_
         by_cases c54 : x49 < (a5.length : Int)
         ·rw [if_pos c54] at j_52
          rw [decide_eq_true c54] at F
          refine wp_cond_true (F.ev rfl) ?_
          refine wp_skip ?_
          refine wp_seq ?_
          refine wp_block ?_
          refine rg ?_
          obtain ⟨c55, j_52⟩ := guardO j_52
          obtain ⟨g56, o57, s58, hr, H⟩ := H.ix [] 0 rfl (F.t 78 rfl) (F.t 80 rfl) Try.underlying30 sz29 (by decide) c55.1 c55.2
          obtain ⟨A59, c60, rfl, H⟩ := H.says_slice 1 rfl
          refine qw F (hr _ _ _ _ _ _) fun a F => ?_
          refine qw F (r_ld (F.t 82 rfl) (range_cell (j := 0) (H.range 1 rfl) rfl) one29) fun a F => ?_
          refine as_ F rfl fun a F => ?_
          refine rgend ?_
          refine rg ?_
          refine mv F rfl fun a F => ?_
          refine mv F rfl fun a F => ?_
          obtain ⟨o_62, k_62, j_52⟩ := Option.bind_eq_some_iff.1 j_52
          refine ls (call F Try.func81 (R := fun v w => ∃ (x61 : Int) (x62 : disk_Disk), (x61, x62) = o_62 ∧ v = .int .i64 x61 ∧ Hp w0 (rd kByte A59 c60 ((a5.getD (x49 : Int).toNat [])) :: rd (kSlice kByte) A5_ c5_ a5 :: ps) (cel g27 [.int .i64 (IntKind.i64.wrap (x50 + 1))] 3 :: cel g4 [.slice A5_ a5.length c5_] 30 :: cel g2 [.int .i64 a1] 3 :: cel g1 [.pointer (some ⟨g0_, 0, none⟩)] 24 :: cel g25 [.int .i64 x23] 3 :: obj_disk_Disk g0_ x62 :: cel g3 [.int .i64 a3] 2 :: fs) w) (args := [.slice A59 ((a5.getD (x49 : Int).toNat [])).length c60, .pointer (some ⟨g3, 0, none⟩), .pointer (some ⟨g27, 0, none⟩), .pointer (some ⟨g25, 0, none⟩), .pointer (some ⟨g4, 0, none⟩), .pointer (some ⟨g1, 0, none⟩), .pointer (some ⟨g2, 0, none⟩)]) (cap := [.pointer (some ⟨g3, 0, none⟩), .pointer (some ⟨g27, 0, none⟩), .pointer (some ⟨g25, 0, none⟩), .pointer (some ⟨g4, 0, none⟩), .pointer (some ⟨g1, 0, none⟩), .pointer (some ⟨g2, 0, none⟩)]) ?_ rfl rfl ?_)
          ·refine enter [.slice A59 ((a5.getD (x49 : Int).toNat [])).length c60, .pointer (some ⟨g3, 0, none⟩), .pointer (some ⟨g27, 0, none⟩), .pointer (some ⟨g25, 0, none⟩), .pointer (some ⟨g4, 0, none⟩), .pointer (some ⟨g1, 0, none⟩), .pointer (some ⟨g2, 0, none⟩)] 27 Try.func81 fun Q a NP RET NRM F => ?_
           replace NP : ∀ c a w, ¬ Q (.panic c) a w := fun c a w h => by rcases NP c a w h with h | ⟨w, v, h, _⟩ <;> cases h
           refine rg ?_
           refine as_ F (v := .int .i64 0) rfl fun a F => ?_
           refine rgend ?_
           refine rg ?_
           refine qw F (r_ld (F.t 1 rfl) (cel_cell (o := 0) (H.cell 6 rfl) rfl) one2) fun a F => ?_
           refine qw F (r_ld (F.t 2 rfl) (cel_cell (o := 0) (H.cell 0 rfl) rfl) one3) fun a F => ?_
           refine qw F (r_ld (F.t 3 rfl) (cel_cell (o := 0) (H.cell 3 rfl) rfl) one3) fun a F => ?_
           refine qw F (r_ld (F.t 4 rfl) (cel_cell (o := 0) (H.cell 1 rfl) rfl) one30) fun a F => ?_
           refine qw F (r_len (F.t 13 rfl) Try.underlying30) fun a F => ?_
           refine mv F rfl fun a F => ?_
           refine ls (lbd F (vs := [(0, .int .i64 a3), (1, .int .i64 x50), (2, .int .i64 x23), (3, .int .i64 (a5.length : Int)), (4, .slice A59 ((a5.getD (x49 : Int).toNat [])).length c60)]) (cs := [.int .i64 a3, .int .i64 x50, .int .i64 x23, .int .i64 (a5.length : Int), .slice A59 ((a5.getD (x49 : Int).toNat [])).length c60]) rfl (fun w => by kernel_rfl) fun a F => ?_)
           refine ls (lal F H ti53 (cs := [.int .i64 0, .int .i64 0, .int .i64 0, .int .i64 0, .slice none 0 0]) rfl fun g64 w a H F => ?_)
           obtain ⟨_, hr, H⟩ := Hp.store (t := 53) (o := 0) (n := 5) (vs := [.int .i64 a3, .int .i64 x50, .int .i64 x23, .int .i64 (a5.length : Int), .slice A59 ((a5.getD (x49 : Int).toNat [])).length c60]) (cs' := [.int .i64 a3, .int .i64 x50, .int .i64 x23, .int .i64 (a5.length : Int), .slice A59 ((a5.getD (x49 : Int).toNat [])).length c60]) (H) (F.t 9 rfl) (F.t 16 rfl) rfl sz53 rfl (Nat.le_of_ble_eq_true rfl) rfl rfl
           refine ls (qn F (.inl rfl) (hr _ _ _ _) fun a F => ?_)
           refine rgend ?_
           replace F := F.only [9, 2, 5, 6] (l' := [(9, .pointer (some ⟨g64, 0, none⟩)), (2, .pointer (some ⟨g27, 0, none⟩)), (5, .pointer (some ⟨g1, 0, none⟩)), (6, .pointer (some ⟨g2, 0, none⟩))]) rfl
           refine rg ?_
           refine qw F (r_ld (F.t 2 rfl) (cel_cell (o := 0) (H.cell 1 rfl) rfl) one3) fun a F => ?_
           refine qw F (r_add (F.t 17 rfl) (F.ev (x := .const (.int .i64 1)) rfl)) fun a F => ?_
           obtain ⟨_, hr, H⟩ := Hp.store (t := 3) (o := 0) (n := 1) (vs := [.int .i64 (IntKind.i64.wrap (x50 + 1))]) (cs' := [.int .i64 (IntKind.i64.wrap (x50 + 1))]) (H.f7.f7.f7.f7.f7.f7.f6.f7) (F.t 2 rfl) (F.t 18 rfl) rfl sz3 rfl (Nat.le_of_ble_eq_true rfl) rfl rfl
           refine ls (qn F (.inl rfl) (hr _ _ _ _) fun a F => ?_)
           refine rgend ?_
           refine wp_seq ?_
           replace H := H.drew
           have HS := H.fx5
           refine dr (fun w => Hp w0 (rd kByte A59 c60 ((a5.getD (x49 : Int).toNat [])) :: celz g56 o57 [.slice A59 ((a5.getD (x49 : Int).toNat [])).length c60] :: says (kSlice kByte) [.slice A59 ((a5.getD (x49 : Int).toNat [])).length c60] ((a5.getD (x49 : Int).toNat [])) :: rd (kSlice kByte) A5_ c5_ a5 :: ps) (cel g27 [.int .i64 (IntKind.i64.wrap (x50 + 1))] 3 :: cel g64 [.int .i64 a3, .int .i64 x50, .int .i64 x23, .int .i64 (a5.length : Int), .slice A59 ((a5.getD (x49 : Int).toNat [])).length c60] 53 :: cel g4 [.slice A5_ a5.length c5_] 30 :: cel g2 [.int .i64 a1] 3 :: cel g25 [.int .i64 x23] 3 :: cel g1 [.pointer (some ⟨g0_, 0, none⟩)] 24 :: cel g3 [.int .i64 a3] 2 :: fs) w) _ (by kernel_rfl) ?_ (n := 9)
           refine dq 0 F rfl (by kernel_rfl) NP HS (fun w S => (r_ld (F.t 5 rfl) (cel_cell (o := 0) (S.cell 5 rfl) rfl) one24)) fun a F => ?_
           refine dq 1 F rfl (by kernel_rfl) NP HS (fun w S => (r_ld (F.t 6 rfl) (cel_cell (o := 0) (S.cell 3 rfl) rfl) one3)) fun a F => ?_
           refine dq 2 F rfl (by kernel_rfl) NP HS (fun w S => (r_fa (off := 1) (F.t 9 rfl) fa53_1)) fun a F => ?_
           refine dq 3 F rfl (by kernel_rfl) NP HS (fun w S => (r_ld (F.t 21 rfl) (cel_cell (o := 1) (S.cell 1 rfl) rfl) one3)) fun a F => ?_
           refine dq 4 F rfl (by kernel_rfl) NP HS (fun w S => (r_add (F.t 20 rfl) (F.t 22 rfl))) fun a F => ?_
           refine dq 5 F rfl (by kernel_rfl) NP HS (fun w S => (r_ldA (F.t 9 rfl) (cel_range (o := 0) (n := 5) (vs := [.int .i64 a3, .int .i64 x50, .int .i64 x23, .int .i64 (a5.length : Int), .slice A59 ((a5.getD (x49 : Int).toNat [])).length c60]) (S.cell 1 rfl) rfl) agg53 rfl)) fun a F => ?_
           obtain ⟨x65, e66, k_62⟩ := Option.bind_eq_some_iff.1 k_62
           try dsimp only at k_62
           refine d1 6 rfl (by kernel_rfl) (call F Try.func82 (sector_Put_ok (a0 := (⟨a3, x50, x23, (a5.length : Int), (a5.getD (x49 : Int).toNat [])⟩ : api_Sector)) (H.p0) e66) rfl rfl fun v w hR a F => ?_)
           obtain ⟨A67, c68, rfl, H⟩ := hR
           have HS := H.fx5
           refine kg _ HS (fun w S => S.px0) ?_
           obtain ⟨⟨x69, x70⟩, e71, k_62⟩ := Option.bind_eq_some_iff.1 k_62
           try dsimp only at k_62
           refine d1 7 rfl (by kernel_rfl) (call F Try.func26 (disk_Disk_Write_ok (H.p0.f7.f7.f6.f6.f6.f6.f6.f7) e71) rfl rfl fun v w hR a F => ?_)
           obtain ⟨rfl, H⟩ := hR
           have HS := H.fx0
           refine kg _ HS (fun w S => S) ?_
           refine dq 8 F rfl (by kernel_rfl) NP HS (fun w S => (r_as (F.t 26 rfl))) fun a F => ?_
           refine ddone (by kernel_rfl) ?_
           replace F := F.only [8] (l' := [(8, .int .i64 x69)]) rfl
           refine wp_ret ?_
           try dsimp only at k_62
           obtain rfl := Option.some.inj k_62
           exact RET _ _ (ret1 F rfl rfl ⟨_, rfl, _, _, rfl, rfl, H.px3.px2.px0.f7.f1.f6.f7.f7.f7.f6.fx7⟩)
          ·rintro v w ⟨x61, x62, rfl, rfl, H⟩ a F
           try dsimp only at j_52 F H
           refine as_ F rfl fun a F => ?_
           refine rgend ?_
           replace F := F.only [22, 17, 78, 79, 80] (l' := [(22, .int .i64 x61), (17, .func (.func 81) #[] #[.pointer (some ⟨g3, 0, none⟩), .pointer (some ⟨g27, 0, none⟩), .pointer (some ⟨g25, 0, none⟩), .pointer (some ⟨g4, 0, none⟩), .pointer (some ⟨g1, 0, none⟩), .pointer (some ⟨g2, 0, none⟩)]), (78, .slice A5_ a5.length c5_), (79, .int .i64 (a5.length : Int)), (80, .int .i64 x49)]) rfl
           refine rg ?_
           refine mv F rfl fun a F => ?_
           refine qw F (r_ne (F.t 87 rfl) (F.ev (x := .const (.int .i64 0)) rfl)) fun a F => ?_
           refine rgend ?_
           by_cases c72 : x61 ≠ 0
           ·rw [if_pos c72] at j_52
            rw [decide_eq_true c72] at F
            refine wp_cond_true (F.ev rfl) ?_
            refine rg ?_
            refine mv F rfl fun a F => ?_
            refine as_ F rfl fun a F => ?_
            refine rgend ?_
            replace F := F.only [12] (l' := [(12, .int .i64 x61)]) rfl
            refine wp_ret ?_
            try dsimp only at j_52
            obtain rfl := Option.some.inj j_52
            obtain rfl := u_52 _ rfl
            try dsimp only at h
            obtain ⟨rfl, rfl⟩ := Prod.mk.inj (Option.some.inj h)
            exact RET _ _ (ret1 F rfl rfl ⟨_, rfl, rfl, H.px1.px0.fx6.fx4.fx3.fx2.fx1.fx0⟩)
           ·rw [if_neg c72] at j_52
            rw [decide_eq_false c72] at F
            refine wp_cond_false (F.ev rfl) ?_
            refine wp_skip ?_
            refine wp_region_lit ?_
            refine qw F (r_add (F.t 80 rfl) (F.ev (x := .const (.int .i64 1)) rfl)) fun a F => ?_
            refine mv F rfl fun a F => ?_
            refine wpList_nil ?_
            replace F := F.only [80, 17, 78, 79] (l' := [(80, .int .i64 (IntKind.i64.wrap (x49 + 1))), (17, .func (.func 81) #[] #[.pointer (some ⟨g3, 0, none⟩), .pointer (some ⟨g27, 0, none⟩), .pointer (some ⟨g25, 0, none⟩), .pointer (some ⟨g4, 0, none⟩), .pointer (some ⟨g1, 0, none⟩), .pointer (some ⟨g2, 0, none⟩)]), (78, .slice A5_ a5.length c5_), (79, .int .i64 (a5.length : Int))]) rfl
            try dsimp only at j_52
            obtain rfl := Option.some.inj j_52
            exact ⟨_, rfl, F.only [17, 78, 79, 80] rfl, H.px0.f6.f4.f6.f6.f6.f6.f6⟩
         ·rw [if_neg c54] at j_52
          rw [decide_eq_false c54] at F
          refine wp_cond_false (F.ev rfl) ?_
          refine wp_exit ?_
          try dsimp only at j_52
          obtain rfl := Option.some.inj j_52
          obtain rfl := u_52 _ rfl
          repeat (with_reducible refine exT ?_)
          with_reducible refine exB ?_
          exact ⟨_, rfl, F.only [] rfl, H.px0.fx6.fx5.fx3.fx2.fx1.fx0⟩
        ·rintro a w ⟨x52, rfl, F, H⟩
         try dsimp only at h F H
         refine rg ?_
         refine as_ F (v := .int .i64 0) rfl fun a F => ?_
         refine rgend ?_
         refine wp_ret ?_
         try dsimp only at h
         obtain ⟨rfl, rfl⟩ := Prod.mk.inj (Option.some.inj h)
         exact RET _ _ (ret1 F rfl rfl ⟨_, rfl, rfl, H⟩)
   ·rw [if_neg c9] at h
    rw [Bool.eq_false_iff.2 c9] at F
    refine of_ F fun a F => ?_
    refine of_ F fun a F => ?_
    refine of_ F fun a F => ?_
    refine qw F (r_pickT (F.t 34 rfl) (F.ev (x := .const (.bool true)) rfl)) fun a F => ?_
    refine rgend ?_
    replace F := F.only [38, 11, 9, 7, 6, 2, 4] (l' := [(38, .bool true), (11, .pointer (some ⟨g4, 0, none⟩)), (9, .pointer (some ⟨g3, 0, none⟩)), (7, .pointer (some ⟨g2, 0, none⟩)), (6, .pointer (some ⟨g1, 0, none⟩)), (2, .int .i64 a2), (4, .slice A4_ a4.length c4_)]) rfl
    refine wp_cond_true (F.ev rfl) ?_
    refine rg ?_
    refine as_ F (v := .int .i64 1) rfl fun a F => ?_
    refine rgend ?_
    replace F := F.only [12] (l' := [(12, .int .i64 1)]) rfl
    refine wp_ret ?_
    try dsimp only at h
    obtain ⟨rfl, rfl⟩ := Prod.mk.inj (Option.some.inj h)
    exact RET _ _ (ret1 F rfl rfl ⟨_, rfl, rfl, H.px1.px0.fx3.fx2.fx1.fx0⟩)
def region_Put_f (a0 : disk_Disk) (a1 : Int) (a2 : Int) (a3 : api_Region) (a4 : List Int) : Option (Int × disk_Disk) :=
 ((region_entry_f a4).bind fun x2 => (if x2 = true then (if a3.Gen < 1 then some (1, a0) else (if a3.Gen > 281474976710656 then some (1, a0) else ((region_state_f a3.State).bind fun x7 => (if x7 = true then (if (a3.Kept.length : Int) > 1000 then some (1, a0) else ((region_parts_f a3.State).bind fun x11 => (if (IntKind.i64.wrap ((IntKind.i64.wrap (x11 + (a3.Kept.length : Int))) + (a3.More.length : Int))) ≥ a2 then some (5, a0) else ((sector_Put_f ((⟨a3.Gen, IntKind.i64.wrap ((IntKind.i64.wrap (x11 + (a3.Kept.length : Int))) + (a3.More.length : Int)), x11, (a3.Kept.length : Int), a4⟩ : api_Sector))).bind fun x14 => ((disk_Disk_Write_f a0 (IntKind.i64.wrap (a1 + (IntKind.i64.wrap ((IntKind.i64.wrap (x11 + (a3.Kept.length : Int))) + (a3.More.length : Int))))) x14).bind fun (x18, x19) => some (x18, x19)))))) else some (1, a0))))) else some (1, a0)))
set_option maxHeartbeats 4000000 in
set_option maxRecDepth 20000 in
theorem region_Put_ok {w0 w : World} {ps : List PF} {fs : List SF} {a0 : disk_Disk} {g0_ : Nat} {a1 : Int} {a2 : Int} {a3 : api_Region} {A3_1 : Option Addr} {c3_1 : Nat} {A3_2 : Option Addr} {c3_2 : Nat} {A3_3 : Option Addr} {c3_3 : Nat} {a4 : List Int} {A4_ : Option Addr} {c4_ : Nat} {r0 : Int} {s0 : disk_Disk} (H : Hp w0 (rd kByte A4_ c4_ a4 :: ps) (obj_disk_Disk g0_ a0 :: fs) w) (h : region_Put_f a0 a1 a2 a3 a4 = some (r0, s0)) :
  Calls Try.prog 47 [.pointer (some ⟨g0_, 0, none⟩), .int .i64 a1, .int .i64 a2, .agg #[.int .i64 a3.Gen, .slice A3_1 a3.State.length c3_1, .slice A3_2 a3.Kept.length c3_2, .slice A3_3 a3.More.length c3_3], .slice A4_ a4.length c4_].toArray w fun e w' => ∃ v, e = .returned v ∧ v = .int .i64 r0 ∧ Hp w0 ps (obj_disk_Disk g0_ s0 :: fs) w' := by
 refine enter [.pointer (some ⟨g0_, 0, none⟩), .int .i64 a1, .int .i64 a2, .agg #[.int .i64 a3.Gen, .slice A3_1 a3.State.length c3_1, .slice A3_2 a3.Kept.length c3_2, .slice A3_3 a3.More.length c3_3], .slice A4_ a4.length c4_] 68 Try.func47 fun Q a NP RET NRM F => ?_
 replace NP : ∀ c a w, ¬ Q (.panic c) a w := fun c a w h => by rcases NP c a w h with h | ⟨w, v, h, _⟩ <;> cases h
 unfold region_Put_f at h
 refine rg ?_
 refine ls (lbox F H rfl (cs := [.int .i64 a3.Gen, .slice A3_1 a3.State.length c3_1, .slice A3_2 a3.Kept.length c3_2, .slice A3_3 a3.More.length c3_3]) rfl fun g1 w a H F => ?_)
 refine as_ F (v := .int .i64 0) rfl fun a F => ?_
 refine rgend ?_
 refine wp_seq ?_
 refine rg ?_
 refine mv F rfl fun a F => ?_
 obtain ⟨x2, e3, h⟩ := Option.bind_eq_some_iff.1 h
 try dsimp only at h
 refine ls (call F Try.func79 (region_entry_ok (a0 := a4) (H) e3) rfl rfl fun v w hR a F => ?_)
 obtain ⟨rfl, H⟩ := hR
 refine qw F (r_not (F.t 14 rfl)) fun a F => ?_
 refine mv F rfl fun a F => ?_
 by_cases c4 : x2 = true
 ·rw [if_pos c4] at h
  rw [c4] at F
  refine qw F (r_fa (off := 0) (F.t 8 rfl) fa32_0) fun a F => ?_
  refine qw F (r_ld (F.t 17 rfl) (cel_cell (o := 0) (H.cell 0 rfl) rfl) one2) fun a F => ?_
  refine qw F (r_lt (F.t 18 rfl) (F.ev (x := .const (.int .i64 1)) rfl)) fun a F => ?_
  refine qw F (r_pickF (F.t 16 rfl) (F.t 19 rfl)) fun a F => ?_
  refine mv F rfl fun a F => ?_
  by_cases c5 : a3.Gen < 1
  ·rw [if_pos c5] at h
   rw [decide_eq_true c5] at F
   refine of_ F fun a F => ?_
   refine of_ F fun a F => ?_
   refine of_ F fun a F => ?_
   refine qw F (r_pickT (F.t 21 rfl) (F.ev (x := .const (.bool true)) rfl)) fun a F => ?_
   refine mv F rfl fun a F => ?_
   refine of_ F fun a F => ?_
   refine of_ F fun a F => ?_
   refine of_ F fun a F => ?_
   refine of_ F fun a F => ?_
   refine qw F (r_pickT (F.t 26 rfl) (F.ev (x := .const (.bool true)) rfl)) fun a F => ?_
   refine mv F rfl fun a F => ?_
   refine of_ F fun a F => ?_
   refine of_ F fun a F => ?_
   refine of_ F fun a F => ?_
   refine of_ F fun a F => ?_
   refine qw F (r_pickT (F.t 32 rfl) (F.ev (x := .const (.bool true)) rfl)) fun a F => ?_
   refine rgend ?_
   replace F := F.only [37, 8, 0, 1, 2, 4] (l' := [(37, .bool true), (8, .pointer (some ⟨g1, 0, none⟩)), (0, .pointer (some ⟨g0_, 0, none⟩)), (1, .int .i64 a1), (2, .int .i64 a2), (4, .slice A4_ a4.length c4_)]) rfl
   refine wp_cond_true (F.ev rfl) ?_
   refine rg ?_
   refine as_ F (v := .int .i64 1) rfl fun a F => ?_
   refine rgend ?_
   replace F := F.only [10] (l' := [(10, .int .i64 1)]) rfl
   refine wp_ret ?_
   try dsimp only at h
   obtain ⟨rfl, rfl⟩ := Prod.mk.inj (Option.some.inj h)
   exact RET _ _ (ret1 F rfl rfl ⟨_, rfl, rfl, H.px0.fx0⟩)
  ·rw [if_neg c5] at h
   rw [decide_eq_false c5] at F
   refine qw F (r_fa (off := 0) (F.t 8 rfl) fa32_0) fun a F => ?_
   refine qw F (r_ld (F.t 22 rfl) (cel_cell (o := 0) (H.cell 0 rfl) rfl) one2) fun a F => ?_
   refine qw F (r_gt (F.t 23 rfl) (F.ev (x := .const (.int .i64 281474976710656)) rfl)) fun a F => ?_
   refine qw F (r_pickF (F.t 21 rfl) (F.t 24 rfl)) fun a F => ?_
   refine mv F rfl fun a F => ?_
   by_cases c6 : a3.Gen > 281474976710656
   ·rw [if_pos c6] at h
    rw [decide_eq_true c6] at F
    refine of_ F fun a F => ?_
    refine of_ F fun a F => ?_
    refine of_ F fun a F => ?_
    refine of_ F fun a F => ?_
    refine qw F (r_pickT (F.t 26 rfl) (F.ev (x := .const (.bool true)) rfl)) fun a F => ?_
    refine mv F rfl fun a F => ?_
    refine of_ F fun a F => ?_
    refine of_ F fun a F => ?_
    refine of_ F fun a F => ?_
    refine of_ F fun a F => ?_
    refine qw F (r_pickT (F.t 32 rfl) (F.ev (x := .const (.bool true)) rfl)) fun a F => ?_
    refine rgend ?_
    replace F := F.only [37, 8, 0, 1, 2, 4] (l' := [(37, .bool true), (8, .pointer (some ⟨g1, 0, none⟩)), (0, .pointer (some ⟨g0_, 0, none⟩)), (1, .int .i64 a1), (2, .int .i64 a2), (4, .slice A4_ a4.length c4_)]) rfl
    refine wp_cond_true (F.ev rfl) ?_
    refine rg ?_
    refine as_ F (v := .int .i64 1) rfl fun a F => ?_
    refine rgend ?_
    replace F := F.only [10] (l' := [(10, .int .i64 1)]) rfl
    refine wp_ret ?_
    try dsimp only at h
    obtain ⟨rfl, rfl⟩ := Prod.mk.inj (Option.some.inj h)
    exact RET _ _ (ret1 F rfl rfl ⟨_, rfl, rfl, H.px0.fx0⟩)
   ·rw [if_neg c6] at h
    rw [decide_eq_false c6] at F
    refine qw F (r_fa (off := 1) (F.t 8 rfl) fa32_1) fun a F => ?_
    refine qw F (r_ld (F.t 27 rfl) (cel_cell (o := 1) (H.cell 0 rfl) rfl) one29) fun a F => ?_
    obtain ⟨x7, e8, h⟩ := Option.bind_eq_some_iff.1 h
    try dsimp only at h
    refine ls (call F Try.func78 (region_state_ok (a0 := a3.State) (H) e8) rfl rfl fun v w hR a F => ?_)
    obtain ⟨rfl, H⟩ := hR
    refine qw F (r_not (F.t 29 rfl)) fun a F => ?_
    refine qw F (r_pickF (F.t 26 rfl) (F.t 30 rfl)) fun a F => ?_
    refine mv F rfl fun a F => ?_
    by_cases c9 : x7 = true
    ·rw [if_pos c9] at h
     rw [c9] at F
     refine qw F (r_fa (off := 2) (F.t 8 rfl) fa32_2) fun a F => ?_
     refine qw F (r_ld (F.t 33 rfl) (cel_cell (o := 2) (H.cell 0 rfl) rfl) one30) fun a F => ?_
     refine qw F (r_len (F.t 34 rfl) Try.underlying30) fun a F => ?_
     refine qw F (r_gt (F.t 35 rfl) (F.ev (x := .const (.int .i64 1000)) rfl)) fun a F => ?_
     refine qw F (r_pickF (F.t 32 rfl) (F.t 36 rfl)) fun a F => ?_
     refine rgend ?_
     replace F := F.only [37, 8, 0, 1, 2, 4] (l' := [(37, .bool (decide ((a3.Kept.length : Int) > 1000))), (8, .pointer (some ⟨g1, 0, none⟩)), (0, .pointer (some ⟨g0_, 0, none⟩)), (1, .int .i64 a1), (2, .int .i64 a2), (4, .slice A4_ a4.length c4_)]) rfl
     by_cases c10 : (a3.Kept.length : Int) > 1000
     ·rw [if_pos c10] at h
      rw [decide_eq_true c10] at F
      refine wp_cond_true (F.ev rfl) ?_
      refine rg ?_
      refine as_ F (v := .int .i64 1) rfl fun a F => ?_
      refine rgend ?_
      replace F := F.only [10] (l' := [(10, .int .i64 1)]) rfl
      refine wp_ret ?_
      try dsimp only at h
      obtain ⟨rfl, rfl⟩ := Prod.mk.inj (Option.some.inj h)
      exact RET _ _ (ret1 F rfl rfl ⟨_, rfl, rfl, H.px0.fx0⟩)
     ·rw [if_neg c10] at h
      rw [decide_eq_false c10] at F
      refine wp_cond_false (F.ev rfl) ?_
      refine wp_skip ?_
      refine rg ?_
      refine qw F (r_fa (off := 1) (F.t 8 rfl) fa32_1) fun a F => ?_
      refine qw F (r_ld (F.t 38 rfl) (cel_cell (o := 1) (H.cell 0 rfl) rfl) one29) fun a F => ?_
      obtain ⟨x11, e12, h⟩ := Option.bind_eq_some_iff.1 h
      try dsimp only at h
      refine ls (call F Try.func80 (region_parts_ok (a0 := a3.State) (H) e12) rfl rfl fun v w hR a F => ?_)
      obtain ⟨rfl, H⟩ := hR
      refine as_ F rfl fun a F => ?_
      refine rgend ?_
      replace F := F.only [11, 8, 0, 1, 2, 4] (l' := [(11, .int .i64 x11), (8, .pointer (some ⟨g1, 0, none⟩)), (0, .pointer (some ⟨g0_, 0, none⟩)), (1, .int .i64 a1), (2, .int .i64 a2), (4, .slice A4_ a4.length c4_)]) rfl
      refine rg ?_
      refine mv F rfl fun a F => ?_
      refine qw F (r_fa (off := 2) (F.t 8 rfl) fa32_2) fun a F => ?_
      refine qw F (r_ld (F.t 42 rfl) (cel_cell (o := 2) (H.cell 0 rfl) rfl) one30) fun a F => ?_
      refine qw F (r_len (F.t 43 rfl) Try.underlying30) fun a F => ?_
      refine qw F (r_add (F.t 41 rfl) (F.t 44 rfl)) fun a F => ?_
      refine qw F (r_fa (off := 3) (F.t 8 rfl) fa32_3) fun a F => ?_
      refine qw F (r_ld (F.t 46 rfl) (cel_cell (o := 3) (H.cell 0 rfl) rfl) one30) fun a F => ?_
      refine qw F (r_len (F.t 47 rfl) Try.underlying30) fun a F => ?_
      refine qw F (r_add (F.t 45 rfl) (F.t 48 rfl)) fun a F => ?_
      refine as_ F rfl fun a F => ?_
      refine rgend ?_
      replace F := F.only [12, 11, 8, 0, 1, 2, 4] (l' := [(12, .int .i64 (IntKind.i64.wrap ((IntKind.i64.wrap (x11 + (a3.Kept.length : Int))) + (a3.More.length : Int)))), (11, .int .i64 x11), (8, .pointer (some ⟨g1, 0, none⟩)), (0, .pointer (some ⟨g0_, 0, none⟩)), (1, .int .i64 a1), (2, .int .i64 a2), (4, .slice A4_ a4.length c4_)]) rfl
      refine wp_seq ?_
      refine rg ?_
      refine mv F rfl fun a F => ?_
      refine mv F rfl fun a F => ?_
      refine qw F (r_ge (F.t 50 rfl) (F.t 51 rfl)) fun a F => ?_
      refine rgend ?_
      by_cases c13 : (IntKind.i64.wrap ((IntKind.i64.wrap (x11 + (a3.Kept.length : Int))) + (a3.More.length : Int))) ≥ a2
      ·rw [if_pos c13] at h
       rw [decide_eq_true c13] at F
       refine wp_cond_true (F.ev rfl) ?_
       refine rg ?_
       refine as_ F (v := .int .i64 5) rfl fun a F => ?_
       refine rgend ?_
       replace F := F.only [10] (l' := [(10, .int .i64 5)]) rfl
       refine wp_ret ?_
       try dsimp only at h
       obtain ⟨rfl, rfl⟩ := Prod.mk.inj (Option.some.inj h)
       exact RET _ _ (ret1 F rfl rfl ⟨_, rfl, rfl, H.px0.fx0⟩)
      ·rw [if_neg c13] at h
       rw [decide_eq_false c13] at F
       refine wp_cond_false (F.ev rfl) ?_
       refine wp_skip ?_
       refine rg ?_
       refine mv F rfl fun a F => ?_
       refine mv F rfl fun a F => ?_
       refine mv F rfl fun a F => ?_
       refine qw F (r_add (F.t 54 rfl) (F.t 55 rfl)) fun a F => ?_
       refine qw F (r_fa (off := 0) (F.t 8 rfl) fa32_0) fun a F => ?_
       refine qw F (r_ld (F.t 57 rfl) (cel_cell (o := 0) (H.cell 0 rfl) rfl) one2) fun a F => ?_
       refine mv F rfl fun a F => ?_
       refine mv F rfl fun a F => ?_
       refine qw F (r_fa (off := 2) (F.t 8 rfl) fa32_2) fun a F => ?_
       refine qw F (r_ld (F.t 61 rfl) (cel_cell (o := 2) (H.cell 0 rfl) rfl) one30) fun a F => ?_
       refine qw F (r_len (F.t 62 rfl) Try.underlying30) fun a F => ?_
       refine mv F rfl fun a F => ?_
       refine ls (lbd F (vs := [(0, .int .i64 a3.Gen), (1, .int .i64 (IntKind.i64.wrap ((IntKind.i64.wrap (x11 + (a3.Kept.length : Int))) + (a3.More.length : Int)))), (2, .int .i64 x11), (3, .int .i64 (a3.Kept.length : Int)), (4, .slice A4_ a4.length c4_)]) (cs := [.int .i64 a3.Gen, .int .i64 (IntKind.i64.wrap ((IntKind.i64.wrap (x11 + (a3.Kept.length : Int))) + (a3.More.length : Int))), .int .i64 x11, .int .i64 (a3.Kept.length : Int), .slice A4_ a4.length c4_]) rfl (fun w => by kernel_rfl) fun a F => ?_)
       obtain ⟨x14, e15, h⟩ := Option.bind_eq_some_iff.1 h
       try dsimp only at h
       refine ls (call F Try.func82 (sector_Put_ok (a0 := (⟨a3.Gen, IntKind.i64.wrap ((IntKind.i64.wrap (x11 + (a3.Kept.length : Int))) + (a3.More.length : Int)), x11, (a3.Kept.length : Int), a4⟩ : api_Sector)) (H.p0) e15) rfl rfl fun v w hR a F => ?_)
       obtain ⟨A16, c17, rfl, H⟩ := hR
       obtain ⟨⟨x18, x19⟩, e20, h⟩ := Option.bind_eq_some_iff.1 h
       try dsimp only at h
       refine ls (call F Try.func26 (disk_Disk_Write_ok (H.p0.f1) e20) rfl rfl fun v w hR a F => ?_)
       obtain ⟨rfl, H⟩ := hR
       refine as_ F rfl fun a F => ?_
       refine rgend ?_
       replace F := F.only [10] (l' := [(10, .int .i64 x18)]) rfl
       refine wp_ret ?_
       try dsimp only at h
       obtain ⟨rfl, rfl⟩ := Prod.mk.inj (Option.some.inj h)
       exact RET _ _ (ret1 F rfl rfl ⟨_, rfl, rfl, H.px1.px0.fx1⟩)
    ·rw [if_neg c9] at h
     rw [Bool.eq_false_iff.2 c9] at F
     refine of_ F fun a F => ?_
     refine of_ F fun a F => ?_
     refine of_ F fun a F => ?_
     refine of_ F fun a F => ?_
     refine qw F (r_pickT (F.t 32 rfl) (F.ev (x := .const (.bool true)) rfl)) fun a F => ?_
     refine rgend ?_
     replace F := F.only [37, 8, 0, 1, 2, 4] (l' := [(37, .bool true), (8, .pointer (some ⟨g1, 0, none⟩)), (0, .pointer (some ⟨g0_, 0, none⟩)), (1, .int .i64 a1), (2, .int .i64 a2), (4, .slice A4_ a4.length c4_)]) rfl
     refine wp_cond_true (F.ev rfl) ?_
     refine rg ?_
     refine as_ F (v := .int .i64 1) rfl fun a F => ?_
     refine rgend ?_
     replace F := F.only [10] (l' := [(10, .int .i64 1)]) rfl
     refine wp_ret ?_
     try dsimp only at h
     obtain ⟨rfl, rfl⟩ := Prod.mk.inj (Option.some.inj h)
     exact RET _ _ (ret1 F rfl rfl ⟨_, rfl, rfl, H.px0.fx0⟩)
 ·rw [if_neg c4] at h
  rw [Bool.eq_false_iff.2 c4] at F
  refine of_ F fun a F => ?_
  refine of_ F fun a F => ?_
  refine of_ F fun a F => ?_
  refine qw F (r_pickT (F.t 16 rfl) (F.ev (x := .const (.bool true)) rfl)) fun a F => ?_
  refine mv F rfl fun a F => ?_
  refine of_ F fun a F => ?_
  refine of_ F fun a F => ?_
  refine of_ F fun a F => ?_
  refine qw F (r_pickT (F.t 21 rfl) (F.ev (x := .const (.bool true)) rfl)) fun a F => ?_
  refine mv F rfl fun a F => ?_
  refine of_ F fun a F => ?_
  refine of_ F fun a F => ?_
  refine of_ F fun a F => ?_
  refine of_ F fun a F => ?_
  refine qw F (r_pickT (F.t 26 rfl) (F.ev (x := .const (.bool true)) rfl)) fun a F => ?_
  refine mv F rfl fun a F => ?_
  refine of_ F fun a F => ?_
  refine of_ F fun a F => ?_
  refine of_ F fun a F => ?_
  refine of_ F fun a F => ?_
  refine qw F (r_pickT (F.t 32 rfl) (F.ev (x := .const (.bool true)) rfl)) fun a F => ?_
  refine rgend ?_
  replace F := F.only [37, 8, 0, 1, 2, 4] (l' := [(37, .bool true), (8, .pointer (some ⟨g1, 0, none⟩)), (0, .pointer (some ⟨g0_, 0, none⟩)), (1, .int .i64 a1), (2, .int .i64 a2), (4, .slice A4_ a4.length c4_)]) rfl
  refine wp_cond_true (F.ev rfl) ?_
  refine rg ?_
  refine as_ F (v := .int .i64 1) rfl fun a F => ?_
  refine rgend ?_
  replace F := F.only [10] (l' := [(10, .int .i64 1)]) rfl
  refine wp_ret ?_
  try dsimp only at h
  obtain ⟨rfl, rfl⟩ := Prod.mk.inj (Option.some.inj h)
  exact RET _ _ (ret1 F rfl rfl ⟨_, rfl, rfl, H.px0.fx0⟩)
def ref17_SameRows_b0 (a0 : List (List Int)) (a1 : List (List Int)) : Int → Option (Int ⊕ (Unit ⊕ Bool))
 | x2 => (if x2 < (a0.length : Int) then (if 0 ≤ x2 ∧ x2 < (a0.length : Int) then (if 0 ≤ x2 ∧ x2 < (a1.length : Int) then (if (a0.getD (x2 : Int).toNat []) ≠ (a1.getD (x2 : Int).toNat []) then some (.inr (.inr false)) else some (.inl (IntKind.i64.wrap (x2 + 1)))) else none) else none) else some (.inr (.inl ())))
def ref17_SameRows_f (a0 : List (List Int)) (a1 : List (List Int)) : Option (Bool) :=
 (if (a0.length : Int) ≠ (a1.length : Int) then some false else ((lp (ref17_SameRows_b0 a0 a1) 0).bind fun q => match q with | .inl _ => some true | .inr r => some r))
set_option maxHeartbeats 4000000 in
set_option maxRecDepth 20000 in
theorem ref17_SameRows_ok {w0 w : World} {ps : List PF} {fs : List SF} {a0 : List (List Int)} {A0_ : Option Addr} {c0_ : Nat} {a1 : List (List Int)} {A1_ : Option Addr} {c1_ : Nat} {r0 : Bool} (H : Hp w0 (rd (kSlice kByte) A0_ c0_ a0 :: rd (kSlice kByte) A1_ c1_ a1 :: ps) fs w) (h : ref17_SameRows_f a0 a1 = some r0) :
  Calls Try.prog 19 [.slice A0_ a0.length c0_, .slice A1_ a1.length c1_].toArray w fun e w' => ∃ v, e = .returned v ∧ v = .bool r0 ∧ Hp w0 ps fs w' := by
 refine enter [.slice A0_ a0.length c0_, .slice A1_ a1.length c1_] 28 Try.func19 fun Q a NP RET NRM F => ?_
 replace NP : ∀ c a w, ¬ Q (.panic c) a w := fun c a w h => by rcases NP c a w h with h | ⟨w, v, h, _⟩ <;> cases h
 unfold ref17_SameRows_f at h
 refine rg ?_
 refine as_ F (v := .bool false) rfl fun a F => ?_
 refine rgend ?_
 refine wp_seq ?_
 refine rg ?_
 refine mv F rfl fun a F => ?_
 refine qw F (r_len (F.t 6 rfl) Try.underlying30) fun a F => ?_
 refine mv F rfl fun a F => ?_
 refine qw F (r_len (F.t 8 rfl) Try.underlying30) fun a F => ?_
 refine qw F (r_ne (F.t 7 rfl) (F.t 9 rfl)) fun a F => ?_
 refine rgend ?_
 replace F := F.only [10, 0, 1] (l' := [(10, .bool (decide ((a0.length : Int) ≠ (a1.length : Int)))), (0, .slice A0_ a0.length c0_), (1, .slice A1_ a1.length c1_)]) rfl
 by_cases c1 : (a0.length : Int) ≠ (a1.length : Int)
 ·rw [if_pos c1] at h
  rw [decide_eq_true c1] at F
  refine wp_cond_true (F.ev rfl) ?_
  refine rg ?_
  refine as_ F (v := .bool false) rfl fun a F => ?_
  refine rgend ?_
  refine wp_ret ?_
  try dsimp only at h
  obtain rfl := Option.some.inj h
  exact RET _ _ (ret1 F rfl rfl ⟨_, rfl, rfl, H.px1.px0⟩)
 ·rw [if_neg c1] at h
  rw [decide_eq_false c1] at F
  refine wp_cond_false (F.ev rfl) ?_
  refine wp_skip ?_
  refine wp_seq ?_
  refine rg ?_
  refine as_ F (v := .int .i64 0) rfl fun a F => ?_
  refine rgend ?_
  obtain ⟨o_2, k_2, h⟩ := Option.bind_eq_some_iff.1 h
  refine cut (fun a w => Sum.inl () = o_2 ∧ Fr 28 [] [] a ∧ Hp w0 ps fs w) (wp_block ?_) ?_
  ·refine wloop (ref17_SameRows_b0 a0 a1) (fun (s : Int) a w => Fr 28 [] [(0, .slice A0_ a0.length c0_), (1, .slice A1_ a1.length c1_), (5, .int .i64 s)] a ∧ Hp w0 (rd (kSlice kByte) A0_ c0_ a0 :: rd (kSlice kByte) A1_ c1_ a1 :: ps) fs w) k_2 ⟨F.only [0, 1, 5] rfl, H⟩ ?_
   rintro x2 a w q_2 j_2 u_2 ⟨F, H⟩
   unfold ref17_SameRows_b0 at j_2
   try dsimp only at j_2 F H
   refine wp_seq ?_
   refine rg ?_
   refine mv F rfl fun a F => ?_
   refine mv F rfl fun a F => ?_
   refine qw F (r_len (F.t 12 rfl) Try.underlying30) fun a F => ?_
   refine qw F (r_lt (F.t 11 rfl) (F.t 13 rfl)) fun a F => ?_
   refine rgend ?_
   by_cases c4 : x2 < (a0.length : Int)
   ·rw [if_pos c4] at j_2
    rw [decide_eq_true c4] at F
    refine wp_cond_true (F.ev rfl) ?_
    refine wp_skip ?_
    refine wp_seq ?_
    refine wp_block ?_
    refine wp_seq ?_
    replace H := H.drew
    have HS := H
    refine dr (fun w => Hp w0 (rd (kSlice kByte) A0_ c0_ a0 :: rd (kSlice kByte) A1_ c1_ a1 :: ps) fs w) _ (by kernel_rfl) ?_ (n := 11)
    refine dq 0 F rfl (by kernel_rfl) NP HS (fun w S => (r_mv (F.t 0 rfl))) fun a F => ?_
    refine dq 1 F rfl (by kernel_rfl) NP HS (fun w S => (r_mv (F.t 5 rfl))) fun a F => ?_
    obtain ⟨c5, j_2⟩ := guardO j_2
    obtain ⟨g6, o7, s8, hr, H⟩ := H.ix [] 0 rfl (F.t 17 rfl) (F.t 18 rfl) Try.underlying30 sz29 (by decide) c5.1 c5.2
    obtain ⟨A9, c10, rfl, H⟩ := H.says_slice 1 rfl
    have HS := H
    refine dmoreH HS (fun w S => S.px2.px1.px0) ?_
    refine dq 2 F rfl (by kernel_rfl) NP HS (fun w S => (hr _ _ _ _ _ _)) fun a F => ?_
    refine dq 3 F rfl (by kernel_rfl) NP HS (fun w S => (r_ld (F.t 19 rfl) (range_cell (j := 0) (S.range 1 rfl) rfl) one29)) fun a F => ?_
    have hb11 := H.bytes 0 rfl
    refine dq 4 F rfl (by kernel_rfl) NP HS (fun w S => (S.str 0 rfl (F.t 20 rfl) Try.underlying29 Try.underlying5 Try.underlying9)) fun a F => ?_
    refine dq 5 F rfl (by kernel_rfl) NP HS (fun w S => (r_mv (F.t 1 rfl))) fun a F => ?_
    refine dq 6 F rfl (by kernel_rfl) NP HS (fun w S => (r_mv (F.t 5 rfl))) fun a F => ?_
    obtain ⟨c12, j_2⟩ := guardO j_2
    obtain ⟨g13, o14, s15, hr, H⟩ := H.ix [] 4 rfl (F.t 22 rfl) (F.t 23 rfl) Try.underlying30 sz29 (by decide) c12.1 c12.2
    obtain ⟨A16, c17, rfl, H⟩ := H.says_slice 1 rfl
    have HS := H
    refine dmoreH HS (fun w S => S.px2.px1.px0) ?_
    refine dq 7 F rfl (by kernel_rfl) NP HS (fun w S => (hr _ _ _ _ _ _)) fun a F => ?_
    refine dq 8 F rfl (by kernel_rfl) NP HS (fun w S => (r_ld (F.t 24 rfl) (range_cell (j := 0) (S.range 1 rfl) rfl) one29)) fun a F => ?_
    have hb18 := H.bytes 0 rfl
    refine dq 9 F rfl (by kernel_rfl) NP HS (fun w S => (S.str 0 rfl (F.t 25 rfl) Try.underlying29 Try.underlying5 Try.underlying9)) fun a F => ?_
    refine dq 10 F rfl (by kernel_rfl) NP HS (fun w S => (r_sne (F.t 21 rfl) (F.t 26 rfl) hb11 hb18)) fun a F => ?_
    refine ddone (by kernel_rfl) ?_
    replace F := F.only [27, 0, 1, 5] (l' := [(27, .bool (decide ((a0.getD (x2 : Int).toNat []) ≠ (a1.getD (x2 : Int).toNat [])))), (0, .slice A0_ a0.length c0_), (1, .slice A1_ a1.length c1_), (5, .int .i64 x2)]) rfl
    by_cases c19 : (a0.getD (x2 : Int).toNat []) ≠ (a1.getD (x2 : Int).toNat [])
    ·rw [if_pos c19] at j_2
     rw [decide_eq_true c19] at F
     refine wp_cond_true (F.ev rfl) ?_
     refine rg ?_
     refine as_ F (v := .bool false) rfl fun a F => ?_
     refine rgend ?_
     replace F := F.only [4] (l' := [(4, .bool false)]) rfl
     refine wp_ret ?_
     try dsimp only at j_2
     obtain rfl := Option.some.inj j_2
     obtain rfl := u_2 _ rfl
     try dsimp only at h
     obtain rfl := Option.some.inj h
     exact RET _ _ (ret1 F rfl rfl ⟨_, rfl, rfl, H.px7.px6.px5.px4.px3.px2.px1.px0⟩)
    ·rw [if_neg c19] at j_2
     rw [decide_eq_false c19] at F
     refine wp_cond_false (F.ev rfl) ?_
     refine wp_skip ?_
     refine wp_region_lit ?_
     refine mv F rfl fun a F => ?_
     refine qw F (r_add (F.t 15 rfl) (F.ev (x := .const (.int .i64 1)) rfl)) fun a F => ?_
     refine as_ F rfl fun a F => ?_
     refine wpList_nil ?_
     replace F := F.only [5, 0, 1] (l' := [(5, .int .i64 (IntKind.i64.wrap (x2 + 1))), (0, .slice A0_ a0.length c0_), (1, .slice A1_ a1.length c1_)]) rfl
     try dsimp only at j_2
     obtain rfl := Option.some.inj j_2
     exact ⟨_, rfl, F.only [0, 1, 5] rfl, H.px5.px4.px3.px2.px1.px0⟩
   ·rw [if_neg c4] at j_2
    rw [decide_eq_false c4] at F
    refine wp_cond_false (F.ev rfl) ?_
    refine wp_exit ?_
    try dsimp only at j_2
    obtain rfl := Option.some.inj j_2
    obtain rfl := u_2 _ rfl
    repeat (with_reducible refine exT ?_)
    with_reducible refine exB ?_
    exact ⟨rfl, F.only [] rfl, H.px1.px0⟩
  ·rintro a w ⟨rfl, F, H⟩
   try dsimp only at h F H
   refine rg ?_
   refine as_ F (v := .bool true) rfl fun a F => ?_
   refine rgend ?_
   refine wp_ret ?_
   try dsimp only at h
   obtain rfl := Option.some.inj h
   exact RET _ _ (ret1 F rfl rfl ⟨_, rfl, rfl, H⟩)
def store_Open_b0 (a0 : disk_Disk) (x2 : Int) : (Int × store_Store) → Option (Int × store_Store ⊕ store_Store)
 | (x7, x8) => (if x7 < 2 then (if 0 ≤ x7 ∧ x7 < (([0, x2]).length : Int) then ((((disk_Disk_Sectors_f a0).bind fun x24 => some ((IntKind.i64.wrap (x24.tdiv 2)))) : Option (Int)).bind fun x16 => ((region_Read_f a0 ((([0, x2]).getD (x7 : Int).toNat 0)) x16).bind fun (x26, x27) => (((if x27 = true then (if x8.has_ = true then some ((decide (x26.Gen > x8.now.Gen))) else some true) else some false) : Option (Bool)).bind fun x36 => (((if x36 = true then some (((⟨x26, true, (([0, x2]).getD (x7 : Int).toNat 0), x8.begun, x8.broken⟩ : store_Store))) else some x8) : Option (store_Store)).bind fun x46 => some (.inl (IntKind.i64.wrap (x7 + 1), x46)))))) else none) else some (.inr x8))
def store_Open_f (a0 : disk_Disk) : Option (store_Store) :=
 ((((disk_Disk_Sectors_f a0).bind fun x4 => some ((IntKind.i64.wrap (x4.tdiv 2)))) : Option (Int)).bind fun x2 => ((lp (store_Open_b0 a0 x2) (0, (⟨⟨0, [], [], []⟩, false, 0, false, false⟩ : store_Store))).bind fun x9 => some x9))
set_option maxHeartbeats 4000000 in
set_option maxRecDepth 20000 in
theorem store_Open_ok {w0 w : World} {ps : List PF} {fs : List SF} {a0 : disk_Disk} {g0_ : Nat} {r0 : store_Store} (H : Hp w0 ps (obj_disk_Disk g0_ a0 :: fs) w) (h : store_Open_f a0 = some r0) :
  Calls Try.prog 13 [.pointer (some ⟨g0_, 0, none⟩)].toArray w fun e w' => ∃ v, e = .returned v ∧ ∃ (g0 : Nat), v = .pointer (some ⟨g0, 0, none⟩) ∧ Hp w0 ps (obj_store_Store g0 g0_ r0 :: obj_disk_Disk g0_ a0 :: fs) w' := by
 refine enter [.pointer (some ⟨g0_, 0, none⟩)] 58 Try.func13 fun Q a NP RET NRM F => ?_
 replace NP : ∀ c a w, ¬ Q (.panic c) a w := fun c a w h => by rcases NP c a w h with h | ⟨w, v, h, _⟩ <;> cases h
 unfold store_Open_f at h
 refine rg ?_
 refine as_ F (v := .pointer none) rfl fun a F => ?_
 refine rgend ?_
 refine rg ?_
 refine mv F rfl fun a F => ?_
 refine ls (lbd F (vs := [(0, .pointer (some ⟨g0_, 0, none⟩))]) (cs := [.pointer (some ⟨g0_, 0, none⟩), .int .i64 0, .slice none 0 0, .slice none 0 0, .slice none 0 0, .bool false, .int .i64 0, .bool false, .bool false]) rfl (fun w => by kernel_rfl) fun a F => ?_)
 refine ls (lbox F H rfl (cs := [.pointer (some ⟨g0_, 0, none⟩), .int .i64 0, .slice none 0 0, .slice none 0 0, .slice none 0 0, .bool false, .int .i64 0, .bool false, .bool false]) rfl fun g1 w a H F => ?_)
 refine as_ F rfl fun a F => ?_
 refine rgend ?_
 replace F := F.only [3, 0] (l' := [(3, .pointer (some ⟨g1, 0, none⟩)), (0, .pointer (some ⟨g0_, 0, none⟩))]) rfl
 refine wp_seq ?_
 refine rg ?_
 refine mv F rfl fun a F => ?_
 obtain ⟨o_2, k_2, h⟩ := Option.bind_eq_some_iff.1 h
 refine ls (call F Try.func36 (R := fun v w => ∃ (x2 : Int), x2 = o_2 ∧ v = .int .i64 x2 ∧ Hp w0 ps (obj_disk_Disk g0_ a0 :: obj_store_Store g1 g0_ (⟨⟨0, [], [], []⟩, false, 0, false, false⟩ : store_Store) :: fs) w) (args := [.pointer (some ⟨g1, 0, none⟩)]) (cap := []) ?_ rfl rfl ?_)
 ·refine enter [.pointer (some ⟨g1, 0, none⟩)] 9 Try.func36 fun Q a NP RET NRM F => ?_
  replace NP : ∀ c a w, ¬ Q (.panic c) a w := fun c a w h => by rcases NP c a w h with h | ⟨w, v, h, _⟩ <;> cases h
  refine rg ?_
  refine as_ F (v := .int .i64 0) rfl fun a F => ?_
  refine rgend ?_
  refine rg ?_
  refine mv F rfl fun a F => ?_
  refine qw F (r_nc (F.t 3 rfl)) fun a F => ?_
  refine qw F (r_fa (off := 0) (F.t 4 rfl) fa73_0) fun a F => ?_
  refine qw F (r_ld (F.t 5 rfl) (cel_cell (o := 0) (H.cell 0 rfl) rfl) one24) fun a F => ?_
  obtain ⟨x4, e5, k_2⟩ := Option.bind_eq_some_iff.1 k_2
  try dsimp only at k_2
  refine ls (call F Try.func76 (disk_Disk_Sectors_ok (H.f1) e5) rfl rfl fun v w hR a F => ?_)
  obtain ⟨rfl, H⟩ := hR
  refine qw F (r_quo (F.t 7 rfl) (F.ev (x := .const (.int .i64 2)) rfl) (by decide)) fun a F => ?_
  refine as_ F rfl fun a F => ?_
  refine rgend ?_
  replace F := F.only [2] (l' := [(2, .int .i64 (IntKind.i64.wrap (x4.tdiv 2)))]) rfl
  refine wp_ret ?_
  replace H := H.nilRd kByte
  replace H := H.nilRd (kSlice kByte)
  replace H := H.nilOwn (kSlice kByte) 29
  replace H := Hp.closeO_store_Store (x := (⟨⟨0, [], [], []⟩, false, 0, false, false⟩ : store_Store)) (H.f1.f1.f2) 1 rfl 0 rfl
  try dsimp only at k_2
  obtain rfl := Option.some.inj k_2
  exact RET _ _ (ret1 F rfl rfl ⟨_, rfl, _, rfl, rfl, H.px1.px0.f1⟩)
 ·rintro v w ⟨x2, rfl, rfl, H⟩ a F
  try dsimp only at h F H
  refine ls (lbs F H (e := 3) (vs := [(0, .int .i64 0), (1, .int .i64 x2)]) (cs := [.int .i64 0, .int .i64 x2]) rfl (fun w => by kernel_rfl) fun g6 w a H F => ?_)
  refine qw F (r_len (F.t 13 rfl) Try.underlying74) fun a F => ?_
  refine mv F (v := .int .i64 0) rfl fun a F => ?_
  refine rgend ?_
  replace H := Hp.litRd (kd := (kInt .i64)) (xs := [0, x2]) (H) ((SayL.cons (kd := (kInt .i64)) (c1 := [.int .i64 0]) (y := 0) (fun Z hp => rfl) (SayL.cons (kd := (kInt .i64)) (c1 := [.int .i64 x2]) (y := x2) (fun Z hp => rfl) SayL.nil))) (Nat.le_of_ble_eq_true rfl)
  obtain ⟨o_9, k_9, h⟩ := Option.bind_eq_some_iff.1 h
  refine cut (fun a w => ∃ (x9 : store_Store), x9 = o_9 ∧ Fr 58 [] [(3, .pointer (some ⟨g1, 0, none⟩))] a ∧ Hp w0 ps (obj_disk_Disk g0_ a0 :: obj_store_Store g1 g0_ x9 :: fs) w) (wp_block ?_) ?_
  ·refine wloop (store_Open_b0 a0 x2) (fun (s : Int × store_Store) a w => Fr 58 [] [(0, .pointer (some ⟨g0_, 0, none⟩)), (3, .pointer (some ⟨g1, 0, none⟩)), (13, .slice (some ⟨g6, 0, none⟩) 2 2), (14, .int .i64 2), (15, .int .i64 s.1)] a ∧ Hp w0 (rd (kInt .i64) (some ⟨g6, 0, none⟩) 2 ([0, x2]) :: ps) (obj_disk_Disk g0_ a0 :: obj_store_Store g1 g0_ s.2 :: fs) w) k_9 ⟨F.only [0, 3, 13, 14, 15] rfl, H⟩ ?_
   rintro ⟨x7, x8⟩ a w q_9 j_9 u_9 ⟨F, H⟩
   unfold store_Open_b0 at j_9
   try dsimp only at j_9 F H
   refine rg ?_
   refine qw F (r_lt (F.t 15 rfl) (F.t 14 rfl)) fun a F => ?_
   refine rgend ?_
   refine wp_seq ?_
   by_cases c11 : x7 < 2
   ·rw [if_pos c11] at j_9
    rw [decide_eq_true c11] at F
    refine wp_cond_true (F.ev rfl) ?_
    refine wp_skip ?_
    refine wp_seq ?_
    refine wp_block ?_
    refine rg ?_
    obtain ⟨c12, j_9⟩ := guardO j_9
    obtain ⟨g13, o14, s15, hr, H⟩ := H.ix 0 0 rfl (F.t 13 rfl) (F.t 15 rfl) Try.underlying74 sz3 (by decide) c12.1 c12.2
    obtain rfl := H.says_int 1 rfl
    refine qw F (hr _ _ _ _ _ _) fun a F => ?_
    refine qw F (r_ld (F.t 17 rfl) (range_cell (j := 0) (H.range 0 rfl) rfl) one3) fun a F => ?_
    refine as_ F rfl fun a F => ?_
    refine rgend ?_
    refine rg ?_
    refine mv F rfl fun a F => ?_
    refine mv F rfl fun a F => ?_
    refine mv F rfl fun a F => ?_
    obtain ⟨o_16, k_16, j_9⟩ := Option.bind_eq_some_iff.1 j_9
    refine ls (call F Try.func36 (R := fun v w => ∃ (x16 : Int), x16 = o_16 ∧ v = .int .i64 x16 ∧ Hp w0 (rd (kInt .i64) (some ⟨g6, 0, none⟩) 2 ([0, x2]) :: ps) (obj_disk_Disk g0_ a0 :: obj_store_Store g1 g0_ x8 :: fs) w) (args := [.pointer (some ⟨g1, 0, none⟩)]) (cap := []) ?_ rfl rfl ?_)
    ·refine enter [.pointer (some ⟨g1, 0, none⟩)] 9 Try.func36 fun Q a NP RET NRM F => ?_
     replace NP : ∀ c a w, ¬ Q (.panic c) a w := fun c a w h => by rcases NP c a w h with h | ⟨w, v, h, _⟩ <;> cases h
     refine rg ?_
     refine as_ F (v := .int .i64 0) rfl fun a F => ?_
     refine rgend ?_
     refine rg ?_
     refine mv F rfl fun a F => ?_
     refine qw F (r_nc (F.t 3 rfl)) fun a F => ?_
     refine qw F (r_fa (off := 0) (F.t 4 rfl) fa73_0) fun a F => ?_
     obtain ⟨A18, c19, A20, c21, A22, c23, H⟩ := Hp.openO_store_Store (H.f1)
     refine qw F (r_ld (F.t 5 rfl) (cel_cell (o := 0) (H.cell 0 rfl) rfl) one24) fun a F => ?_
     obtain ⟨x24, e25, k_16⟩ := Option.bind_eq_some_iff.1 k_16
     try dsimp only at k_16
     refine ls (call F Try.func76 (disk_Disk_Sectors_ok (H.f1.f1.f2) e25) rfl rfl fun v w hR a F => ?_)
     obtain ⟨rfl, H⟩ := hR
     refine qw F (r_quo (F.t 7 rfl) (F.ev (x := .const (.int .i64 2)) rfl) (by decide)) fun a F => ?_
     refine as_ F rfl fun a F => ?_
     refine rgend ?_
     replace F := F.only [2] (l' := [(2, .int .i64 (IntKind.i64.wrap (x24.tdiv 2)))]) rfl
     refine wp_ret ?_
     replace H := Hp.closeO_store_Store (x := x8) (H.f2.f2) 0 rfl 1 rfl
     try dsimp only at k_16
     obtain rfl := Option.some.inj k_16
     exact RET _ _ (ret1 F rfl rfl ⟨_, rfl, _, rfl, rfl, H.px3.px2.px1.px0.f1⟩)
    ·rintro v w ⟨x16, rfl, rfl, H⟩ a F
     try dsimp only at j_9 F H
     obtain ⟨⟨x26, x27⟩, e28, j_9⟩ := Option.bind_eq_some_iff.1 j_9
     try dsimp only at j_9
     refine ls (call F Try.func37 (region_Read_ok (H) e28) rfl rfl fun v w hR a F => ?_)
     obtain ⟨A29, c30, A31, c32, A33, c34, rfl, H⟩ := hR
     refine mv F rfl fun a F => ?_
     refine qw F (r_ex (F.t 19 rfl) rfl) fun a F => ?_
     refine qw F (r_ex (F.t 19 rfl) rfl) fun a F => ?_
     refine ls (lal F H ti32 (cs := [.int .i64 0, .slice none 0 0, .slice none 0 0, .slice none 0 0]) rfl fun g35 w a H F => ?_)
     obtain ⟨_, hr, H⟩ := Hp.store (t := 32) (o := 0) (n := 4) (vs := [.int .i64 x26.Gen, .slice A29 x26.State.length c30, .slice A31 x26.Kept.length c32, .slice A33 x26.More.length c34]) (cs' := [.int .i64 x26.Gen, .slice A29 x26.State.length c30, .slice A31 x26.Kept.length c32, .slice A33 x26.More.length c34]) (H) (F.t 6 rfl) (F.t 25 rfl) rfl sz32 rfl (Nat.le_of_ble_eq_true rfl) rfl rfl
     refine ls (qn F (.inl rfl) (hr _ _ _ _) fun a F => ?_)
     refine as_ F rfl fun a F => ?_
     refine rgend ?_
     replace F := F.only [7, 6, 5, 0, 3, 13, 14, 15] (l' := [(7, .bool x27), (6, .pointer (some ⟨g35, 0, none⟩)), (5, .int .i64 ((([0, x2]).getD (x7 : Int).toNat 0))), (0, .pointer (some ⟨g0_, 0, none⟩)), (3, .pointer (some ⟨g1, 0, none⟩)), (13, .slice (some ⟨g6, 0, none⟩) 2 2), (14, .int .i64 2), (15, .int .i64 x7)]) rfl
     refine wp_seq ?_
     obtain ⟨o_36, k_36, j_9⟩ := Option.bind_eq_some_iff.1 j_9
     refine cut (fun a w => ∃ (x36 : Bool), x36 = o_36 ∧ Fr 58 [] [(0, .pointer (some ⟨g0_, 0, none⟩)), (3, .pointer (some ⟨g1, 0, none⟩)), (5, .int .i64 ((([0, x2]).getD (x7 : Int).toNat 0))), (6, .pointer (some ⟨g35, 0, none⟩)), (13, .slice (some ⟨g6, 0, none⟩) 2 2), (14, .int .i64 2), (15, .int .i64 x7), (44, .bool x36)] a ∧ Hp w0 (rd (kInt .i64) (some ⟨g6, 0, none⟩) 2 ([0, x2]) :: rd kByte A29 c30 x26.State :: rd (kSlice kByte) A31 c32 x26.Kept :: ps) (own (kSlice kByte) 29 A33 c34 x26.More :: obj_disk_Disk g0_ a0 :: obj_store_Store g1 g0_ x8 :: cel g35 [.int .i64 x26.Gen, .slice A29 x26.State.length c30, .slice A31 x26.Kept.length c32, .slice A33 x26.More.length c34] 32 :: fs) w) ?_ ?_
     ·skip
      obtain ⟨A38, c39, A40, c41, A42, c43, H⟩ := Hp.openO_store_Store (H.f2.f2.f2.f3)
      replace H := H.drew
      have HS := H.fx4.fx3.fx1
      refine dr (fun w => Hp w0 (rd kByte A38 c39 x8.now.State :: rd (kSlice kByte) A40 c41 x8.now.Kept :: rd kByte A29 c30 x26.State :: rd (kSlice kByte) A31 c32 x26.Kept :: rd (kInt .i64) (some ⟨g6, 0, none⟩) 2 ([0, x2]) :: ps) (cel g1 [.pointer (some ⟨g0_, 0, none⟩), .int .i64 x8.now.Gen, .slice A38 x8.now.State.length c39, .slice A40 x8.now.Kept.length c41, .slice A42 x8.now.More.length c43, .bool x8.has_, .int .i64 x8.from_, .bool x8.begun, .bool x8.broken] 73 :: cel g35 [.int .i64 x26.Gen, .slice A29 x26.State.length c30, .slice A31 x26.Kept.length c32, .slice A33 x26.More.length c34] 32 :: fs) w) _ (by kernel_rfl) ?_ (n := 18)
      refine dq 0 F rfl (by kernel_rfl) NP HS (fun w S => (r_mv (F.t 7 rfl))) fun a F => ?_
      refine dq 1 F rfl (by kernel_rfl) NP HS (fun w S => (r_mv (F.t 27 rfl))) fun a F => ?_
      by_cases c44 : x27 = true
      ·rw [if_pos c44] at k_36
       rw [c44] at F
       refine dq 2 F rfl (by kernel_rfl) NP HS (fun w S => (r_mv (F.t 3 rfl))) fun a F => ?_
       refine dq 3 F rfl (by kernel_rfl) NP HS (fun w S => (r_nc (F.t 29 rfl))) fun a F => ?_
       refine dq 4 F rfl (by kernel_rfl) NP HS (fun w S => (r_fa (off := 5) (F.t 30 rfl) fa73_2)) fun a F => ?_
       refine dq 5 F rfl (by kernel_rfl) NP HS (fun w S => (r_ld (F.t 31 rfl) (cel_cell (o := 5) (S.cell 0 rfl) rfl) one4)) fun a F => ?_
       refine dq 6 F rfl (by kernel_rfl) NP HS (fun w S => (r_not (F.t 32 rfl))) fun a F => ?_
       refine dq 7 F rfl (by kernel_rfl) NP HS (fun w S => (r_mv (F.t 33 rfl))) fun a F => ?_
       by_cases c45 : x8.has_ = true
       ·rw [if_pos c45] at k_36
        rw [c45] at F
        refine dq 8 F rfl (by kernel_rfl) NP HS (fun w S => (r_fa (off := 0) (F.t 6 rfl) fa32_0)) fun a F => ?_
        refine dq 9 F rfl (by kernel_rfl) NP HS (fun w S => (r_ld (F.t 35 rfl) (cel_cell (o := 0) (S.cell 1 rfl) rfl) one2)) fun a F => ?_
        refine dq 10 F rfl (by kernel_rfl) NP HS (fun w S => (r_mv (F.t 3 rfl))) fun a F => ?_
        refine dq 11 F rfl (by kernel_rfl) NP HS (fun w S => (r_nc (F.t 37 rfl))) fun a F => ?_
        refine dq 12 F rfl (by kernel_rfl) NP HS (fun w S => (r_fa (off := 1) (F.t 38 rfl) fa73_1)) fun a F => ?_
        refine dq 13 F rfl (by kernel_rfl) NP HS (fun w S => (r_fa (off := 0) (F.t 39 rfl) fa32_0)) fun a F => ?_
        refine dq 14 F rfl (by kernel_rfl) NP HS (fun w S => (r_ld (F.t 40 rfl) (cel_cell (o := 1) (S.cell 0 rfl) rfl) one2)) fun a F => ?_
        refine dq 15 F rfl (by kernel_rfl) NP HS (fun w S => (r_gt (F.t 36 rfl) (F.t 41 rfl))) fun a F => ?_
        refine dq 16 F rfl (by kernel_rfl) NP HS (fun w S => (r_pickF (F.t 34 rfl) (F.t 42 rfl))) fun a F => ?_
        refine dq 17 F rfl (by kernel_rfl) NP HS (fun w S => (r_pickT (F.t 28 rfl) (F.t 43 rfl))) fun a F => ?_
        refine ddone (by kernel_rfl) ?_
        replace F := F.only [44, 6, 5, 0, 3, 13, 14, 15] (l' := [(44, .bool (decide (x26.Gen > x8.now.Gen))), (6, .pointer (some ⟨g35, 0, none⟩)), (5, .int .i64 ((([0, x2]).getD (x7 : Int).toNat 0))), (0, .pointer (some ⟨g0_, 0, none⟩)), (3, .pointer (some ⟨g1, 0, none⟩)), (13, .slice (some ⟨g6, 0, none⟩) 2 2), (14, .int .i64 2), (15, .int .i64 x7)]) rfl
        replace H := Hp.closeO_store_Store (x := x8) (H) 0 rfl 1 rfl
        try dsimp only at k_36
        obtain rfl := Option.some.inj k_36
        exact ⟨_, rfl, F.only [0, 3, 5, 6, 13, 14, 15, 44] rfl, H.p3.p3.p6.px3.px3.px3.px3.px3.f1.f1.f3.f3⟩
       ·rw [if_neg c45] at k_36
        rw [Bool.eq_false_iff.2 c45] at F
        refine doff 8 F rfl (by kernel_rfl) NP HS fun a F => ?_
        refine doff 9 F rfl (by kernel_rfl) NP HS fun a F => ?_
        refine doff 10 F rfl (by kernel_rfl) NP HS fun a F => ?_
        refine doff 11 F rfl (by kernel_rfl) NP HS fun a F => ?_
        refine doff 12 F rfl (by kernel_rfl) NP HS fun a F => ?_
        refine doff 13 F rfl (by kernel_rfl) NP HS fun a F => ?_
        refine doff 14 F rfl (by kernel_rfl) NP HS fun a F => ?_
        refine doff 15 F rfl (by kernel_rfl) NP HS fun a F => ?_
        refine dq 16 F rfl (by kernel_rfl) NP HS (fun w S => (r_pickT (F.t 34 rfl) (F.ev (x := .const (.bool true)) rfl))) fun a F => ?_
        refine dq 17 F rfl (by kernel_rfl) NP HS (fun w S => (r_pickT (F.t 28 rfl) (F.t 43 rfl))) fun a F => ?_
        refine ddone (by kernel_rfl) ?_
        replace F := F.only [44, 6, 5, 0, 3, 13, 14, 15] (l' := [(44, .bool true), (6, .pointer (some ⟨g35, 0, none⟩)), (5, .int .i64 ((([0, x2]).getD (x7 : Int).toNat 0))), (0, .pointer (some ⟨g0_, 0, none⟩)), (3, .pointer (some ⟨g1, 0, none⟩)), (13, .slice (some ⟨g6, 0, none⟩) 2 2), (14, .int .i64 2), (15, .int .i64 x7)]) rfl
        replace H := Hp.closeO_store_Store (x := x8) (H) 0 rfl 1 rfl
        try dsimp only at k_36
        obtain rfl := Option.some.inj k_36
        exact ⟨_, rfl, F.only [0, 3, 5, 6, 13, 14, 15, 44] rfl, H.p3.p3.p6.px3.px3.px3.px3.px3.f1.f1.f3.f3⟩
      ·rw [if_neg c44] at k_36
       rw [Bool.eq_false_iff.2 c44] at F
       refine doff 2 F rfl (by kernel_rfl) NP HS fun a F => ?_
       refine doff 3 F rfl (by kernel_rfl) NP HS fun a F => ?_
       refine doff 4 F rfl (by kernel_rfl) NP HS fun a F => ?_
       refine doff 5 F rfl (by kernel_rfl) NP HS fun a F => ?_
       refine doff 6 F rfl (by kernel_rfl) NP HS fun a F => ?_
       refine doff 7 F rfl (by kernel_rfl) NP HS fun a F => ?_
       refine doff 8 F rfl (by kernel_rfl) NP HS fun a F => ?_
       refine doff 9 F rfl (by kernel_rfl) NP HS fun a F => ?_
       refine doff 10 F rfl (by kernel_rfl) NP HS fun a F => ?_
       refine doff 11 F rfl (by kernel_rfl) NP HS fun a F => ?_
       refine doff 12 F rfl (by kernel_rfl) NP HS fun a F => ?_
       refine doff 13 F rfl (by kernel_rfl) NP HS fun a F => ?_
       refine doff 14 F rfl (by kernel_rfl) NP HS fun a F => ?_
       refine doff 15 F rfl (by kernel_rfl) NP HS fun a F => ?_
       refine doff 16 F rfl (by kernel_rfl) NP HS fun a F => ?_
       refine dq 17 F rfl (by kernel_rfl) NP HS (fun w S => (r_pickF (F.t 28 rfl) (F.ev (x := .const (.bool false)) rfl))) fun a F => ?_
       refine ddone (by kernel_rfl) ?_
       replace F := F.only [44, 6, 5, 0, 3, 13, 14, 15] (l' := [(44, .bool false), (6, .pointer (some ⟨g35, 0, none⟩)), (5, .int .i64 ((([0, x2]).getD (x7 : Int).toNat 0))), (0, .pointer (some ⟨g0_, 0, none⟩)), (3, .pointer (some ⟨g1, 0, none⟩)), (13, .slice (some ⟨g6, 0, none⟩) 2 2), (14, .int .i64 2), (15, .int .i64 x7)]) rfl
       replace H := Hp.closeO_store_Store (x := x8) (H) 0 rfl 1 rfl
       try dsimp only at k_36
       obtain rfl := Option.some.inj k_36
       exact ⟨_, rfl, F.only [0, 3, 5, 6, 13, 14, 15, 44] rfl, H.p3.p3.p6.px3.px3.px3.px3.px3.f1.f1.f3.f3⟩
     ·rintro a w ⟨x36, rfl, F, H⟩
      try dsimp only at j_9 F H
      obtain ⟨o_46, k_46, j_9⟩ := Option.bind_eq_some_iff.1 j_9
      refine cut (fun a w => ∃ (x46 : store_Store), x46 = o_46 ∧ Fr 58 [] [(0, .pointer (some ⟨g0_, 0, none⟩)), (3, .pointer (some ⟨g1, 0, none⟩)), (13, .slice (some ⟨g6, 0, none⟩) 2 2), (14, .int .i64 2), (15, .int .i64 x7)] a ∧ Hp w0 (rd (kInt .i64) (some ⟨g6, 0, none⟩) 2 ([0, x2]) :: ps) (obj_disk_Disk g0_ a0 :: obj_store_Store g1 g0_ x46 :: fs) w) ?_ ?_
      ·skip
       by_cases c48 : x36 = true
       ·rw [if_pos c48] at k_46
        rw [c48] at F
        refine wp_cond_true (F.ev rfl) ?_
        refine wp_region_lit ?_
        refine mv F rfl fun a F => ?_
        refine mv F rfl fun a F => ?_
        refine mv F rfl fun a F => ?_
        refine qw F (r_ldA (F.t 6 rfl) (cel_range (o := 0) (n := 4) (vs := [.int .i64 x26.Gen, .slice A29 x26.State.length c30, .slice A31 x26.Kept.length c32, .slice A33 x26.More.length c34]) (H.cell 3 rfl) rfl) agg32 rfl) fun a F => ?_
        refine mv F rfl fun a F => ?_
        refine qw F (r_nc (F.t 45 rfl)) fun a F => ?_
        refine qw F (r_fa (off := 1) (F.t 50 rfl) fa73_1) fun a F => ?_
        obtain ⟨A49, c50, A51, c52, A53, c54, H⟩ := Hp.openO_store_Store (H.f3.f2.f2.f3)
        obtain ⟨_, hr, H⟩ := Hp.store (t := 32) (o := 1) (n := 4) (vs := [.int .i64 x26.Gen, .slice A29 x26.State.length c30, .slice A31 x26.Kept.length c32, .slice A33 x26.More.length c34]) (cs' := [.pointer (some ⟨g0_, 0, none⟩), .int .i64 x26.Gen, .slice A29 x26.State.length c30, .slice A31 x26.Kept.length c32, .slice A33 x26.More.length c34, .bool x8.has_, .int .i64 x8.from_, .bool x8.begun, .bool x8.broken]) (H) (F.t 51 rfl) (F.t 48 rfl) rfl sz32 rfl (Nat.le_of_ble_eq_true rfl) rfl rfl
        refine ls (qn F (.inl rfl) (hr _ _ _ _) fun a F => ?_)
        refine qw F (r_nc (F.t 46 rfl)) fun a F => ?_
        refine qw F (r_fa (off := 5) (F.t 52 rfl) fa73_2) fun a F => ?_
        obtain ⟨_, hr, H⟩ := Hp.store (t := 4) (o := 5) (n := 1) (vs := [.bool true]) (cs' := [.pointer (some ⟨g0_, 0, none⟩), .int .i64 x26.Gen, .slice A29 x26.State.length c30, .slice A31 x26.Kept.length c32, .slice A33 x26.More.length c34, .bool true, .int .i64 x8.from_, .bool x8.begun, .bool x8.broken]) (H) (F.t 53 rfl) (F.ev (x := .const (.bool true)) rfl) rfl sz4 rfl (Nat.le_of_ble_eq_true rfl) rfl rfl
        refine ls (qn F (.inl rfl) (hr _ _ _ _) fun a F => ?_)
        refine qw F (r_nc (F.t 47 rfl)) fun a F => ?_
        refine qw F (r_fa (off := 6) (F.t 54 rfl) fa73_3) fun a F => ?_
        obtain ⟨_, hr, H⟩ := Hp.store (t := 3) (o := 6) (n := 1) (vs := [.int .i64 ((([0, x2]).getD (x7 : Int).toNat 0))]) (cs' := [.pointer (some ⟨g0_, 0, none⟩), .int .i64 x26.Gen, .slice A29 x26.State.length c30, .slice A31 x26.Kept.length c32, .slice A33 x26.More.length c34, .bool true, .int .i64 ((([0, x2]).getD (x7 : Int).toNat 0)), .bool x8.begun, .bool x8.broken]) (H) (F.t 55 rfl) (F.t 49 rfl) rfl sz3 rfl (Nat.le_of_ble_eq_true rfl) rfl rfl
        refine ls (qn F (.inl rfl) (hr _ _ _ _) fun a F => ?_)
        refine wpList_nil ?_
        replace F := F.only [0, 3, 13, 14, 15] (l' := [(0, .pointer (some ⟨g0_, 0, none⟩)), (3, .pointer (some ⟨g1, 0, none⟩)), (13, .slice (some ⟨g6, 0, none⟩) 2 2), (14, .int .i64 2), (15, .int .i64 x7)]) rfl
        replace H := Hp.closeO_store_Store (x := (⟨x26, true, (([0, x2]).getD (x7 : Int).toNat 0), x8.begun, x8.broken⟩ : store_Store)) (H.f4.f4.f3.f4.f4) 3 rfl 4 rfl
        try dsimp only at k_46
        obtain rfl := Option.some.inj k_46
        exact ⟨_, rfl, F.only [0, 3, 13, 14, 15] rfl, H.px4.px3.px1.px0.f2.fx3.fx2⟩
       ·rw [if_neg c48] at k_46
        rw [Bool.eq_false_iff.2 c48] at F
        refine wp_cond_false (F.ev rfl) ?_
        refine wp_skip ?_
        try dsimp only at k_46
        obtain rfl := Option.some.inj k_46
        exact ⟨_, rfl, F.only [0, 3, 13, 14, 15] rfl, H.px2.px1.fx3.fx0⟩
      ·rintro a w ⟨x46, rfl, F, H⟩
       try dsimp only at j_9 F H
       refine wp_region_lit ?_
       refine qw F (r_add (F.t 15 rfl) (F.ev (x := .const (.int .i64 1)) rfl)) fun a F => ?_
       refine mv F rfl fun a F => ?_
       refine wpList_nil ?_
       try dsimp only at j_9
       obtain rfl := Option.some.inj j_9
       exact ⟨_, rfl, F.only [0, 3, 13, 14, 15] rfl, H⟩
   ·rw [if_neg c11] at j_9
    rw [decide_eq_false c11] at F
    refine wp_cond_false (F.ev rfl) ?_
    refine wp_exit ?_
    try dsimp only at j_9
    obtain rfl := Option.some.inj j_9
    obtain rfl := u_9 _ rfl
    repeat (with_reducible refine exT ?_)
    with_reducible refine exB ?_
    exact ⟨_, rfl, F.only [3] rfl, H.px0⟩
  ·rintro a w ⟨x9, rfl, F, H⟩
   try dsimp only at h F H
   refine rg ?_
   refine mv F rfl fun a F => ?_
   refine as_ F rfl fun a F => ?_
   refine rgend ?_
   refine wp_ret ?_
   try dsimp only at h
   obtain rfl := Option.some.inj h
   exact RET _ _ (ret1 F rfl rfl ⟨_, rfl, g1, rfl, H.f1⟩)
def store_Store_Has_f (a0 : store_Store) : Option (Bool) :=
 some a0.has_
set_option maxHeartbeats 4000000 in
set_option maxRecDepth 20000 in
theorem store_Store_Has_ok {w0 w : World} {ps : List PF} {fs : List SF} {a0 : store_Store} {g0_ : Nat} {gx_ : Nat} {r0 : Bool} (H : Hp w0 ps (obj_store_Store g0_ gx_ a0 :: fs) w) (h : store_Store_Has_f a0 = some r0) :
  Calls Try.prog 16 [.pointer (some ⟨g0_, 0, none⟩)].toArray w fun e w' => ∃ v, e = .returned v ∧ v = .bool r0 ∧ Hp w0 ps (obj_store_Store g0_ gx_ a0 :: fs) w' := by
 refine enter [.pointer (some ⟨g0_, 0, none⟩)] 7 Try.func16 fun Q a NP RET NRM F => ?_
 replace NP : ∀ c a w, ¬ Q (.panic c) a w := fun c a w h => by rcases NP c a w h with h | ⟨w, v, h, _⟩ <;> cases h
 unfold store_Store_Has_f at h
 refine rg ?_
 refine as_ F (v := .bool false) rfl fun a F => ?_
 refine rgend ?_
 refine rg ?_
 refine mv F rfl fun a F => ?_
 refine qw F (r_nc (F.t 3 rfl)) fun a F => ?_
 refine qw F (r_fa (off := 5) (F.t 4 rfl) fa73_2) fun a F => ?_
 obtain ⟨A1, c2, A3, c4, A5, c6, H⟩ := Hp.openO_store_Store (H)
 refine qw F (r_ld (F.t 5 rfl) (cel_cell (o := 5) (H.cell 0 rfl) rfl) one4) fun a F => ?_
 refine as_ F rfl fun a F => ?_
 refine rgend ?_
 replace F := F.only [2] (l' := [(2, .bool a0.has_)]) rfl
 refine wp_ret ?_
 replace H := Hp.closeO_store_Store (x := a0) (H) 0 rfl 1 rfl
 try dsimp only at h
 obtain rfl := Option.some.inj h
 exact RET _ _ (ret1 F rfl rfl ⟨_, rfl, rfl, H.px1.px0⟩)
end Go.Proofs.Ytpmkpiffbdcflaa
