/- What the functions compute. Printed by wip/gen. -/
import Derived.Test.YtpijdclonniibaaArrB
import Derived.Test.YtpijdclonniibaaProg
set_option linter.unusedVariables false
set_option linter.unusedSimpArgs false
namespace Go.Proofs.Ytpijdclonniibaa
open Go Go.RowKit
theorem ti3 : TI Try.prog 3 (.int .i64 0) 1 8 := by unfold TI; kernel_rfl
theorem ti5 : TI Try.prog 5 (.int .u8 0) 1 1 := by unfold TI; kernel_rfl
theorem ti24 : TI Try.prog 24 (.agg #[.int .i64 0, .int .i64 0, .int .i64 0, .int .i64 0, .slice none 0 0]) 5 56 := by unfold TI; kernel_rfl
theorem ti36 : TI Try.prog 36 (.agg #[.int .u8 0, .int .u8 0, .int .u8 0, .int .u8 0, .int .u8 0, .int .u8 0, .int .u8 0, .int .u8 0, .int .u8 0, .int .u8 0, .int .u8 0, .int .u8 0, .int .u8 0, .int .u8 0, .int .u8 0, .int .u8 0, .int .u8 0, .int .u8 0, .int .u8 0, .int .u8 0, .int .u8 0, .int .u8 0, .int .u8 0, .int .u8 0, .int .u8 0, .int .u8 0, .int .u8 0, .int .u8 0, .int .u8 0, .int .u8 0, .int .u8 0, .int .u8 0, .int .u8 0, .int .u8 0, .int .u8 0, .int .u8 0, .int .u8 0, .int .u8 0, .int .u8 0, .int .u8 0, .int .u8 0, .int .u8 0, .int .u8 0, .int .u8 0, .int .u8 0, .int .u8 0, .int .u8 0, .int .u8 0, .int .u8 0, .int .u8 0, .int .u8 0, .int .u8 0, .int .u8 0, .int .u8 0, .int .u8 0, .int .u8 0, .int .u8 0, .int .u8 0, .int .u8 0, .int .u8 0, .int .u8 0, .int .u8 0, .int .u8 0, .int .u8 0]) 64 64 := by unfold TI; kernel_rfl
theorem ti45 : TI Try.prog 45 (.agg #[.int .i64 0, .int .i64 0, .int .i64 0, .int .i64 0]) 4 32 := by unfold TI; kernel_rfl
theorem one2 : oneB Try.prog 2 = true := by kernel_rfl
theorem one3 : oneB Try.prog 3 = true := by kernel_rfl
theorem one5 : oneB Try.prog 5 = true := by kernel_rfl
theorem one22 : oneB Try.prog 22 = true := by kernel_rfl
theorem sz2 : szB Try.prog 2 1 = true := by kernel_rfl
theorem sz3 : szB Try.prog 3 1 = true := by kernel_rfl
theorem sz5 : szB Try.prog 5 1 = true := by kernel_rfl
theorem sz22 : szB Try.prog 22 1 = true := by kernel_rfl
theorem sz24 : szB Try.prog 24 5 = true := by kernel_rfl
theorem sz36 : szB Try.prog 36 64 = true := by kernel_rfl
theorem sz45 : szB Try.prog 45 4 = true := by kernel_rfl
theorem agg24 : aggB Try.prog 24 5 = true := by kernel_rfl
theorem agg36 : aggB Try.prog 36 64 = true := by kernel_rfl
theorem agg45 : aggB Try.prog 45 4 = true := by kernel_rfl
theorem fa24_0 : fldB Try.prog 24 0 0 = true := by kernel_rfl
theorem fa24_1 : fldB Try.prog 24 1 1 = true := by kernel_rfl
theorem fa24_2 : fldB Try.prog 24 2 2 = true := by kernel_rfl
theorem fa24_3 : fldB Try.prog 24 3 3 = true := by kernel_rfl
theorem fa24_4 : fldB Try.prog 24 4 4 = true := by kernel_rfl
theorem fa45_0 : fldB Try.prog 45 0 0 = true := by kernel_rfl
theorem fa45_1 : fldB Try.prog 45 1 1 = true := by kernel_rfl
theorem fa45_2 : fldB Try.prog 45 2 2 = true := by kernel_rfl
theorem fa45_3 : fldB Try.prog 45 3 3 = true := by kernel_rfl
structure api_Sector where
  Gen : Int
  Place : Int
  Parts : Int
  Kept : Int
  Body : List Int
deriving DecidableEq, Inhabited
def k_api_Sector : Kd api_Sector where
  sz := 5
  ok Z w cs x := ∃ (A4 : Option Addr) (c4 : Nat), cs = [.int .i64 x.Gen, .int .i64 x.Place, .int .i64 x.Parts, .int .i64 x.Kept, .slice A4 x.Body.length c4] ∧ Rows kByte Z w A4 c4 x.Body
  len := fun {_ _ _ x} h => by obtain ⟨_, _, rfl, _⟩ := h; exact rfl
  one := fun {_ _ _ x} h => by obtain ⟨_, _, rfl, _⟩ := h; intro c hc; simp only [List.mem_cons, List.not_mem_nil, or_false] at hc; rcases hc with rfl | rfl | rfl | rfl | rfl <;> rfl
  stb h hz hs := by obtain ⟨_, _, rfl, h4⟩ := h; exact ⟨_, _, rfl, h4.stb hz hs⟩
theorem Hp.open_api_Sector {w0 w : World} {ps : List PF} {fs : List SF} {cs : List Value} {x : api_Sector} (H : Hp w0 ps fs w) (i : Nat) (hi : ps[i]? = some (says k_api_Sector cs x)) : ∃ (A4 : Option Addr) (c4 : Nat), cs = [.int .i64 x.Gen, .int .i64 x.Place, .int .i64 x.Parts, .int .i64 x.Kept, .slice A4 x.Body.length c4] ∧ Hp w0 (rd kByte A4 c4 x.Body :: ps) fs w := by
  obtain ⟨Z, H⟩ := H
  obtain ⟨A4, c4, h, h4⟩ := H.pers _ (List.mem_of_getElem? hi)
  refine ⟨A4, c4, h, Z, H.os, H.tape, H.output, H.old, H.size, H.zlt, fun p hp => ?_, H.sep⟩
  simp only [List.mem_cons] at hp
  rcases hp with rfl | hp
  · exact h4
  exact H.pers p hp
structure sector_field where
  n : Int
  many : Int
  least : Int
  most : Int
deriving DecidableEq, Inhabited
def k_sector_field : Kd sector_field where
  sz := 4
  ok Z w cs x := cs = [.int .i64 x.n, .int .i64 x.many, .int .i64 x.least, .int .i64 x.most]
  len := fun {_ _ _ x} h => by subst h; exact rfl
  one := fun {_ _ _ x} h => by subst h; intro c hc; simp only [List.mem_cons, List.not_mem_nil, or_false] at hc; rcases hc with rfl | rfl | rfl | rfl <;> rfl
  stb h hz hs := by exact h
theorem Hp.open_sector_field {w0 w : World} {ps : List PF} {fs : List SF} {cs : List Value} {x : sector_field} (H : Hp w0 ps fs w) (i : Nat) (hi : ps[i]? = some (says k_sector_field cs x)) : cs = [.int .i64 x.n, .int .i64 x.many, .int .i64 x.least, .int .i64 x.most] ∧ Hp w0 ps fs w := by
  obtain ⟨Z, h⟩ := H.fact i hi
  exact ⟨h, H⟩


def sector_fields_f (a0 : api_Sector) : Option (List sector_field) :=
  some (([(⟨a0.Gen, 8, 1, 281474976710656⟩ : sector_field), (⟨a0.Place, 2, 0, 4096⟩ : sector_field), (⟨a0.Parts, 1, 1, 32⟩ : sector_field), (⟨a0.Kept, 2, 0, 1000⟩ : sector_field), (⟨(a0.Body.length : Int), 1, 1, 50⟩ : sector_field)]))
set_option maxHeartbeats 4000000 in
set_option maxRecDepth 20000 in
theorem sector_fields_ok {w0 w : World} {ps : List PF} {fs : List SF} {a0 : api_Sector} {A0_4 : Option Addr} {c0_4 : Nat} {r0 : List sector_field} (H : Hp w0 (rd kByte A0_4 c0_4 a0.Body :: ps) fs w) (h : sector_fields_f a0 = some r0) :
    Calls Try.prog 21 [.agg #[.int .i64 a0.Gen, .int .i64 a0.Place, .int .i64 a0.Parts, .int .i64 a0.Kept, .slice A0_4 a0.Body.length c0_4]].toArray w fun e w' => ∃ v, e = .returned v ∧ ∃ (A0 : Option Addr) (c0 : Nat), v = .slice A0 r0.length c0 ∧ Hp w0 (rd k_sector_field A0 c0 r0 :: ps) fs w' := by
  refine enter [.agg #[.int .i64 a0.Gen, .int .i64 a0.Place, .int .i64 a0.Parts, .int .i64 a0.Kept, .slice A0_4 a0.Body.length c0_4]] 20 Try.func21 fun Q a NP RET NRM F => ?_
  replace NP : ∀ c a w, ¬ Q (.panic c) a w := fun c a w h => by rcases NP c a w h with h | ⟨w, v, h, _⟩ <;> cases h
  unfold sector_fields_f at h
  refine rg ?_
  refine ls (lbox F H rfl (cs := [.int .i64 a0.Gen, .int .i64 a0.Place, .int .i64 a0.Parts, .int .i64 a0.Kept, .slice A0_4 a0.Body.length c0_4]) rfl fun g1 w a H F => ?_)
  refine as_ F (v := .slice none 0 0) rfl fun a F => ?_
  refine rgend ?_
  refine rg ?_
  refine ls (qv F (r_fa (off := 0) (F.ev (x := .tmp 1) rfl) fa24_0) fun a F => ?_)
  refine ls (qv F (r_ld (F.ev (x := .tmp 3) rfl) (cel_cell (o := 0) (H.cell 0 rfl) rfl) one2) fun a F => ?_)
  refine ls (lbd F (vs := [(0, .int .i64 a0.Gen), (1, .int .i64 8), (2, .int .i64 1), (3, .int .i64 281474976710656)]) (cs := [.int .i64 a0.Gen, .int .i64 8, .int .i64 1, .int .i64 281474976710656]) rfl (fun w => by kernel_rfl) fun a F => ?_)
  refine ls (qv F (r_fa (off := 1) (F.ev (x := .tmp 1) rfl) fa24_1) fun a F => ?_)
  refine ls (qv F (r_ld (F.ev (x := .tmp 6) rfl) (cel_cell (o := 1) (H.cell 0 rfl) rfl) one3) fun a F => ?_)
  refine ls (lbd F (vs := [(0, .int .i64 a0.Place), (1, .int .i64 2), (2, .int .i64 0), (3, .int .i64 4096)]) (cs := [.int .i64 a0.Place, .int .i64 2, .int .i64 0, .int .i64 4096]) rfl (fun w => by kernel_rfl) fun a F => ?_)
  refine ls (qv F (r_fa (off := 2) (F.ev (x := .tmp 1) rfl) fa24_2) fun a F => ?_)
  refine ls (qv F (r_ld (F.ev (x := .tmp 9) rfl) (cel_cell (o := 2) (H.cell 0 rfl) rfl) one3) fun a F => ?_)
  refine ls (lbd F (vs := [(0, .int .i64 a0.Parts), (1, .int .i64 1), (2, .int .i64 1), (3, .int .i64 32)]) (cs := [.int .i64 a0.Parts, .int .i64 1, .int .i64 1, .int .i64 32]) rfl (fun w => by kernel_rfl) fun a F => ?_)
  refine ls (qv F (r_fa (off := 3) (F.ev (x := .tmp 1) rfl) fa24_3) fun a F => ?_)
  refine ls (qv F (r_ld (F.ev (x := .tmp 12) rfl) (cel_cell (o := 3) (H.cell 0 rfl) rfl) one3) fun a F => ?_)
  refine ls (lbd F (vs := [(0, .int .i64 a0.Kept), (1, .int .i64 2), (2, .int .i64 0), (3, .int .i64 1000)]) (cs := [.int .i64 a0.Kept, .int .i64 2, .int .i64 0, .int .i64 1000]) rfl (fun w => by kernel_rfl) fun a F => ?_)
  refine ls (qv F (r_fa (off := 4) (F.ev (x := .tmp 1) rfl) fa24_4) fun a F => ?_)
  refine ls (qv F (r_ld (F.ev (x := .tmp 15) rfl) (cel_cell (o := 4) (H.cell 0 rfl) rfl) one22) fun a F => ?_)
  refine ls (qv F (r_len (F.ev (x := .tmp 16) rfl) Try.underlying22) fun a F => ?_)
  refine ls (lbd F (vs := [(0, .int .i64 (a0.Body.length : Int)), (1, .int .i64 1), (2, .int .i64 1), (3, .int .i64 50)]) (cs := [.int .i64 (a0.Body.length : Int), .int .i64 1, .int .i64 1, .int .i64 50]) rfl (fun w => by kernel_rfl) fun a F => ?_)
  refine ls (lbs F H (e := 45) (vs := [(0, .agg #[.int .i64 a0.Gen, .int .i64 8, .int .i64 1, .int .i64 281474976710656]), (1, .agg #[.int .i64 a0.Place, .int .i64 2, .int .i64 0, .int .i64 4096]), (2, .agg #[.int .i64 a0.Parts, .int .i64 1, .int .i64 1, .int .i64 32]), (3, .agg #[.int .i64 a0.Kept, .int .i64 2, .int .i64 0, .int .i64 1000]), (4, .agg #[.int .i64 (a0.Body.length : Int), .int .i64 1, .int .i64 1, .int .i64 50])]) (cs := [.int .i64 a0.Gen, .int .i64 8, .int .i64 1, .int .i64 281474976710656, .int .i64 a0.Place, .int .i64 2, .int .i64 0, .int .i64 4096, .int .i64 a0.Parts, .int .i64 1, .int .i64 1, .int .i64 32, .int .i64 a0.Kept, .int .i64 2, .int .i64 0, .int .i64 1000, .int .i64 (a0.Body.length : Int), .int .i64 1, .int .i64 1, .int .i64 50]) rfl (fun w => by kernel_rfl) fun g2 w a H F => ?_)
  refine as_ F rfl fun a F => ?_
  refine rgend ?_
  replace F := F.only [2] (l' := [(2, .slice (some ⟨g2, 0, none⟩) 5 5)]) rfl
  refine wp_ret ?_
  replace H := Hp.litRd (kd := k_sector_field) (xs := [(⟨a0.Gen, 8, 1, 281474976710656⟩ : sector_field), (⟨a0.Place, 2, 0, 4096⟩ : sector_field), (⟨a0.Parts, 1, 1, 32⟩ : sector_field), (⟨a0.Kept, 2, 0, 1000⟩ : sector_field), (⟨(a0.Body.length : Int), 1, 1, 50⟩ : sector_field)]) (H) ((SayL.cons (kd := k_sector_field) (c1 := [.int .i64 a0.Gen, .int .i64 8, .int .i64 1, .int .i64 281474976710656]) (y := (⟨a0.Gen, 8, 1, 281474976710656⟩ : sector_field)) (fun Z hp => rfl) (SayL.cons (kd := k_sector_field) (c1 := [.int .i64 a0.Place, .int .i64 2, .int .i64 0, .int .i64 4096]) (y := (⟨a0.Place, 2, 0, 4096⟩ : sector_field)) (fun Z hp => rfl) (SayL.cons (kd := k_sector_field) (c1 := [.int .i64 a0.Parts, .int .i64 1, .int .i64 1, .int .i64 32]) (y := (⟨a0.Parts, 1, 1, 32⟩ : sector_field)) (fun Z hp => rfl) (SayL.cons (kd := k_sector_field) (c1 := [.int .i64 a0.Kept, .int .i64 2, .int .i64 0, .int .i64 1000]) (y := (⟨a0.Kept, 2, 0, 1000⟩ : sector_field)) (fun Z hp => rfl) (SayL.cons (kd := k_sector_field) (c1 := [.int .i64 (a0.Body.length : Int), .int .i64 1, .int .i64 1, .int .i64 50]) (y := (⟨(a0.Body.length : Int), 1, 1, 50⟩ : sector_field)) (fun Z hp => rfl) SayL.nil)))))) (Nat.le_of_ble_eq_true rfl)
  try dsimp only at h
  obtain rfl := Option.some.inj h
  exact RET _ _ (ret1 F rfl rfl ⟨_, rfl, (some ⟨g2, 0, none⟩), 5, rfl, H.px1.fx0⟩)
def sector_right_b0 (a0 : List sector_field) : Int → Option (Int ⊕ (Unit ⊕ Bool))
  | x1 => (if x1 < (a0.length : Int) then (if 0 ≤ x1 ∧ x1 < (a0.length : Int) then (if ((a0.getD (x1 : Int).toNat (⟨0, 0, 0, 0⟩ : sector_field)).n) < ((a0.getD (x1 : Int).toNat (⟨0, 0, 0, 0⟩ : sector_field)).least) then some (.inr (.inr false)) else (if ((a0.getD (x1 : Int).toNat (⟨0, 0, 0, 0⟩ : sector_field)).n) > ((a0.getD (x1 : Int).toNat (⟨0, 0, 0, 0⟩ : sector_field)).most) then some (.inr (.inr false)) else some (.inl (IntKind.i64.wrap (x1 + 1))))) else none) else some (.inr (.inl ())))
def sector_right_f (a0 : List sector_field) : Option (Bool) :=
  ((lp (sector_right_b0 a0) 0).bind fun q => match q with | .inl _ => some true | .inr r => some r)
set_option maxHeartbeats 4000000 in
set_option maxRecDepth 20000 in
theorem sector_right_ok {w0 w : World} {ps : List PF} {fs : List SF} {a0 : List sector_field} {A0_ : Option Addr} {c0_ : Nat} {r0 : Bool} (H : Hp w0 (rd k_sector_field A0_ c0_ a0 :: ps) fs w) (h : sector_right_f a0 = some r0) :
    Calls Try.prog 20 [.slice A0_ a0.length c0_].toArray w fun e w' => ∃ v, e = .returned v ∧ v = .bool r0 ∧ Hp w0 ps fs w' := by
  refine enter [.slice A0_ a0.length c0_] 24 Try.func20 fun Q a NP RET NRM F => ?_
  replace NP : ∀ c a w, ¬ Q (.panic c) a w := fun c a w h => by rcases NP c a w h with h | ⟨w, v, h, _⟩ <;> cases h
  unfold sector_right_f at h
  refine rg ?_
  refine as_ F (v := .bool false) rfl fun a F => ?_
  refine rgend ?_
  refine wp_seq ?_
  refine rg ?_
  refine mv F rfl fun a F => ?_
  refine ls (qv F (r_len (F.ev (x := .tmp 5) rfl) Try.underlying40) fun a F => ?_)
  refine mv F (v := .int .i64 0) rfl fun a F => ?_
  refine rgend ?_
  obtain ⟨o_1, k_1, h⟩ := Option.bind_eq_some_iff.1 h
  refine cut (fun a w => Sum.inl () = o_1 ∧ Fr 24 [] [] a ∧ Hp w0 ps fs w) (wp_block ?_) ?_
  · refine wloop (sector_right_b0 a0) (fun (s : Int) a w => Fr 24 [] [(5, .slice A0_ a0.length c0_), (6, .int .i64 (a0.length : Int)), (7, .int .i64 s)] a ∧ Hp w0 (rd k_sector_field A0_ c0_ a0 :: ps) fs w) k_1 ⟨F.only [5, 6, 7] rfl, H⟩ ?_
    rintro x1 a w q_1 j_1 u_1 ⟨F, H⟩
    unfold sector_right_b0 at j_1
    try dsimp only at j_1 F H
    refine rg ?_
    refine ls (qv F (r_lt (F.ev (x := .tmp 7) rfl) (F.ev (x := .tmp 6) rfl)) fun a F => ?_)
    refine rgend ?_
    refine wp_seq ?_
    by_cases c3 : x1 < (a0.length : Int)
    · rw [if_pos c3] at j_1
      rw [decide_eq_true c3] at F
      refine wp_cond_true (F.ev rfl) ?_
      refine wp_skip ?_
      refine wp_seq ?_
      refine wp_block ?_
      refine rg ?_
      obtain ⟨c4, j_1⟩ := guardO j_1
      obtain ⟨g5, o6, s7, hr, H⟩ := H.ix (⟨0, 0, 0, 0⟩ : sector_field) 0 rfl (F.ev (x := .tmp 5) rfl) (F.ev (x := .tmp 7) rfl) Try.underlying40 sz45 (by decide) c4.1 c4.2
      obtain ⟨rfl, H⟩ := H.open_sector_field 1 rfl
      refine ls (qv F (hr _ _ _ _ _ _) fun a F => ?_)
      refine ls (qv F (r_ldA (F.ev (x := .tmp 9) rfl) (H.range 0 rfl) agg45 rfl) fun a F => ?_)
      refine ls (lal F H ti45 (cs := [.int .i64 0, .int .i64 0, .int .i64 0, .int .i64 0]) rfl fun g8 w a H F => ?_)
      obtain ⟨_, hr, H⟩ := Hp.store (t := 45) (o := 0) (n := 4) (vs := [.int .i64 ((a0.getD (x1 : Int).toNat (⟨0, 0, 0, 0⟩ : sector_field)).n), .int .i64 ((a0.getD (x1 : Int).toNat (⟨0, 0, 0, 0⟩ : sector_field)).many), .int .i64 ((a0.getD (x1 : Int).toNat (⟨0, 0, 0, 0⟩ : sector_field)).least), .int .i64 ((a0.getD (x1 : Int).toNat (⟨0, 0, 0, 0⟩ : sector_field)).most)]) (cs' := [.int .i64 ((a0.getD (x1 : Int).toNat (⟨0, 0, 0, 0⟩ : sector_field)).n), .int .i64 ((a0.getD (x1 : Int).toNat (⟨0, 0, 0, 0⟩ : sector_field)).many), .int .i64 ((a0.getD (x1 : Int).toNat (⟨0, 0, 0, 0⟩ : sector_field)).least), .int .i64 ((a0.getD (x1 : Int).toNat (⟨0, 0, 0, 0⟩ : sector_field)).most)]) (H) (F.ev (x := .tmp 4) rfl) (F.ev (x := .tmp 10) rfl) rfl sz45 rfl (Nat.le_of_ble_eq_true rfl) rfl rfl
      refine ls (qn F (.inl rfl) (hr _ _ _ _) fun a F => ?_)
      refine rgend ?_
      refine rg ?_
      refine ls (qv F (r_fa (off := 0) (F.ev (x := .tmp 4) rfl) fa45_0) fun a F => ?_)
      refine ls (qv F (r_ld (F.ev (x := .tmp 11) rfl) (cel_cell (o := 0) (H.cell 0 rfl) rfl) one2) fun a F => ?_)
      refine ls (qv F (r_fa (off := 2) (F.ev (x := .tmp 4) rfl) fa45_2) fun a F => ?_)
      refine ls (qv F (r_ld (F.ev (x := .tmp 13) rfl) (cel_cell (o := 2) (H.cell 0 rfl) rfl) one2) fun a F => ?_)
      refine ls (qv F (r_lt (F.ev (x := .tmp 12) rfl) (F.ev (x := .tmp 14) rfl)) fun a F => ?_)
      refine mv F rfl fun a F => ?_
      by_cases c9 : ((a0.getD (x1 : Int).toNat (⟨0, 0, 0, 0⟩ : sector_field)).n) < ((a0.getD (x1 : Int).toNat (⟨0, 0, 0, 0⟩ : sector_field)).least)
      · rw [if_pos c9] at j_1
        rw [decide_eq_true c9] at F
        refine ls (off F fun a F => ?_)
        refine ls (off F fun a F => ?_)
        refine ls (off F fun a F => ?_)
        refine ls (off F fun a F => ?_)
        refine ls (off F fun a F => ?_)
        refine ls (qv F (r_pickT (F.ev (x := .tmp 16) rfl) (F.ev (x := .const (.bool true)) rfl)) fun a F => ?_)
        refine rgend ?_
        replace F := F.only [22, 5, 6, 7] (l' := [(22, .bool true), (5, .slice A0_ a0.length c0_), (6, .int .i64 (a0.length : Int)), (7, .int .i64 x1)]) rfl
        refine wp_cond_true (F.ev rfl) ?_
        refine rg ?_
        refine as_ F (v := .bool false) rfl fun a F => ?_
        refine rgend ?_
        replace F := F.only [2] (l' := [(2, .bool false)]) rfl
        refine wp_ret ?_
        try dsimp only at j_1
        obtain rfl := Option.some.inj j_1
        obtain rfl := u_1 _ rfl
        try dsimp only at h
        obtain rfl := Option.some.inj h
        exact RET _ _ (ret1 F rfl rfl ⟨_, rfl, rfl, H.px2.px1.px0.fx0⟩)
      · rw [if_neg c9] at j_1
        rw [decide_eq_false c9] at F
        refine ls (qv F (r_fa (off := 0) (F.ev (x := .tmp 4) rfl) fa45_0) fun a F => ?_)
        refine ls (qv F (r_ld (F.ev (x := .tmp 17) rfl) (cel_cell (o := 0) (H.cell 0 rfl) rfl) one2) fun a F => ?_)
        refine ls (qv F (r_fa (off := 3) (F.ev (x := .tmp 4) rfl) fa45_3) fun a F => ?_)
        refine ls (qv F (r_ld (F.ev (x := .tmp 19) rfl) (cel_cell (o := 3) (H.cell 0 rfl) rfl) one2) fun a F => ?_)
        refine ls (qv F (r_gt (F.ev (x := .tmp 18) rfl) (F.ev (x := .tmp 20) rfl)) fun a F => ?_)
        refine ls (qv F (r_pickF (F.ev (x := .tmp 16) rfl) (F.ev (x := .tmp 21) rfl)) fun a F => ?_)
        refine rgend ?_
        replace F := F.only [22, 5, 6, 7] (l' := [(22, .bool (decide (((a0.getD (x1 : Int).toNat (⟨0, 0, 0, 0⟩ : sector_field)).n) > ((a0.getD (x1 : Int).toNat (⟨0, 0, 0, 0⟩ : sector_field)).most)))), (5, .slice A0_ a0.length c0_), (6, .int .i64 (a0.length : Int)), (7, .int .i64 x1)]) rfl
        by_cases c10 : ((a0.getD (x1 : Int).toNat (⟨0, 0, 0, 0⟩ : sector_field)).n) > ((a0.getD (x1 : Int).toNat (⟨0, 0, 0, 0⟩ : sector_field)).most)
        · rw [if_pos c10] at j_1
          rw [decide_eq_true c10] at F
          refine wp_cond_true (F.ev rfl) ?_
          refine rg ?_
          refine as_ F (v := .bool false) rfl fun a F => ?_
          refine rgend ?_
          replace F := F.only [2] (l' := [(2, .bool false)]) rfl
          refine wp_ret ?_
          try dsimp only at j_1
          obtain rfl := Option.some.inj j_1
          obtain rfl := u_1 _ rfl
          try dsimp only at h
          obtain rfl := Option.some.inj h
          exact RET _ _ (ret1 F rfl rfl ⟨_, rfl, rfl, H.px2.px1.px0.fx0⟩)
        · rw [if_neg c10] at j_1
          rw [decide_eq_false c10] at F
          refine wp_cond_false (F.ev rfl) ?_
          refine wp_skip ?_
          refine wp_region_lit ?_
          refine ls (qv F (r_add (F.ev (x := .tmp 7) rfl) (F.ev (x := .const (.int .i64 1)) rfl)) fun a F => ?_)
          refine mv F rfl fun a F => ?_
          refine wpList_nil ?_
          try dsimp only at j_1
          obtain rfl := Option.some.inj j_1
          exact ⟨_, rfl, F.only [5, 6, 7] rfl, H.px1.px0.fx0⟩
    · rw [if_neg c3] at j_1
      rw [decide_eq_false c3] at F
      refine wp_cond_false (F.ev rfl) ?_
      refine wp_exit ?_
      try dsimp only at j_1
      obtain rfl := Option.some.inj j_1
      obtain rfl := u_1 _ rfl
      repeat (with_reducible refine exT ?_)
      with_reducible refine exB ?_
      exact ⟨rfl, F.only [] rfl, H.px0⟩
  · rintro a w ⟨rfl, F, H⟩
    try dsimp only at h F H
    refine rg ?_
    refine as_ F (v := .bool true) rfl fun a F => ?_
    refine rgend ?_
    refine wp_ret ?_
    try dsimp only at h
    obtain rfl := Option.some.inj h
    exact RET _ _ (ret1 F rfl rfl ⟨_, rfl, rfl, H⟩)
def sector_Right_f (a0 : api_Sector) : Option (Bool) :=
  ((sector_fields_f a0).bind fun x2 => ((sector_right_f x2).bind fun x6 => some x6))
set_option maxHeartbeats 4000000 in
set_option maxRecDepth 20000 in
theorem sector_Right_ok {w0 w : World} {ps : List PF} {fs : List SF} {a0 : api_Sector} {A0_4 : Option Addr} {c0_4 : Nat} {r0 : Bool} (H : Hp w0 (rd kByte A0_4 c0_4 a0.Body :: ps) fs w) (h : sector_Right_f a0 = some r0) :
    Calls Try.prog 12 [.agg #[.int .i64 a0.Gen, .int .i64 a0.Place, .int .i64 a0.Parts, .int .i64 a0.Kept, .slice A0_4 a0.Body.length c0_4]].toArray w fun e w' => ∃ v, e = .returned v ∧ v = .bool r0 ∧ Hp w0 ps fs w' := by
  refine enter [.agg #[.int .i64 a0.Gen, .int .i64 a0.Place, .int .i64 a0.Parts, .int .i64 a0.Kept, .slice A0_4 a0.Body.length c0_4]] 6 Try.func12 fun Q a NP RET NRM F => ?_
  replace NP : ∀ c a w, ¬ Q (.panic c) a w := fun c a w h => by rcases NP c a w h with h | ⟨w, v, h, _⟩ <;> cases h
  unfold sector_Right_f at h
  refine rg ?_
  refine ls (lbox F H rfl (cs := [.int .i64 a0.Gen, .int .i64 a0.Place, .int .i64 a0.Parts, .int .i64 a0.Kept, .slice A0_4 a0.Body.length c0_4]) rfl fun g1 w a H F => ?_)
  refine as_ F (v := .bool false) rfl fun a F => ?_
  refine rgend ?_
  refine rg ?_
  refine ls (qv F (r_ldA (F.ev (x := .tmp 1) rfl) (cel_range (o := 0) (n := 5) (vs := [.int .i64 a0.Gen, .int .i64 a0.Place, .int .i64 a0.Parts, .int .i64 a0.Kept, .slice A0_4 a0.Body.length c0_4]) (H.cell 0 rfl) rfl) agg24 rfl) fun a F => ?_)
  obtain ⟨x2, e3, h⟩ := Option.bind_eq_some_iff.1 h
  try dsimp only at h
  refine ls (call F Try.func21 (sector_fields_ok (a0 := a0) (H.p0) e3) rfl rfl fun v w hR a F => ?_)
  obtain ⟨A4, c5, rfl, H⟩ := hR
  obtain ⟨x6, e7, h⟩ := Option.bind_eq_some_iff.1 h
  try dsimp only at h
  refine ls (call F Try.func20 (sector_right_ok (H.p0) e7) rfl rfl fun v w hR a F => ?_)
  obtain ⟨rfl, H⟩ := hR
  refine as_ F rfl fun a F => ?_
  refine rgend ?_
  replace F := F.only [2] (l' := [(2, .bool x6)]) rfl
  refine wp_ret ?_
  try dsimp only at h
  obtain rfl := Option.some.inj h
  exact RET _ _ (ret1 F rfl rfl ⟨_, rfl, rfl, H.px1.px0.fx0⟩)
def ref16_Number_b0 : (Int × (List Int) × Int) → Option (Int × (List Int) × Int ⊕ List Int)
  | (x3, x4, x7) => (if x7 ≥ 0 then (if 0 ≤ x7 ∧ x7 < (x4.length : Int) then some (.inl (IntKind.i64.wrap (x3.tdiv 256), (x4.set (x7 : Int).toNat (IntKind.u8.wrap (x3.tmod 256))), IntKind.i64.wrap (x7 - 1))) else none) else some (.inr x4))
def ref16_Number_f (a0 : Int) (a1 : Int) : Option (List Int) :=
  (if 0 ≤ a1 ∧ 1 * a1 ≤ 281474976710656 then ((lp ref16_Number_b0 (a0, List.replicate (a1 : Int).toNat (0 : Int), IntKind.i64.wrap (a1 - 1))).bind fun x8 => some x8) else none)
set_option maxHeartbeats 4000000 in
set_option maxRecDepth 20000 in
theorem ref16_Number_ok {w0 w : World} {ps : List PF} {fs : List SF} {a0 : Int} {a1 : Int} {r0 : List Int} (H : Hp w0 ps fs w) (h : ref16_Number_f a0 a1 = some r0) :
    Calls Try.prog 23 [.int .i64 a0, .int .i64 a1].toArray w fun e w' => ∃ v, e = .returned v ∧ ∃ (A0 : Option Addr) (c0 : Nat), v = .slice A0 r0.length c0 ∧ Hp w0 ps (own kByte 5 A0 c0 r0 :: fs) w' := by
  refine enter [.int .i64 a0, .int .i64 a1] 24 Try.func23 fun Q a NP RET NRM F => ?_
  replace NP : ∀ c a w, ¬ Q (.panic c) a w := fun c a w h => by rcases NP c a w h with h | ⟨w, v, h, _⟩ <;> cases h
  unfold ref16_Number_f at h
  refine rg ?_
  refine as_ F (v := .slice none 0 0) rfl fun a F => ?_
  refine rgend ?_
  refine rg ?_
  refine mv F rfl fun a F => ?_
  obtain ⟨c2, h⟩ := guardO h
  obtain ⟨g1, _, hr, H⟩ := Hp.make (kd := kByte) (zx := (0 : Int)) H (F.ev (x := .tmp 7) rfl) (F.ev (x := .tmp 7) rfl) Try.underlying22 ti5 rfl rfl (by decide) c2.1 c2.2 (fun Z w => ⟨rfl, by decide⟩) rfl
  refine ls (qv F (hr _ _ _ _ _) fun a F => ?_)
  refine as_ F rfl fun a F => ?_
  refine rgend ?_
  refine wp_seq ?_
  refine rg ?_
  refine mv F rfl fun a F => ?_
  refine ls (qv F (r_sub (F.ev (x := .tmp 9) rfl) (F.ev (x := .const (.int .i64 1)) rfl)) fun a F => ?_)
  refine as_ F rfl fun a F => ?_
  refine rgend ?_
  replace F := F.only [6, 5, 0] (l' := [(6, .int .i64 (IntKind.i64.wrap (a1 - 1))), (5, .slice (some ⟨g1, 0, none⟩) (List.replicate (a1 : Int).toNat (0 : Int)).length ((List.replicate (a1 : Int).toNat (0 : Int)).length)), (0, .int .i64 a0)]) rfl
  obtain ⟨o_10, k_10, h⟩ := Option.bind_eq_some_iff.1 h
  refine cut (fun a w => ∃ (x8 : List Int), x8 = o_10 ∧ ∃ (A9 : Option Addr) (c10 : Nat), Fr 24 [] [(5, .slice A9 x8.length c10)] a ∧ Hp w0 ps (own kByte 5 A9 c10 x8 :: fs) w) (wp_block ?_) ?_
  · refine wloop ref16_Number_b0 (fun (s : Int × (List Int) × Int) a w => ∃ (A5 : Option Addr) (c6 : Nat), Fr 24 [] [(0, .int .i64 s.1), (5, .slice A5 s.2.1.length c6), (6, .int .i64 s.2.2)] a ∧ Hp w0 ps (own kByte 5 A5 c6 s.2.1 :: fs) w) k_10 ⟨(some ⟨g1, 0, none⟩), (List.replicate (a1 : Int).toNat (0 : Int)).length, F.only [0, 5, 6] rfl, H⟩ ?_
    rintro ⟨x3, x4, x7⟩ a w q_10 j_10 u_10 ⟨A5, c6, F, H⟩
    unfold ref16_Number_b0 at j_10
    try dsimp only at j_10 F H
    refine wp_seq ?_
    refine rg ?_
    refine mv F rfl fun a F => ?_
    refine ls (qv F (r_ge (F.ev (x := .tmp 11) rfl) (F.ev (x := .const (.int .i64 0)) rfl)) fun a F => ?_)
    refine rgend ?_
    by_cases c12 : x7 ≥ 0
    · rw [if_pos c12] at j_10
      rw [decide_eq_true c12] at F
      refine wp_cond_true (F.ev rfl) ?_
      refine wp_skip ?_
      refine wp_seq ?_
      refine wp_block ?_
      refine rg ?_
      refine mv F rfl fun a F => ?_
      refine mv F rfl fun a F => ?_
      refine mv F rfl fun a F => ?_
      refine ls (qv F (r_rem (F.ev (x := .tmp 17) rfl) (F.ev (x := .const (.int .i64 256)) rfl) (by decide)) fun a F => ?_)
      refine ls (qv F (r_ci (F.ev (x := .tmp 18) rfl) Try.underlying5 Try.underlying2) fun a F => ?_)
      obtain ⟨c13, j_10⟩ := guardO j_10
      obtain ⟨g14, s15, hA, hq17, hl16, H⟩ := H.ixOwn2 0 0 rfl (F.ev (x := .tmp 15) rfl) (F.ev (x := .tmp 16) rfl) Try.underlying22 sz5 (by decide) c13.1 c13.2
      cases hA
      obtain ⟨rfl, hr18⟩ := H.says_byte 0 rfl
      refine ls (qv F (hq17 _ _ _ _ _ _) fun a F => ?_)
      obtain ⟨_, hr, H⟩ := Hp.setOwn (kd := kByte) (xs := x4) (j := (x7 : Int).toNat) (x1 := IntKind.u8.wrap (x3.tmod 256)) (H) (F.ev (x := .tmp 20) rfl) (F.ev (x := .tmp 19) rfl) rfl sz5 (by have := c13; omega) (fun Z hp => ⟨rfl, (wrap_u8 _)⟩)
      refine ls (qn F (.inl rfl) (hr _ _ _ _) fun a F => ?_)
      replace F := F.only [20, 19, 18, 17, 16, 15, 12, 11, 0, 5, 6] (l' := [(20, .pointer (some ⟨g14, (x7 : Int).toNat * kByte.sz, none⟩)), (19, .int .u8 (IntKind.u8.wrap (x3.tmod 256))), (18, .int .i64 (x3.tmod 256)), (17, .int .i64 x3), (16, .int .i64 x7), (15, .slice (some ⟨g14, 0, none⟩) ((x4.set (x7 : Int).toNat (IntKind.u8.wrap (x3.tmod 256)))).length c6), (12, .bool true), (11, .int .i64 x7), (0, .int .i64 x3), (5, .slice (some ⟨g14, 0, none⟩) ((x4.set (x7 : Int).toNat (IntKind.u8.wrap (x3.tmod 256)))).length c6), (6, .int .i64 x7)]) (by (try simp only [List.length_set]); rfl)
      refine rgend ?_
      replace F := F.only [0, 5, 6] (l' := [(0, .int .i64 x3), (5, .slice (some ⟨g14, 0, none⟩) ((x4.set (x7 : Int).toNat (IntKind.u8.wrap (x3.tmod 256)))).length c6), (6, .int .i64 x7)]) rfl
      refine wp_region_lit ?_
      refine mv F rfl fun a F => ?_
      refine ls (qv F (r_quo (F.ev (x := .tmp 21) rfl) (F.ev (x := .const (.int .i64 256)) rfl) (by decide)) fun a F => ?_)
      refine as_ F rfl fun a F => ?_
      refine wpList_nil ?_
      refine wp_region_lit ?_
      refine mv F rfl fun a F => ?_
      refine ls (qv F (r_sub (F.ev (x := .tmp 13) rfl) (F.ev (x := .const (.int .i64 1)) rfl)) fun a F => ?_)
      refine as_ F rfl fun a F => ?_
      refine wpList_nil ?_
      replace F := F.only [6, 0, 5] (l' := [(6, .int .i64 (IntKind.i64.wrap (x7 - 1))), (0, .int .i64 (IntKind.i64.wrap (x3.tdiv 256))), (5, .slice (some ⟨g14, 0, none⟩) ((x4.set (x7 : Int).toNat (IntKind.u8.wrap (x3.tmod 256)))).length c6)]) rfl
      try dsimp only at j_10
      obtain rfl := Option.some.inj j_10
      exact ⟨_, rfl, (some ⟨g14, 0, none⟩), c6, F.only [0, 5, 6] rfl, H.px0⟩
    · rw [if_neg c12] at j_10
      rw [decide_eq_false c12] at F
      refine wp_cond_false (F.ev rfl) ?_
      refine wp_exit ?_
      try dsimp only at j_10
      obtain rfl := Option.some.inj j_10
      obtain rfl := u_10 _ rfl
      repeat (with_reducible refine exT ?_)
      with_reducible refine exB ?_
      exact ⟨_, rfl, A5, c6, F.only [5] rfl, H⟩
  · rintro a w ⟨x8, rfl, A9, c10, F, H⟩
    try dsimp only at h F H
    refine rg ?_
    refine mv F rfl fun a F => ?_
    refine as_ F rfl fun a F => ?_
    refine rgend ?_
    refine wp_ret ?_
    try dsimp only at h
    obtain rfl := Option.some.inj h
    exact RET _ _ (ret1 F rfl rfl ⟨_, rfl, A9, c10, rfl, H⟩)
def ref16_Read_b0 (a0 : List Int) : (Int × Int) → Option (Int × Int ⊕ Int)
  | (x1, x2) => (if x2 < (a0.length : Int) then (if 0 ≤ x2 ∧ x2 < (a0.length : Int) then some (.inl (IntKind.i64.wrap ((IntKind.i64.wrap (x1 * 256)) + (IntKind.i64.wrap (a0.getD (x2 : Int).toNat 0))), IntKind.i64.wrap (x2 + 1))) else none) else some (.inr x1))
def ref16_Read_f (a0 : List Int) : Option (Int) :=
  ((lp (ref16_Read_b0 a0) (0, 0)).bind fun x3 => some x3)
set_option maxHeartbeats 4000000 in
set_option maxRecDepth 20000 in
theorem ref16_Read_ok {w0 w : World} {ps : List PF} {fs : List SF} {a0 : List Int} {A0_ : Option Addr} {c0_ : Nat} {r0 : Int} (H : Hp w0 (rd kByte A0_ c0_ a0 :: ps) fs w) (h : ref16_Read_f a0 = some r0) :
    Calls Try.prog 19 [.slice A0_ a0.length c0_].toArray w fun e w' => ∃ v, e = .returned v ∧ v = .int .i64 r0 ∧ Hp w0 ps fs w' := by
  refine enter [.slice A0_ a0.length c0_] 20 Try.func19 fun Q a NP RET NRM F => ?_
  replace NP : ∀ c a w, ¬ Q (.panic c) a w := fun c a w h => by rcases NP c a w h with h | ⟨w, v, h, _⟩ <;> cases h
  unfold ref16_Read_f at h
  refine rg ?_
  refine as_ F (v := .int .i64 0) rfl fun a F => ?_
  refine rgend ?_
  refine rg ?_
  refine as_ F (v := .int .i64 0) rfl fun a F => ?_
  refine rgend ?_
  refine wp_seq ?_
  refine rg ?_
  refine as_ F (v := .int .i64 0) rfl fun a F => ?_
  refine rgend ?_
  obtain ⟨o_3, k_3, h⟩ := Option.bind_eq_some_iff.1 h
  refine cut (fun a w => ∃ (x3 : Int), x3 = o_3 ∧ Fr 20 [] [(3, .int .i64 x3)] a ∧ Hp w0 ps fs w) (wp_block ?_) ?_
  · refine wloop (ref16_Read_b0 a0) (fun (s : Int × Int) a w => Fr 20 [] [(0, .slice A0_ a0.length c0_), (3, .int .i64 s.1), (4, .int .i64 s.2)] a ∧ Hp w0 (rd kByte A0_ c0_ a0 :: ps) fs w) k_3 ⟨F.only [0, 3, 4] rfl, H⟩ ?_
    rintro ⟨x1, x2⟩ a w q_3 j_3 u_3 ⟨F, H⟩
    unfold ref16_Read_b0 at j_3
    try dsimp only at j_3 F H
    refine wp_seq ?_
    refine rg ?_
    refine mv F rfl fun a F => ?_
    refine mv F rfl fun a F => ?_
    refine ls (qv F (r_len (F.ev (x := .tmp 6) rfl) Try.underlying22) fun a F => ?_)
    refine ls (qv F (r_lt (F.ev (x := .tmp 5) rfl) (F.ev (x := .tmp 7) rfl)) fun a F => ?_)
    refine rgend ?_
    by_cases c5 : x2 < (a0.length : Int)
    · rw [if_pos c5] at j_3
      rw [decide_eq_true c5] at F
      refine wp_cond_true (F.ev rfl) ?_
      refine wp_skip ?_
      refine wp_seq ?_
      refine wp_block ?_
      refine wp_region_lit ?_
      refine mv F rfl fun a F => ?_
      refine ls (qv F (r_mul (F.ev (x := .tmp 11) rfl) (F.ev (x := .const (.int .i64 256)) rfl)) fun a F => ?_)
      refine mv F rfl fun a F => ?_
      refine mv F rfl fun a F => ?_
      obtain ⟨c6, j_3⟩ := guardO j_3
      obtain ⟨g7, o8, s9, hr, H⟩ := H.ix 0 0 rfl (F.ev (x := .tmp 13) rfl) (F.ev (x := .tmp 14) rfl) Try.underlying22 sz5 (by decide) c6.1 c6.2
      obtain ⟨rfl, hr10⟩ := H.says_byte 1 rfl
      refine ls (qv F (hr _ _ _ _ _ _) fun a F => ?_)
      refine ls (qv F (r_ld (F.ev (x := .tmp 15) rfl) (range_cell (j := 0) (H.range 0 rfl) rfl) one5) fun a F => ?_)
      refine ls (qv F (r_ci (F.ev (x := .tmp 16) rfl) Try.underlying2 Try.underlying5) fun a F => ?_)
      refine ls (qv F (r_add (F.ev (x := .tmp 12) rfl) (F.ev (x := .tmp 17) rfl)) fun a F => ?_)
      refine as_ F rfl fun a F => ?_
      refine wpList_nil ?_
      replace F := F.only [3, 0, 4] (l' := [(3, .int .i64 (IntKind.i64.wrap ((IntKind.i64.wrap (x1 * 256)) + (IntKind.i64.wrap (a0.getD (x2 : Int).toNat 0))))), (0, .slice A0_ a0.length c0_), (4, .int .i64 x2)]) rfl
      refine wp_region_lit ?_
      refine mv F rfl fun a F => ?_
      refine ls (qv F (r_add (F.ev (x := .tmp 9) rfl) (F.ev (x := .const (.int .i64 1)) rfl)) fun a F => ?_)
      refine as_ F rfl fun a F => ?_
      refine wpList_nil ?_
      try dsimp only at j_3
      obtain rfl := Option.some.inj j_3
      exact ⟨_, rfl, F.only [0, 3, 4] rfl, H.px1.px0⟩
    · rw [if_neg c5] at j_3
      rw [decide_eq_false c5] at F
      refine wp_cond_false (F.ev rfl) ?_
      refine wp_exit ?_
      try dsimp only at j_3
      obtain rfl := Option.some.inj j_3
      obtain rfl := u_3 _ rfl
      repeat (with_reducible refine exT ?_)
      with_reducible refine exB ?_
      exact ⟨_, rfl, F.only [3] rfl, H.px0⟩
  · rintro a w ⟨x3, rfl, F, H⟩
    try dsimp only at h F H
    refine rg ?_
    refine mv F rfl fun a F => ?_
    refine as_ F rfl fun a F => ?_
    refine rgend ?_
    refine wp_ret ?_
    try dsimp only at h
    obtain rfl := Option.some.inj h
    exact RET _ _ (ret1 F rfl rfl ⟨_, rfl, rfl, H⟩)
def ref16_within_f (a0 : Int) (a1 : Int) (a2 : Int) : Option (Bool) :=
  (((if a0 ≥ a1 then some ((decide (a0 ≤ a2))) else some false) : Option (Bool)).bind fun x1 => some x1)
set_option maxHeartbeats 4000000 in
set_option maxRecDepth 20000 in
theorem ref16_within_ok {w0 w : World} {ps : List PF} {fs : List SF} {a0 : Int} {a1 : Int} {a2 : Int} {r0 : Bool} (H : Hp w0 ps fs w) (h : ref16_within_f a0 a1 a2 = some r0) :
    Calls Try.prog 22 [.int .i64 a0, .int .i64 a1, .int .i64 a2].toArray w fun e w' => ∃ v, e = .returned v ∧ v = .bool r0 ∧ Hp w0 ps fs w' := by
  refine enter [.int .i64 a0, .int .i64 a1, .int .i64 a2] 15 Try.func22 fun Q a NP RET NRM F => ?_
  replace NP : ∀ c a w, ¬ Q (.panic c) a w := fun c a w h => by rcases NP c a w h with h | ⟨w, v, h, _⟩ <;> cases h
  unfold ref16_within_f at h
  refine rg ?_
  refine as_ F (v := .bool false) rfl fun a F => ?_
  refine rgend ?_
  refine wp_seq ?_
  obtain ⟨o_1, k_1, h⟩ := Option.bind_eq_some_iff.1 h
  refine cut (fun a w => ∃ (x1 : Bool), x1 = o_1 ∧ Fr 15 [] [(6, .bool x1)] a ∧ Hp w0 ps fs w) ?_ ?_
  · skip
    refine wp_region_lit ?_
    refine mv F rfl fun a F => ?_
    refine mv F rfl fun a F => ?_
    refine ls (qv F (r_ge (F.ev (x := .tmp 7) rfl) (F.ev (x := .tmp 8) rfl)) fun a F => ?_)
    refine mv F rfl fun a F => ?_
    by_cases c3 : a0 ≥ a1
    · rw [if_pos c3] at k_1
      rw [decide_eq_true c3] at F
      refine mv F rfl fun a F => ?_
      refine mv F rfl fun a F => ?_
      refine ls (qv F (r_le (F.ev (x := .tmp 11) rfl) (F.ev (x := .tmp 12) rfl)) fun a F => ?_)
      refine ls (qv F (r_pickT (F.ev (x := .tmp 10) rfl) (F.ev (x := .tmp 13) rfl)) fun a F => ?_)
      refine as_ F rfl fun a F => ?_
      refine wpList_nil ?_
      replace F := F.only [6] (l' := [(6, .bool (decide (a0 ≤ a2)))]) rfl
      try dsimp only at k_1
      obtain rfl := Option.some.inj k_1
      exact ⟨_, rfl, F.only [6] rfl, H⟩
    · rw [if_neg c3] at k_1
      rw [decide_eq_false c3] at F
      refine ls (off F fun a F => ?_)
      refine ls (off F fun a F => ?_)
      refine ls (off F fun a F => ?_)
      refine ls (qv F (r_pickF (F.ev (x := .tmp 10) rfl) (F.ev (x := .const (.bool false)) rfl)) fun a F => ?_)
      refine as_ F rfl fun a F => ?_
      refine wpList_nil ?_
      replace F := F.only [6] (l' := [(6, .bool false)]) rfl
      try dsimp only at k_1
      obtain rfl := Option.some.inj k_1
      exact ⟨_, rfl, F.only [6] rfl, H⟩
  · rintro a w ⟨x1, rfl, F, H⟩
    try dsimp only at h F H
    refine wp_ret ?_
    try dsimp only at h
    obtain rfl := Option.some.inj h
    exact RET _ _ (ret1 F rfl rfl ⟨_, rfl, rfl, H⟩)
def ref16_Right_f (a0 : api_Sector) : Option (Bool) :=
  (((if a0.Gen ≥ 1 then (if a0.Gen ≤ 281474976710656 then ((ref16_within_f a0.Place 0 4096).bind fun x6 => (if x6 = true then ((ref16_within_f a0.Parts 1 32).bind fun x9 => (if x9 = true then ((ref16_within_f a0.Kept 0 1000).bind fun x12 => (if x12 = true then ((ref16_within_f (a0.Body.length : Int) 1 50).bind fun x15 => some x15) else some false)) else some false)) else some false)) else some false) else some false) : Option (Bool)).bind fun x2 => some x2)
set_option maxHeartbeats 4000000 in
set_option maxRecDepth 20000 in
theorem ref16_Right_ok {w0 w : World} {ps : List PF} {fs : List SF} {a0 : api_Sector} {A0_4 : Option Addr} {c0_4 : Nat} {r0 : Bool} (H : Hp w0 (rd kByte A0_4 c0_4 a0.Body :: ps) fs w) (h : ref16_Right_f a0 = some r0) :
    Calls Try.prog 13 [.agg #[.int .i64 a0.Gen, .int .i64 a0.Place, .int .i64 a0.Parts, .int .i64 a0.Kept, .slice A0_4 a0.Body.length c0_4]].toArray w fun e w' => ∃ v, e = .returned v ∧ v = .bool r0 ∧ Hp w0 ps fs w' := by
  refine enter [.agg #[.int .i64 a0.Gen, .int .i64 a0.Place, .int .i64 a0.Parts, .int .i64 a0.Kept, .slice A0_4 a0.Body.length c0_4]] 32 Try.func13 fun Q a NP RET NRM F => ?_
  replace NP : ∀ c a w, ¬ Q (.panic c) a w := fun c a w h => by rcases NP c a w h with h | ⟨w, v, h, _⟩ <;> cases h
  unfold ref16_Right_f at h
  refine rg ?_
  refine ls (lbox F H rfl (cs := [.int .i64 a0.Gen, .int .i64 a0.Place, .int .i64 a0.Parts, .int .i64 a0.Kept, .slice A0_4 a0.Body.length c0_4]) rfl fun g1 w a H F => ?_)
  refine as_ F (v := .bool false) rfl fun a F => ?_
  refine rgend ?_
  refine wp_seq ?_
  obtain ⟨o_2, k_2, h⟩ := Option.bind_eq_some_iff.1 h
  refine cut (fun a w => ∃ (x2 : Bool), x2 = o_2 ∧ Fr 32 [] [(2, .bool x2)] a ∧ Hp w0 ps fs w) ?_ ?_
  · skip
    refine wp_region_lit ?_
    refine ls (qv F (r_fa (off := 0) (F.ev (x := .tmp 1) rfl) fa24_0) fun a F => ?_)
    refine ls (qv F (r_ld (F.ev (x := .tmp 3) rfl) (cel_cell (o := 0) (H.cell 0 rfl) rfl) one2) fun a F => ?_)
    refine ls (qv F (r_ge (F.ev (x := .tmp 4) rfl) (F.ev (x := .const (.int .i64 1)) rfl)) fun a F => ?_)
    refine mv F rfl fun a F => ?_
    by_cases c4 : a0.Gen ≥ 1
    · rw [if_pos c4] at k_2
      rw [decide_eq_true c4] at F
      refine ls (qv F (r_fa (off := 0) (F.ev (x := .tmp 1) rfl) fa24_0) fun a F => ?_)
      refine ls (qv F (r_ld (F.ev (x := .tmp 7) rfl) (cel_cell (o := 0) (H.cell 0 rfl) rfl) one2) fun a F => ?_)
      refine ls (qv F (r_le (F.ev (x := .tmp 8) rfl) (F.ev (x := .const (.int .i64 281474976710656)) rfl)) fun a F => ?_)
      refine ls (qv F (r_pickT (F.ev (x := .tmp 6) rfl) (F.ev (x := .tmp 9) rfl)) fun a F => ?_)
      refine mv F rfl fun a F => ?_
      by_cases c5 : a0.Gen ≤ 281474976710656
      · rw [if_pos c5] at k_2
        rw [decide_eq_true c5] at F
        refine ls (qv F (r_fa (off := 1) (F.ev (x := .tmp 1) rfl) fa24_1) fun a F => ?_)
        refine ls (qv F (r_ld (F.ev (x := .tmp 12) rfl) (cel_cell (o := 1) (H.cell 0 rfl) rfl) one3) fun a F => ?_)
        obtain ⟨x6, e7, k_2⟩ := Option.bind_eq_some_iff.1 k_2
        try dsimp only at k_2
        refine ls (call F Try.func22 (ref16_within_ok (H) e7) rfl rfl fun v w hR a F => ?_)
        obtain ⟨rfl, H⟩ := hR
        refine ls (qv F (r_pickT (F.ev (x := .tmp 11) rfl) (F.ev (x := .tmp 14) rfl)) fun a F => ?_)
        refine mv F rfl fun a F => ?_
        by_cases c8 : x6 = true
        · rw [if_pos c8] at k_2
          rw [c8] at F
          refine ls (qv F (r_fa (off := 2) (F.ev (x := .tmp 1) rfl) fa24_2) fun a F => ?_)
          refine ls (qv F (r_ld (F.ev (x := .tmp 17) rfl) (cel_cell (o := 2) (H.cell 0 rfl) rfl) one3) fun a F => ?_)
          obtain ⟨x9, e10, k_2⟩ := Option.bind_eq_some_iff.1 k_2
          try dsimp only at k_2
          refine ls (call F Try.func22 (ref16_within_ok (H) e10) rfl rfl fun v w hR a F => ?_)
          obtain ⟨rfl, H⟩ := hR
          refine ls (qv F (r_pickT (F.ev (x := .tmp 16) rfl) (F.ev (x := .tmp 19) rfl)) fun a F => ?_)
          refine mv F rfl fun a F => ?_
          by_cases c11 : x9 = true
          · rw [if_pos c11] at k_2
            rw [c11] at F
            refine ls (qv F (r_fa (off := 3) (F.ev (x := .tmp 1) rfl) fa24_3) fun a F => ?_)
            refine ls (qv F (r_ld (F.ev (x := .tmp 22) rfl) (cel_cell (o := 3) (H.cell 0 rfl) rfl) one3) fun a F => ?_)
            obtain ⟨x12, e13, k_2⟩ := Option.bind_eq_some_iff.1 k_2
            try dsimp only at k_2
            refine ls (call F Try.func22 (ref16_within_ok (H) e13) rfl rfl fun v w hR a F => ?_)
            obtain ⟨rfl, H⟩ := hR
            refine ls (qv F (r_pickT (F.ev (x := .tmp 21) rfl) (F.ev (x := .tmp 24) rfl)) fun a F => ?_)
            refine mv F rfl fun a F => ?_
            by_cases c14 : x12 = true
            · rw [if_pos c14] at k_2
              rw [c14] at F
              refine ls (qv F (r_fa (off := 4) (F.ev (x := .tmp 1) rfl) fa24_4) fun a F => ?_)
              refine ls (qv F (r_ld (F.ev (x := .tmp 27) rfl) (cel_cell (o := 4) (H.cell 0 rfl) rfl) one22) fun a F => ?_)
              refine ls (qv F (r_len (F.ev (x := .tmp 28) rfl) Try.underlying22) fun a F => ?_)
              obtain ⟨x15, e16, k_2⟩ := Option.bind_eq_some_iff.1 k_2
              try dsimp only at k_2
              refine ls (call F Try.func22 (ref16_within_ok (H) e16) rfl rfl fun v w hR a F => ?_)
              obtain ⟨rfl, H⟩ := hR
              refine ls (qv F (r_pickT (F.ev (x := .tmp 26) rfl) (F.ev (x := .tmp 30) rfl)) fun a F => ?_)
              refine as_ F rfl fun a F => ?_
              refine wpList_nil ?_
              replace F := F.only [2] (l' := [(2, .bool x15)]) rfl
              try dsimp only at k_2
              obtain rfl := Option.some.inj k_2
              exact ⟨_, rfl, F.only [2] rfl, H.px0.fx0⟩
            · rw [if_neg c14] at k_2
              rw [Bool.eq_false_iff.2 c14] at F
              refine ls (off F fun a F => ?_)
              refine ls (off F fun a F => ?_)
              refine ls (off F fun a F => ?_)
              refine ls (off F fun a F => ?_)
              refine ls (qv F (r_pickF (F.ev (x := .tmp 26) rfl) (F.ev (x := .const (.bool false)) rfl)) fun a F => ?_)
              refine as_ F rfl fun a F => ?_
              refine wpList_nil ?_
              replace F := F.only [2] (l' := [(2, .bool false)]) rfl
              try dsimp only at k_2
              obtain rfl := Option.some.inj k_2
              exact ⟨_, rfl, F.only [2] rfl, H.px0.fx0⟩
          · rw [if_neg c11] at k_2
            rw [Bool.eq_false_iff.2 c11] at F
            refine ls (off F fun a F => ?_)
            refine ls (off F fun a F => ?_)
            refine ls (off F fun a F => ?_)
            refine ls (qv F (r_pickF (F.ev (x := .tmp 21) rfl) (F.ev (x := .const (.bool false)) rfl)) fun a F => ?_)
            refine mv F rfl fun a F => ?_
            refine ls (off F fun a F => ?_)
            refine ls (off F fun a F => ?_)
            refine ls (off F fun a F => ?_)
            refine ls (off F fun a F => ?_)
            refine ls (qv F (r_pickF (F.ev (x := .tmp 26) rfl) (F.ev (x := .const (.bool false)) rfl)) fun a F => ?_)
            refine as_ F rfl fun a F => ?_
            refine wpList_nil ?_
            replace F := F.only [2] (l' := [(2, .bool false)]) rfl
            try dsimp only at k_2
            obtain rfl := Option.some.inj k_2
            exact ⟨_, rfl, F.only [2] rfl, H.px0.fx0⟩
        · rw [if_neg c8] at k_2
          rw [Bool.eq_false_iff.2 c8] at F
          refine ls (off F fun a F => ?_)
          refine ls (off F fun a F => ?_)
          refine ls (off F fun a F => ?_)
          refine ls (qv F (r_pickF (F.ev (x := .tmp 16) rfl) (F.ev (x := .const (.bool false)) rfl)) fun a F => ?_)
          refine mv F rfl fun a F => ?_
          refine ls (off F fun a F => ?_)
          refine ls (off F fun a F => ?_)
          refine ls (off F fun a F => ?_)
          refine ls (qv F (r_pickF (F.ev (x := .tmp 21) rfl) (F.ev (x := .const (.bool false)) rfl)) fun a F => ?_)
          refine mv F rfl fun a F => ?_
          refine ls (off F fun a F => ?_)
          refine ls (off F fun a F => ?_)
          refine ls (off F fun a F => ?_)
          refine ls (off F fun a F => ?_)
          refine ls (qv F (r_pickF (F.ev (x := .tmp 26) rfl) (F.ev (x := .const (.bool false)) rfl)) fun a F => ?_)
          refine as_ F rfl fun a F => ?_
          refine wpList_nil ?_
          replace F := F.only [2] (l' := [(2, .bool false)]) rfl
          try dsimp only at k_2
          obtain rfl := Option.some.inj k_2
          exact ⟨_, rfl, F.only [2] rfl, H.px0.fx0⟩
      · rw [if_neg c5] at k_2
        rw [decide_eq_false c5] at F
        refine ls (off F fun a F => ?_)
        refine ls (off F fun a F => ?_)
        refine ls (off F fun a F => ?_)
        refine ls (qv F (r_pickF (F.ev (x := .tmp 11) rfl) (F.ev (x := .const (.bool false)) rfl)) fun a F => ?_)
        refine mv F rfl fun a F => ?_
        refine ls (off F fun a F => ?_)
        refine ls (off F fun a F => ?_)
        refine ls (off F fun a F => ?_)
        refine ls (qv F (r_pickF (F.ev (x := .tmp 16) rfl) (F.ev (x := .const (.bool false)) rfl)) fun a F => ?_)
        refine mv F rfl fun a F => ?_
        refine ls (off F fun a F => ?_)
        refine ls (off F fun a F => ?_)
        refine ls (off F fun a F => ?_)
        refine ls (qv F (r_pickF (F.ev (x := .tmp 21) rfl) (F.ev (x := .const (.bool false)) rfl)) fun a F => ?_)
        refine mv F rfl fun a F => ?_
        refine ls (off F fun a F => ?_)
        refine ls (off F fun a F => ?_)
        refine ls (off F fun a F => ?_)
        refine ls (off F fun a F => ?_)
        refine ls (qv F (r_pickF (F.ev (x := .tmp 26) rfl) (F.ev (x := .const (.bool false)) rfl)) fun a F => ?_)
        refine as_ F rfl fun a F => ?_
        refine wpList_nil ?_
        replace F := F.only [2] (l' := [(2, .bool false)]) rfl
        try dsimp only at k_2
        obtain rfl := Option.some.inj k_2
        exact ⟨_, rfl, F.only [2] rfl, H.px0.fx0⟩
    · rw [if_neg c4] at k_2
      rw [decide_eq_false c4] at F
      refine ls (off F fun a F => ?_)
      refine ls (off F fun a F => ?_)
      refine ls (off F fun a F => ?_)
      refine ls (qv F (r_pickF (F.ev (x := .tmp 6) rfl) (F.ev (x := .const (.bool false)) rfl)) fun a F => ?_)
      refine mv F rfl fun a F => ?_
      refine ls (off F fun a F => ?_)
      refine ls (off F fun a F => ?_)
      refine ls (off F fun a F => ?_)
      refine ls (qv F (r_pickF (F.ev (x := .tmp 11) rfl) (F.ev (x := .const (.bool false)) rfl)) fun a F => ?_)
      refine mv F rfl fun a F => ?_
      refine ls (off F fun a F => ?_)
      refine ls (off F fun a F => ?_)
      refine ls (off F fun a F => ?_)
      refine ls (qv F (r_pickF (F.ev (x := .tmp 16) rfl) (F.ev (x := .const (.bool false)) rfl)) fun a F => ?_)
      refine mv F rfl fun a F => ?_
      refine ls (off F fun a F => ?_)
      refine ls (off F fun a F => ?_)
      refine ls (off F fun a F => ?_)
      refine ls (qv F (r_pickF (F.ev (x := .tmp 21) rfl) (F.ev (x := .const (.bool false)) rfl)) fun a F => ?_)
      refine mv F rfl fun a F => ?_
      refine ls (off F fun a F => ?_)
      refine ls (off F fun a F => ?_)
      refine ls (off F fun a F => ?_)
      refine ls (off F fun a F => ?_)
      refine ls (qv F (r_pickF (F.ev (x := .tmp 26) rfl) (F.ev (x := .const (.bool false)) rfl)) fun a F => ?_)
      refine as_ F rfl fun a F => ?_
      refine wpList_nil ?_
      replace F := F.only [2] (l' := [(2, .bool false)]) rfl
      try dsimp only at k_2
      obtain rfl := Option.some.inj k_2
      exact ⟨_, rfl, F.only [2] rfl, H.px0.fx0⟩
  · rintro a w ⟨x2, rfl, F, H⟩
    try dsimp only at h F H
    refine wp_ret ?_
    try dsimp only at h
    obtain rfl := Option.some.inj h
    exact RET _ _ (ret1 F rfl rfl ⟨_, rfl, rfl, H⟩)
def ref16_Put_f (a0 : api_Sector) : Option (List Int) :=
  ((ref16_Right_f a0).bind fun x2 => (if x2 = true then ((ref16_Number_f a0.Gen 8).bind fun x5 => ((ref16_Number_f a0.Place 2).bind fun x9 => (if (x5.length + x9.length) * 1 ≤ 140737488355328 then (if ((x5 ++ x9).length + 1) * 1 ≤ 140737488355328 then ((ref16_Number_f a0.Kept 2).bind fun x20 => (if ((((x5 ++ x9) ++ ([IntKind.u8.wrap a0.Parts]))).length + x20.length) * 1 ≤ 140737488355328 then (if ((((((x5 ++ x9) ++ ([IntKind.u8.wrap a0.Parts]))) ++ x20)).length + 1) * 1 ≤ 140737488355328 then (if ((((((((x5 ++ x9) ++ ([IntKind.u8.wrap a0.Parts]))) ++ x20)) ++ ([IntKind.u8.wrap (a0.Body.length : Int)]))).length + a0.Body.length) * 1 ≤ 140737488355328 then (if 0 ≤ (IntKind.i64.wrap (50 - (a0.Body.length : Int))) ∧ ((((((((((x5 ++ x9) ++ ([IntKind.u8.wrap a0.Parts]))) ++ x20)) ++ ([IntKind.u8.wrap (a0.Body.length : Int)]))) ++ a0.Body)).length + (IntKind.i64.wrap (50 - (a0.Body.length : Int))).toNat) * 1 ≤ 140737488355328 then some ((((((((((((x5 ++ x9) ++ ([IntKind.u8.wrap a0.Parts]))) ++ x20)) ++ ([IntKind.u8.wrap (a0.Body.length : Int)]))) ++ a0.Body)) ++ List.replicate (IntKind.i64.wrap (50 - (a0.Body.length : Int))).toNat (0 : Int)))) else none) else none) else none) else none)) else none) else none))) else some []))
set_option maxHeartbeats 4000000 in
set_option maxRecDepth 20000 in
theorem ref16_Put_ok {w0 w : World} {ps : List PF} {fs : List SF} {a0 : api_Sector} {A0_4 : Option Addr} {c0_4 : Nat} {r0 : List Int} (H : Hp w0 (rd kByte A0_4 c0_4 a0.Body :: ps) fs w) (h : ref16_Put_f a0 = some r0) :
    Calls Try.prog 15 [.agg #[.int .i64 a0.Gen, .int .i64 a0.Place, .int .i64 a0.Parts, .int .i64 a0.Kept, .slice A0_4 a0.Body.length c0_4]].toArray w fun e w' => ∃ v, e = .returned v ∧ ∃ (A0 : Option Addr) (c0 : Nat), v = .slice A0 r0.length c0 ∧ Hp w0 (rd kByte A0 c0 r0 :: ps) fs w' := by
  refine enter [.agg #[.int .i64 a0.Gen, .int .i64 a0.Place, .int .i64 a0.Parts, .int .i64 a0.Kept, .slice A0_4 a0.Body.length c0_4]] 42 Try.func15 fun Q a NP RET NRM F => ?_
  replace NP : ∀ c a w, ¬ Q (.panic c) a w := fun c a w h => by rcases NP c a w h with h | ⟨w, v, h, _⟩ <;> cases h
  unfold ref16_Put_f at h
  refine rg ?_
  refine ls (lbox F H rfl (cs := [.int .i64 a0.Gen, .int .i64 a0.Place, .int .i64 a0.Parts, .int .i64 a0.Kept, .slice A0_4 a0.Body.length c0_4]) rfl fun g1 w a H F => ?_)
  refine as_ F (v := .slice none 0 0) rfl fun a F => ?_
  refine rgend ?_
  refine wp_seq ?_
  refine rg ?_
  refine ls (qv F (r_ldA (F.ev (x := .tmp 1) rfl) (cel_range (o := 0) (n := 5) (vs := [.int .i64 a0.Gen, .int .i64 a0.Place, .int .i64 a0.Parts, .int .i64 a0.Kept, .slice A0_4 a0.Body.length c0_4]) (H.cell 0 rfl) rfl) agg24 rfl) fun a F => ?_)
  obtain ⟨x2, e3, h⟩ := Option.bind_eq_some_iff.1 h
  try dsimp only at h
  refine ls (call F Try.func13 (ref16_Right_ok (a0 := a0) (H.p0) e3) rfl rfl fun v w hR a F => ?_)
  obtain ⟨rfl, H⟩ := hR
  refine ls (qv F (r_not (F.ev (x := .tmp 5) rfl)) fun a F => ?_)
  refine rgend ?_
  replace F := F.only [6, 1] (l' := [(6, .bool (!x2)), (1, .pointer (some ⟨g1, 0, none⟩))]) rfl
  by_cases c4 : x2 = true
  · rw [if_pos c4] at h
    rw [c4] at F
    refine wp_cond_false (F.ev rfl) ?_
    refine wp_skip ?_
    refine wp_seq ?_
    replace H := H.drew
    have HS := H
    refine dr (fun w => Hp w0 (rd kByte A0_4 c0_4 a0.Body :: ps) (cel g1 [.int .i64 a0.Gen, .int .i64 a0.Place, .int .i64 a0.Parts, .int .i64 a0.Kept, .slice A0_4 a0.Body.length c0_4] 24 :: fs) w) _ (by kernel_rfl) ?_ (n := 8)
    refine dq 0 F rfl (by kernel_rfl) NP HS (fun w S => (r_fa (off := 0) (F.ev (x := .tmp 1) rfl) fa24_0)) fun a F => ?_
    refine dq 1 F rfl (by kernel_rfl) NP HS (fun w S => (r_ld (F.ev (x := .tmp 7) rfl) (cel_cell (o := 0) (S.cell 0 rfl) rfl) one2)) fun a F => ?_
    refine dq 3 F rfl (by kernel_rfl) NP HS (fun w S => (r_fa (off := 1) (F.ev (x := .tmp 1) rfl) fa24_1)) fun a F => ?_
    refine dq 4 F rfl (by kernel_rfl) NP HS (fun w S => (r_ld (F.ev (x := .tmp 10) rfl) (cel_cell (o := 1) (S.cell 0 rfl) rfl) one3)) fun a F => ?_
    obtain ⟨x5, e6, h⟩ := Option.bind_eq_some_iff.1 h
    try dsimp only at h
    refine d1 2 rfl (by kernel_rfl) (call F Try.func23 (ref16_Number_ok (H) e6) rfl rfl fun v w hR a F => ?_)
    obtain ⟨A7, c8, rfl, H⟩ := hR
    have HS := H.fx0
    refine kg _ HS (fun w S => S) ?_
    obtain ⟨x9, e10, h⟩ := Option.bind_eq_some_iff.1 h
    try dsimp only at h
    refine d1 5 rfl (by kernel_rfl) (call F Try.func23 (ref16_Number_ok (H) e10) rfl rfl fun v w hR a F => ?_)
    obtain ⟨A11, c12, rfl, H⟩ := hR
    have HS := H.fx1.fx0
    refine kg _ HS (fun w S => S) ?_
    obtain ⟨c13, h⟩ := guardO h
    replace H := (H).freeze
    obtain ⟨A14, c15, _, hr, H⟩ := Hp.appendRd (kd := kByte) (xs := x5) (ys := x9) (H) 0 rfl (F.ev (x := .tmp 9) rfl) (F.ev (x := .tmp 12) rfl) Try.underlying22 ti5 rfl (by decide) (by decide) c13
    refine d1 6 rfl (by kernel_rfl) (qv F (hr _ _ _ _ _) fun a F => ?_)
    have HS := H.fx0
    refine kg _ HS (fun w S => S.px0) ?_
    refine dq 7 F rfl (by kernel_rfl) NP HS (fun w S => (r_as (F.ev (x := .tmp 13) rfl))) fun a F => ?_
    refine ddone (by kernel_rfl) ?_
    replace F := F.only [3, 1] (l' := [(3, .slice A14 (x5 ++ x9).length c15), (1, .pointer (some ⟨g1, 0, none⟩))]) rfl
    refine rg ?_
    refine mv F rfl fun a F => ?_
    refine ls (qv F (r_fa (off := 2) (F.ev (x := .tmp 1) rfl) fa24_2) fun a F => ?_)
    refine ls (qv F (r_ld (F.ev (x := .tmp 15) rfl) (cel_cell (o := 2) (H.cell 1 rfl) rfl) one3) fun a F => ?_)
    refine ls (qv F (r_ci (F.ev (x := .tmp 16) rfl) Try.underlying5 Try.underlying3) fun a F => ?_)
    refine ls (lbs F H (e := 5) (vs := [(0, .int .u8 (IntKind.u8.wrap a0.Parts))]) (cs := [.int .u8 (IntKind.u8.wrap a0.Parts)]) rfl (fun w => by kernel_rfl) fun g16 w a H F => ?_)
    obtain ⟨c17, h⟩ := guardO h
    obtain ⟨A18, c19, _, hr, H⟩ := Hp.appendCelL (kd := kByte) (xs := (x5 ++ x9)) (ys := [IntKind.u8.wrap a0.Parts]) (H.f2.f1.f2) (F.ev (x := .tmp 14) rfl) (F.ev (x := .tmp 18) rfl) Try.underlying22 ti5 rfl (by decide) (by decide) rfl ((SayL.cons (kd := kByte) (c1 := [.int .u8 (IntKind.u8.wrap a0.Parts)]) (y := IntKind.u8.wrap a0.Parts) (fun Z hp => ⟨rfl, (wrap_u8 _)⟩) SayL.nil)) c17
    refine ls (qv F (hr _ _ _ _ _) fun a F => ?_)
    refine as_ F rfl fun a F => ?_
    refine rgend ?_
    replace F := F.only [3, 1] (l' := [(3, .slice A18 (((x5 ++ x9) ++ ([IntKind.u8.wrap a0.Parts]))).length c19), (1, .pointer (some ⟨g1, 0, none⟩))]) rfl
    refine rg ?_
    refine mv F rfl fun a F => ?_
    refine ls (qv F (r_fa (off := 3) (F.ev (x := .tmp 1) rfl) fa24_3) fun a F => ?_)
    refine ls (qv F (r_ld (F.ev (x := .tmp 21) rfl) (cel_cell (o := 3) (H.cell 1 rfl) rfl) one3) fun a F => ?_)
    obtain ⟨x20, e21, h⟩ := Option.bind_eq_some_iff.1 h
    try dsimp only at h
    refine ls (call F Try.func23 (ref16_Number_ok (H) e21) rfl rfl fun v w hR a F => ?_)
    obtain ⟨A22, c23, rfl, H⟩ := hR
    obtain ⟨c24, h⟩ := guardO h
    replace H := (H).freeze
    obtain ⟨A25, c26, _, hr, H⟩ := Hp.appendRd (kd := kByte) (xs := ((x5 ++ x9) ++ ([IntKind.u8.wrap a0.Parts]))) (ys := x20) (H) 0 rfl (F.ev (x := .tmp 20) rfl) (F.ev (x := .tmp 23) rfl) Try.underlying22 ti5 rfl (by decide) (by decide) c24
    refine ls (qv F (hr _ _ _ _ _) fun a F => ?_)
    refine as_ F rfl fun a F => ?_
    refine rgend ?_
    replace F := F.only [3, 1] (l' := [(3, .slice A25 (((((x5 ++ x9) ++ ([IntKind.u8.wrap a0.Parts]))) ++ x20)).length c26), (1, .pointer (some ⟨g1, 0, none⟩))]) rfl
    refine rg ?_
    refine mv F rfl fun a F => ?_
    refine ls (qv F (r_fa (off := 4) (F.ev (x := .tmp 1) rfl) fa24_4) fun a F => ?_)
    refine ls (qv F (r_ld (F.ev (x := .tmp 26) rfl) (cel_cell (o := 4) (H.cell 1 rfl) rfl) one22) fun a F => ?_)
    refine ls (qv F (r_len (F.ev (x := .tmp 27) rfl) Try.underlying22) fun a F => ?_)
    refine ls (qv F (r_ci (F.ev (x := .tmp 28) rfl) Try.underlying5 Try.underlying3) fun a F => ?_)
    refine ls (lbs F H (e := 5) (vs := [(0, .int .u8 (IntKind.u8.wrap (a0.Body.length : Int)))]) (cs := [.int .u8 (IntKind.u8.wrap (a0.Body.length : Int))]) rfl (fun w => by kernel_rfl) fun g27 w a H F => ?_)
    obtain ⟨c28, h⟩ := guardO h
    obtain ⟨A29, c30, _, hr, H⟩ := Hp.appendCelL (kd := kByte) (xs := ((((x5 ++ x9) ++ ([IntKind.u8.wrap a0.Parts]))) ++ x20)) (ys := [IntKind.u8.wrap (a0.Body.length : Int)]) (H.f2.f1.f2) (F.ev (x := .tmp 25) rfl) (F.ev (x := .tmp 30) rfl) Try.underlying22 ti5 rfl (by decide) (by decide) rfl ((SayL.cons (kd := kByte) (c1 := [.int .u8 (IntKind.u8.wrap (a0.Body.length : Int))]) (y := IntKind.u8.wrap (a0.Body.length : Int)) (fun Z hp => ⟨rfl, (wrap_u8 _)⟩) SayL.nil)) c28
    refine ls (qv F (hr _ _ _ _ _) fun a F => ?_)
    refine as_ F rfl fun a F => ?_
    refine rgend ?_
    replace F := F.only [3, 1] (l' := [(3, .slice A29 (((((((x5 ++ x9) ++ ([IntKind.u8.wrap a0.Parts]))) ++ x20)) ++ ([IntKind.u8.wrap (a0.Body.length : Int)]))).length c30), (1, .pointer (some ⟨g1, 0, none⟩))]) rfl
    refine rg ?_
    refine mv F rfl fun a F => ?_
    refine ls (qv F (r_fa (off := 4) (F.ev (x := .tmp 1) rfl) fa24_4) fun a F => ?_)
    refine ls (qv F (r_ld (F.ev (x := .tmp 33) rfl) (cel_cell (o := 4) (H.cell 1 rfl) rfl) one22) fun a F => ?_)
    obtain ⟨c31, h⟩ := guardO h
    obtain ⟨A32, c33, _, hr, H⟩ := Hp.appendRd (kd := kByte) (xs := ((((((x5 ++ x9) ++ ([IntKind.u8.wrap a0.Parts]))) ++ x20)) ++ ([IntKind.u8.wrap (a0.Body.length : Int)]))) (ys := a0.Body) (H) 2 rfl (F.ev (x := .tmp 32) rfl) (F.ev (x := .tmp 34) rfl) Try.underlying22 ti5 rfl (by decide) (by decide) c31
    refine ls (qv F (hr _ _ _ _ _) fun a F => ?_)
    refine as_ F rfl fun a F => ?_
    refine rgend ?_
    replace F := F.only [3, 1] (l' := [(3, .slice A32 (((((((((x5 ++ x9) ++ ([IntKind.u8.wrap a0.Parts]))) ++ x20)) ++ ([IntKind.u8.wrap (a0.Body.length : Int)]))) ++ a0.Body)).length c33), (1, .pointer (some ⟨g1, 0, none⟩))]) rfl
    refine rg ?_
    refine mv F rfl fun a F => ?_
    refine ls (qv F (r_fa (off := 4) (F.ev (x := .tmp 1) rfl) fa24_4) fun a F => ?_)
    refine ls (qv F (r_ld (F.ev (x := .tmp 37) rfl) (cel_cell (o := 4) (H.cell 1 rfl) rfl) one22) fun a F => ?_)
    refine ls (qv F (r_len (F.ev (x := .tmp 38) rfl) Try.underlying22) fun a F => ?_)
    refine ls (qv F (r_sub (F.ev (x := .const (.int .i64 50)) rfl) (F.ev (x := .tmp 39) rfl)) fun a F => ?_)
    obtain ⟨c34, h⟩ := guardO h
    obtain ⟨A35, c36, _, hr, H⟩ := Hp.appendZ (kd := kByte) (xs := ((((((((x5 ++ x9) ++ ([IntKind.u8.wrap a0.Parts]))) ++ x20)) ++ ([IntKind.u8.wrap (a0.Body.length : Int)]))) ++ a0.Body)) (zx := (0 : Int)) (H) (F.ev (x := .tmp 36) rfl) (F.ev (x := .tmp 40) rfl) Try.underlying22 Try.underlying3 ti5 rfl rfl (by decide) c34.1 c34.2 rfl (fun Z w => ⟨rfl, by decide⟩)
    refine ls (qv F (hr _ _ _ _ _) fun a F => ?_)
    refine as_ F rfl fun a F => ?_
    refine rgend ?_
    replace F := F.only [2] (l' := [(2, .slice A35 (((((((((((x5 ++ x9) ++ ([IntKind.u8.wrap a0.Parts]))) ++ x20)) ++ ([IntKind.u8.wrap (a0.Body.length : Int)]))) ++ a0.Body)) ++ List.replicate (IntKind.i64.wrap (50 - (a0.Body.length : Int))).toNat (0 : Int))).length c36)]) rfl
    refine wp_ret ?_
    replace H := (H).freeze
    try dsimp only at h
    obtain rfl := Option.some.inj h
    exact RET _ _ (ret1 F rfl rfl ⟨_, rfl, A35, c36, rfl, H.px3.px2.px1.fx0⟩)
  · rw [if_neg c4] at h
    rw [Bool.eq_false_iff.2 c4] at F
    refine wp_cond_true (F.ev rfl) ?_
    refine rg ?_
    refine as_ F (v := .slice none 0 0) rfl fun a F => ?_
    refine rgend ?_
    refine wp_ret ?_
    replace H := H.nilRd kByte
    try dsimp only at h
    obtain rfl := Option.some.inj h
    exact RET _ _ (ret1 F rfl rfl ⟨_, rfl, none, 0, rfl, H.px1.fx0⟩)
def ref16_Get_b0 (a0 : List Int) : Int → Option (Int ⊕ (Unit ⊕ (api_Sector × Bool)))
  | x214 => (if x214 < (a0.length : Int) then (if 0 ≤ x214 ∧ x214 < (a0.length : Int) then (if (a0.getD (x214 : Int).toNat 0) ≠ 0 then some (.inr (.inr (((⟨0, 0, 0, 0, []⟩ : api_Sector), false)))) else some (.inl (IntKind.i64.wrap (x214 + 1)))) else none) else some (.inr (.inl ())))
def ref16_Get_f (a0 : List Int) : Option (api_Sector × Bool) :=
  (if (a0.length : Int) ≠ 64 then some (((⟨0, 0, 0, 0, []⟩ : api_Sector), false)) else (if 0 ≤ (0 : Int) ∧ (0 : Int) < (a0.length : Int) then (if (a0.getD (0 : Int).toNat 0) ≠ 0 then some (((⟨0, 0, 0, 0, []⟩ : api_Sector), false)) else (if 0 ≤ (13 : Int) ∧ (13 : Int) < (a0.length : Int) then (if (IntKind.i64.wrap (a0.getD (13 : Int).toNat 0)) > 50 then some (((⟨0, 0, 0, 0, []⟩ : api_Sector), false)) else (((if 0 ≤ (0 : Int) ∧ (0 : Int) ≤ (8 : Int) ∧ (8 : Int) ≤ (a0.length : Int) then (if 0 ≤ (8 : Int) ∧ (8 : Int) ≤ (10 : Int) ∧ (10 : Int) ≤ (a0.length : Int) then (if 0 ≤ (10 : Int) ∧ (10 : Int) < (a0.length : Int) then (if 0 ≤ (11 : Int) ∧ (11 : Int) ≤ (13 : Int) ∧ (13 : Int) ≤ (a0.length : Int) then (if 0 ≤ (14 : Int) ∧ (14 : Int) ≤ IntKind.i64.wrap (14 + (IntKind.i64.wrap (a0.getD (13 : Int).toNat 0))) ∧ IntKind.i64.wrap (14 + (IntKind.i64.wrap (a0.getD (13 : Int).toNat 0))) ≤ (a0.length : Int) then ((ref16_Read_f (((a0.take ((8 : Int)).toNat).drop ((0 : Int)).toNat))).bind fun x40 => ((ref16_Read_f (((a0.take ((10 : Int)).toNat).drop ((8 : Int)).toNat))).bind fun x42 => ((ref16_Read_f (((a0.take ((13 : Int)).toNat).drop ((11 : Int)).toNat))).bind fun x44 => (if (0 + (((a0.take (IntKind.i64.wrap (14 + (IntKind.i64.wrap (a0.getD (13 : Int).toNat 0)))).toNat).drop ((14 : Int)).toNat)).length) * 1 ≤ 140737488355328 then some (x40, x42, x44, ((a0.take (IntKind.i64.wrap (14 + (IntKind.i64.wrap (a0.getD (13 : Int).toNat 0)))).toNat).drop ((14 : Int)).toNat)) else none)))) else none) else none) else none) else none) else none) : Option (Int × Int × Int × (List Int))).bind fun (x16, x17, x18, x19) => ((lp (ref16_Get_b0 a0) (IntKind.i64.wrap (14 + (IntKind.i64.wrap (a0.getD (13 : Int).toNat 0))))).bind fun q => match q with | .inl _ => ((ref16_Right_f ((⟨x16, x17, IntKind.i64.wrap (a0.getD (10 : Int).toNat 0), x18, x19⟩ : api_Sector))).bind fun x223 => (if x223 = true then some (((⟨x16, x17, IntKind.i64.wrap (a0.getD (10 : Int).toNat 0), x18, x19⟩ : api_Sector), true)) else some (((⟨0, 0, 0, 0, []⟩ : api_Sector), false)))) | .inr r => some r))) else none)) else none))
set_option maxHeartbeats 4000000 in
set_option maxRecDepth 20000 in
theorem ref16_Get_ok {w0 w : World} {ps : List PF} {fs : List SF} {a0 : List Int} {A0_ : Option Addr} {c0_ : Nat} {r0 : api_Sector} {r1 : Bool} (H : Hp w0 (rd kByte A0_ c0_ a0 :: ps) fs w) (h : ref16_Get_f a0 = some (r0, r1)) :
    Calls Try.prog 11 [.slice A0_ a0.length c0_].toArray w fun e w' => ∃ v, e = .returned v ∧ ∃ (A0_4 : Option Addr) (c0_4 : Nat), v = .tuple #[.agg #[.int .i64 r0.Gen, .int .i64 r0.Place, .int .i64 r0.Parts, .int .i64 r0.Kept, .slice A0_4 r0.Body.length c0_4], .bool r1] ∧ Hp w0 (rd kByte A0_4 c0_4 r0.Body :: ps) fs w' := by
  refine enter [.slice A0_ a0.length c0_] 63 Try.func11 fun Q a NP RET NRM F => ?_
  replace NP : ∀ c a w, ¬ Q (.panic c) a w := fun c a w h => by rcases NP c a w h with h | ⟨w, v, h, _⟩ <;> cases h
  unfold ref16_Get_f at h
  refine rg ?_
  refine ls (lal F H ti24 (cs := [.int .i64 0, .int .i64 0, .int .i64 0, .int .i64 0, .slice none 0 0]) rfl fun g1 w a H F => ?_)
  refine as_ F (v := .bool false) rfl fun a F => ?_
  refine rgend ?_
  refine wp_seq ?_
  refine rg ?_
  refine mv F rfl fun a F => ?_
  refine ls (qv F (r_len (F.ev (x := .tmp 7) rfl) Try.underlying22) fun a F => ?_)
  refine ls (qv F (r_ne (F.ev (x := .tmp 8) rfl) (F.ev (x := .const (.int .i64 64)) rfl)) fun a F => ?_)
  refine mv F rfl fun a F => ?_
  by_cases c2 : (a0.length : Int) ≠ 64
  · rw [if_pos c2] at h
    rw [decide_eq_true c2] at F
    refine ls (off F fun a F => ?_)
    refine ls (off F fun a F => ?_)
    refine ls (off F fun a F => ?_)
    refine ls (off F fun a F => ?_)
    refine ls (qv F (r_pickT (F.ev (x := .tmp 10) rfl) (F.ev (x := .const (.bool true)) rfl)) fun a F => ?_)
    refine rgend ?_
    replace F := F.only [15, 2, 0] (l' := [(15, .bool true), (2, .pointer (some ⟨g1, 0, none⟩)), (0, .slice A0_ a0.length c0_)]) rfl
    refine wp_cond_true (F.ev rfl) ?_
    refine rg ?_
    refine ls (lbd F (vs := []) (cs := [.int .i64 0, .int .i64 0, .int .i64 0, .int .i64 0, .slice none 0 0]) rfl (fun w => by kernel_rfl) fun a F => ?_)
    obtain ⟨_, hr, H⟩ := Hp.store (t := 24) (o := 0) (n := 5) (vs := [.int .i64 0, .int .i64 0, .int .i64 0, .int .i64 0, .slice none 0 0]) (cs' := [.int .i64 0, .int .i64 0, .int .i64 0, .int .i64 0, .slice none 0 0]) (H) (F.ev (x := .tmp 2) rfl) (F.ev (x := .tmp 16) rfl) rfl sz24 rfl (Nat.le_of_ble_eq_true rfl) rfl rfl
    refine ls (qn F (.inl rfl) (hr _ _ _ _) fun a F => ?_)
    refine as_ F (v := .bool false) rfl fun a F => ?_
    refine rgend ?_
    refine wp_ret ?_
    replace H := H.nilRd kByte
    try dsimp only at h
    obtain ⟨rfl, rfl⟩ := Prod.mk.inj (Option.some.inj h)
    exact RET _ _ (retC2 F rfl rfl rfl (ldvA (cel_range (o := 0) (n := 5) (vs := [.int .i64 0, .int .i64 0, .int .i64 0, .int .i64 0, .slice none 0 0]) (H.cell 0 rfl) rfl) agg24 rfl) ⟨_, rfl, none, 0, rfl, H.px1.fx0⟩)
  · rw [if_neg c2] at h
    rw [decide_eq_false c2] at F
    refine mv F rfl fun a F => ?_
    obtain ⟨c3, h⟩ := guardO h
    obtain ⟨g4, o5, s6, hr, H⟩ := H.ix 0 0 rfl (F.ev (x := .tmp 11) rfl) (F.ev (x := .const (.int .i64 0)) rfl) Try.underlying22 sz5 (by decide) c3.1 c3.2
    obtain ⟨rfl, hr7⟩ := H.says_byte 1 rfl
    refine ls (qv F (hr _ _ _ _ _ _) fun a F => ?_)
    refine ls (qv F (r_ld (F.ev (x := .tmp 12) rfl) (range_cell (j := 0) (H.range 0 rfl) rfl) one5) fun a F => ?_)
    refine ls (qv F (r_ne (F.ev (x := .tmp 13) rfl) (F.ev (x := .const (.int .u8 0)) rfl)) fun a F => ?_)
    refine ls (qv F (r_pickF (F.ev (x := .tmp 10) rfl) (F.ev (x := .tmp 14) rfl)) fun a F => ?_)
    refine rgend ?_
    replace F := F.only [15, 2, 0] (l' := [(15, .bool (decide ((a0.getD (0 : Int).toNat 0) ≠ 0))), (2, .pointer (some ⟨g1, 0, none⟩)), (0, .slice A0_ a0.length c0_)]) rfl
    by_cases c8 : (a0.getD (0 : Int).toNat 0) ≠ 0
    · rw [if_pos c8] at h
      rw [decide_eq_true c8] at F
      refine wp_cond_true (F.ev rfl) ?_
      refine rg ?_
      refine ls (lbd F (vs := []) (cs := [.int .i64 0, .int .i64 0, .int .i64 0, .int .i64 0, .slice none 0 0]) rfl (fun w => by kernel_rfl) fun a F => ?_)
      obtain ⟨_, hr, H⟩ := Hp.store (t := 24) (o := 0) (n := 5) (vs := [.int .i64 0, .int .i64 0, .int .i64 0, .int .i64 0, .slice none 0 0]) (cs' := [.int .i64 0, .int .i64 0, .int .i64 0, .int .i64 0, .slice none 0 0]) (H) (F.ev (x := .tmp 2) rfl) (F.ev (x := .tmp 16) rfl) rfl sz24 rfl (Nat.le_of_ble_eq_true rfl) rfl rfl
      refine ls (qn F (.inl rfl) (hr _ _ _ _) fun a F => ?_)
      refine as_ F (v := .bool false) rfl fun a F => ?_
      refine rgend ?_
      refine wp_ret ?_
      replace H := H.nilRd kByte
      try dsimp only at h
      obtain ⟨rfl, rfl⟩ := Prod.mk.inj (Option.some.inj h)
      exact RET _ _ (retC2 F rfl rfl rfl (ldvA (cel_range (o := 0) (n := 5) (vs := [.int .i64 0, .int .i64 0, .int .i64 0, .int .i64 0, .slice none 0 0]) (H.cell 0 rfl) rfl) agg24 rfl) ⟨_, rfl, none, 0, rfl, H.px3.px2.px1.fx0⟩)
    · rw [if_neg c8] at h
      rw [decide_eq_false c8] at F
      refine wp_cond_false (F.ev rfl) ?_
      refine wp_skip ?_
      refine rg ?_
      refine mv F rfl fun a F => ?_
      obtain ⟨c9, h⟩ := guardO h
      obtain ⟨g10, o11, s12, hr, H⟩ := H.ix 0 2 rfl (F.ev (x := .tmp 17) rfl) (F.ev (x := .const (.int .i64 13)) rfl) Try.underlying22 sz5 (by decide) c9.1 c9.2
      obtain ⟨rfl, hr13⟩ := H.says_byte 1 rfl
      refine ls (qv F (hr _ _ _ _ _ _) fun a F => ?_)
      refine ls (qv F (r_ld (F.ev (x := .tmp 18) rfl) (range_cell (j := 0) (H.range 0 rfl) rfl) one5) fun a F => ?_)
      refine ls (qv F (r_ci (F.ev (x := .tmp 19) rfl) Try.underlying3 Try.underlying5) fun a F => ?_)
      refine as_ F rfl fun a F => ?_
      refine rgend ?_
      replace F := F.only [4, 2, 0] (l' := [(4, .int .i64 (IntKind.i64.wrap (a0.getD (13 : Int).toNat 0))), (2, .pointer (some ⟨g1, 0, none⟩)), (0, .slice A0_ a0.length c0_)]) rfl
      refine wp_seq ?_
      refine rg ?_
      refine mv F rfl fun a F => ?_
      refine ls (qv F (r_gt (F.ev (x := .tmp 21) rfl) (F.ev (x := .const (.int .i64 50)) rfl)) fun a F => ?_)
      refine rgend ?_
      by_cases c14 : (IntKind.i64.wrap (a0.getD (13 : Int).toNat 0)) > 50
      · rw [if_pos c14] at h
        rw [decide_eq_true c14] at F
        refine wp_cond_true (F.ev rfl) ?_
        refine rg ?_
        refine ls (lbd F (vs := []) (cs := [.int .i64 0, .int .i64 0, .int .i64 0, .int .i64 0, .slice none 0 0]) rfl (fun w => by kernel_rfl) fun a F => ?_)
        obtain ⟨_, hr, H⟩ := Hp.store (t := 24) (o := 0) (n := 5) (vs := [.int .i64 0, .int .i64 0, .int .i64 0, .int .i64 0, .slice none 0 0]) (cs' := [.int .i64 0, .int .i64 0, .int .i64 0, .int .i64 0, .slice none 0 0]) (H) (F.ev (x := .tmp 2) rfl) (F.ev (x := .tmp 23) rfl) rfl sz24 rfl (Nat.le_of_ble_eq_true rfl) rfl rfl
        refine ls (qn F (.inl rfl) (hr _ _ _ _) fun a F => ?_)
        refine as_ F (v := .bool false) rfl fun a F => ?_
        refine rgend ?_
        replace F := F.only [3, 2] (l' := [(3, .bool false), (2, .pointer (some ⟨g1, 0, none⟩))]) rfl
        refine wp_ret ?_
        replace H := H.nilRd kByte
        try dsimp only at h
        obtain ⟨rfl, rfl⟩ := Prod.mk.inj (Option.some.inj h)
        exact RET _ _ (retC2 F rfl rfl rfl (ldvA (cel_range (o := 0) (n := 5) (vs := [.int .i64 0, .int .i64 0, .int .i64 0, .int .i64 0, .slice none 0 0]) (H.cell 0 rfl) rfl) agg24 rfl) ⟨_, rfl, none, 0, rfl, H.px5.px4.px3.px2.px1.fx0⟩)
      · rw [if_neg c14] at h
        rw [decide_eq_false c14] at F
        refine wp_cond_false (F.ev rfl) ?_
        refine wp_skip ?_
        refine wp_seq ?_
        obtain ⟨o_21, k_21, h⟩ := Option.bind_eq_some_iff.1 h
        refine cut (fun a w => ∃ (x16 : Int) (x17 : Int) (x18 : Int) (x19 : List Int), (x16, x17, x18, x19) = o_21 ∧ ∃ (g15 : Nat) (A20 : Option Addr) (c21 : Nat), Fr 63 [] [(0, .slice A0_ a0.length c0_), (2, .pointer (some ⟨g1, 0, none⟩)), (4, .int .i64 (IntKind.i64.wrap (a0.getD (13 : Int).toNat 0))), (5, .pointer (some ⟨g15, 0, none⟩))] a ∧ Hp w0 (rd kByte A0_ c0_ a0 :: ps) (own kByte 5 A20 c21 x19 :: cel g15 [.int .i64 x16, .int .i64 x17, .int .i64 (IntKind.i64.wrap (a0.getD (10 : Int).toNat 0)), .int .i64 x18, .slice A20 x19.length c21] 24 :: cel g1 [.int .i64 0, .int .i64 0, .int .i64 0, .int .i64 0, .slice none 0 0] 24 :: fs) w) ?_ ?_
        · skip
          replace H := H.drew
          have HS := H
          refine dr (fun w => Hp w0 (celz g10 o11 [.int .u8 ((a0.getD (13 : Int).toNat 0))] :: says kByte [.int .u8 ((a0.getD (13 : Int).toNat 0))] ((a0.getD (13 : Int).toNat 0)) :: celz g4 o5 [.int .u8 ((a0.getD (0 : Int).toNat 0))] :: says kByte [.int .u8 ((a0.getD (0 : Int).toNat 0))] ((a0.getD (0 : Int).toNat 0)) :: rd kByte A0_ c0_ a0 :: ps) (cel g1 [.int .i64 0, .int .i64 0, .int .i64 0, .int .i64 0, .slice none 0 0] 24 :: fs) w) _ (by kernel_rfl) ?_ (n := 22)
          refine dq 0 F rfl (by kernel_rfl) NP HS (fun w S => (r_mv (F.ev (x := .tmp 0) rfl))) fun a F => ?_
          obtain ⟨c23, k_21⟩ := guardO k_21
          obtain ⟨A24, c25, hr, H⟩ := Hp.sl (kd := kByte) (jl := (0 : Int)) (jh := (8 : Int)) H 4 rfl (F.ev (x := .tmp 24) rfl) Try.underlying22 sz5 (.inl ⟨rfl, rfl⟩) (.inr ⟨_, _, rfl, (F.ev (x := .const (.int .i64 8)) rfl)⟩) c23
          have HS := H
          refine dmoreH HS (fun w S => S.px0) ?_
          refine dq 1 F rfl (by kernel_rfl) NP HS (fun w S => (hr _ _ _ _ _ _)) fun a F => ?_
          refine dq 3 F rfl (by kernel_rfl) NP HS (fun w S => (r_mv (F.ev (x := .tmp 0) rfl))) fun a F => ?_
          obtain ⟨c26, k_21⟩ := guardO k_21
          obtain ⟨A27, c28, hr, H⟩ := Hp.sl (kd := kByte) (jl := (8 : Int)) (jh := (10 : Int)) H 5 rfl (F.ev (x := .tmp 27) rfl) Try.underlying22 sz5 (.inr ⟨_, _, rfl, (F.ev (x := .const (.int .i64 8)) rfl)⟩) (.inr ⟨_, _, rfl, (F.ev (x := .const (.int .i64 10)) rfl)⟩) c26
          have HS := H
          refine dmoreH HS (fun w S => S.px0) ?_
          refine dq 4 F rfl (by kernel_rfl) NP HS (fun w S => (hr _ _ _ _ _ _)) fun a F => ?_
          refine dq 6 F rfl (by kernel_rfl) NP HS (fun w S => (r_mv (F.ev (x := .tmp 0) rfl))) fun a F => ?_
          obtain ⟨c29, k_21⟩ := guardO k_21
          obtain ⟨g30, o31, s32, hr, H⟩ := H.ix 0 6 rfl (F.ev (x := .tmp 30) rfl) (F.ev (x := .const (.int .i64 10)) rfl) Try.underlying22 sz5 (by decide) c29.1 c29.2
          obtain ⟨rfl, hr33⟩ := H.says_byte 1 rfl
          have HS := H
          refine dmoreH HS (fun w S => S.px1.px0) ?_
          refine dq 7 F rfl (by kernel_rfl) NP HS (fun w S => (hr _ _ _ _ _ _)) fun a F => ?_
          refine dq 8 F rfl (by kernel_rfl) NP HS (fun w S => (r_ld (F.ev (x := .tmp 31) rfl) (range_cell (j := 0) (S.range 0 rfl) rfl) one5)) fun a F => ?_
          refine dq 9 F rfl (by kernel_rfl) NP HS (fun w S => (r_ci (F.ev (x := .tmp 32) rfl) Try.underlying3 Try.underlying5)) fun a F => ?_
          refine dq 10 F rfl (by kernel_rfl) NP HS (fun w S => (r_mv (F.ev (x := .tmp 0) rfl))) fun a F => ?_
          obtain ⟨c34, k_21⟩ := guardO k_21
          obtain ⟨A35, c36, hr, H⟩ := Hp.sl (kd := kByte) (jl := (11 : Int)) (jh := (13 : Int)) H 8 rfl (F.ev (x := .tmp 34) rfl) Try.underlying22 sz5 (.inr ⟨_, _, rfl, (F.ev (x := .const (.int .i64 11)) rfl)⟩) (.inr ⟨_, _, rfl, (F.ev (x := .const (.int .i64 13)) rfl)⟩) c34
          have HS := H
          refine dmoreH HS (fun w S => S.px0) ?_
          refine dq 11 F rfl (by kernel_rfl) NP HS (fun w S => (hr _ _ _ _ _ _)) fun a F => ?_
          refine dq 14 F rfl (by kernel_rfl) NP HS (fun w S => (r_mv (F.ev (x := .tmp 0) rfl))) fun a F => ?_
          refine dq 15 F rfl (by kernel_rfl) NP HS (fun w S => (r_mv (F.ev (x := .tmp 4) rfl))) fun a F => ?_
          refine dq 16 F rfl (by kernel_rfl) NP HS (fun w S => (r_add (F.ev (x := .const (.int .i64 14)) rfl) (F.ev (x := .tmp 39) rfl))) fun a F => ?_
          obtain ⟨c37, k_21⟩ := guardO k_21
          obtain ⟨A38, c39, hr, H⟩ := Hp.sl (kd := kByte) (jl := (14 : Int)) (jh := IntKind.i64.wrap (14 + (IntKind.i64.wrap (a0.getD (13 : Int).toNat 0)))) H 9 rfl (F.ev (x := .tmp 38) rfl) Try.underlying22 sz5 (.inr ⟨_, _, rfl, (F.ev (x := .const (.int .i64 14)) rfl)⟩) (.inr ⟨_, _, rfl, (F.ev (x := .tmp 40) rfl)⟩) c37
          have HS := H
          refine dmoreH HS (fun w S => S.px0) ?_
          refine dq 17 F rfl (by kernel_rfl) NP HS (fun w S => (hr _ _ _ _ _ _)) fun a F => ?_
          refine d3 2 13 20 rfl rfl rfl (by kernel_rfl) ?_ ?_ ?_
          · skip
            obtain ⟨x40, e41, k_21⟩ := Option.bind_eq_some_iff.1 k_21
            try dsimp only at k_21
            refine call F Try.func19 (ref16_Read_ok (H.p5) e41) rfl rfl fun v w hR a F => ?_
            obtain ⟨rfl, H⟩ := hR
            have HS := H
            refine kg _ HS (fun w S => S) ?_
            refine d3 5 13 20 rfl rfl rfl (by kernel_rfl) ?_ ?_ ?_
            · skip
              obtain ⟨x42, e43, k_21⟩ := Option.bind_eq_some_iff.1 k_21
              try dsimp only at k_21
              refine call F Try.func19 (ref16_Read_ok (H.p4) e43) rfl rfl fun v w hR a F => ?_
              obtain ⟨rfl, H⟩ := hR
              have HS := H
              refine kg _ HS (fun w S => S) ?_
              refine d3 12 13 20 rfl rfl rfl (by kernel_rfl) ?_ ?_ ?_
              · skip
                obtain ⟨x44, e45, k_21⟩ := Option.bind_eq_some_iff.1 k_21
                try dsimp only at k_21
                refine call F Try.func19 (ref16_Read_ok (H.p1) e45) rfl rfl fun v w hR a F => ?_
                obtain ⟨rfl, H⟩ := hR
                have HS := H
                refine kg _ HS (fun w S => S) ?_
                refine d2 13 20 rfl rfl (by kernel_rfl) ?_ ?_
                · skip
                  refine lbs F H (e := 5) (vs := []) (cs := []) rfl (fun w => by kernel_rfl) fun g46 w a H F => ?_
                  have HS := H.fx0
                  refine kg _ HS (fun w S => S) ?_
                  refine d2 18 20 rfl rfl (by kernel_rfl) ?_ ?_
                  · skip
                    replace H := Hp.litOwn (kd := kByte) (xs := []) (H) (SayL.nil) (Nat.le_of_ble_eq_true rfl)
                    obtain ⟨c47, k_21⟩ := guardO k_21
                    obtain ⟨A48, c49, _, hr, H⟩ := Hp.appendRd (kd := kByte) (xs := []) (ys := ((a0.take (IntKind.i64.wrap (14 + (IntKind.i64.wrap (a0.getD (13 : Int).toNat 0)))).toNat).drop ((14 : Int)).toNat)) (H) 0 rfl (F.ev (x := .tmp 37) rfl) (F.ev (x := .tmp 41) rfl) Try.underlying22 ti5 rfl (by decide) (by decide) c47
                    rw [List.nil_append] at hr H
                    refine qv F (hr _ _ _ _ _) fun a F => ?_
                    have HS := H.fx0
                    refine kg _ HS (fun w S => S) ?_
                    refine dq 19 F rfl (by kernel_rfl) NP HS (fun w S => (r_bd F (vs := [(0, .int .i64 x40), (1, .int .i64 x42), (2, .int .i64 (IntKind.i64.wrap (a0.getD (10 : Int).toNat 0))), (3, .int .i64 x44), (4, .slice A48 (((a0.take (IntKind.i64.wrap (14 + (IntKind.i64.wrap (a0.getD (13 : Int).toNat 0)))).toNat).drop ((14 : Int)).toNat)).length c49)]) (cs := [.int .i64 x40, .int .i64 x42, .int .i64 (IntKind.i64.wrap (a0.getD (10 : Int).toNat 0)), .int .i64 x44, .slice A48 (((a0.take (IntKind.i64.wrap (14 + (IntKind.i64.wrap (a0.getD (13 : Int).toNat 0)))).toNat).drop ((14 : Int)).toNat)).length c49]) rfl (fun w => by kernel_rfl))) fun a F => ?_
                    refine d1 20 rfl (by kernel_rfl) (lal F H ti24 (cs := [.int .i64 0, .int .i64 0, .int .i64 0, .int .i64 0, .slice none 0 0]) rfl fun g50 w a H F => ?_)
                    have HS := H.fx1.fx0
                    refine kg _ HS (fun w S => S) ?_
                    obtain ⟨_, hr, H⟩ := Hp.store (t := 24) (o := 0) (n := 5) (vs := [.int .i64 x40, .int .i64 x42, .int .i64 (IntKind.i64.wrap (a0.getD (10 : Int).toNat 0)), .int .i64 x44, .slice A48 (((a0.take (IntKind.i64.wrap (14 + (IntKind.i64.wrap (a0.getD (13 : Int).toNat 0)))).toNat).drop ((14 : Int)).toNat)).length c49]) (cs' := [.int .i64 x40, .int .i64 x42, .int .i64 (IntKind.i64.wrap (a0.getD (10 : Int).toNat 0)), .int .i64 x44, .slice A48 (((a0.take (IntKind.i64.wrap (14 + (IntKind.i64.wrap (a0.getD (13 : Int).toNat 0)))).toNat).drop ((14 : Int)).toNat)).length c49]) (H) (F.ev (x := .tmp 5) rfl) (F.ev (x := .tmp 43) rfl) rfl sz24 rfl (Nat.le_of_ble_eq_true rfl) rfl rfl
                    refine d1 21 rfl (by kernel_rfl) (qn F (.inl rfl) (hr _ _ _ _) fun a F => ?_)
                    have HS := H.fx1.fx0
                    refine kg _ HS (fun w S => S) ?_
                    refine ddone (by kernel_rfl) ?_
                    replace F := F.only [5, 4, 2, 0] (l' := [(5, .pointer (some ⟨g50, 0, none⟩)), (4, .int .i64 (IntKind.i64.wrap (a0.getD (13 : Int).toNat 0))), (2, .pointer (some ⟨g1, 0, none⟩)), (0, .slice A0_ a0.length c0_)]) rfl
                    try dsimp only at k_21
                    obtain rfl := Option.some.inj k_21
                    exact ⟨_, _, _, _, rfl, g50, A48, c49, F.only [0, 2, 4, 5] rfl, H.px9.px8.px7.px6.px5.px4.px3.px2.px1.px0.f2.f1.f2⟩
                  · skip
                    refine lal F H ti24 (cs := [.int .i64 0, .int .i64 0, .int .i64 0, .int .i64 0, .slice none 0 0]) rfl fun g51 w a H F => ?_
                    have HS := H.fx1.fx0
                    refine kg _ HS (fun w S => S) ?_
                    replace H := Hp.litOwn (kd := kByte) (xs := []) (H.f2.f1.f2) (SayL.nil) (Nat.le_of_ble_eq_true rfl)
                    obtain ⟨c52, k_21⟩ := guardO k_21
                    obtain ⟨A53, c54, _, hr, H⟩ := Hp.appendRd (kd := kByte) (xs := []) (ys := ((a0.take (IntKind.i64.wrap (14 + (IntKind.i64.wrap (a0.getD (13 : Int).toNat 0)))).toNat).drop ((14 : Int)).toNat)) (H) 0 rfl (F.ev (x := .tmp 37) rfl) (F.ev (x := .tmp 41) rfl) Try.underlying22 ti5 rfl (by decide) (by decide) c52
                    rw [List.nil_append] at hr H
                    refine d1 18 rfl (by kernel_rfl) (qv F (hr _ _ _ _ _) fun a F => ?_)
                    have HS := H.fx1.fx0
                    refine kg _ HS (fun w S => S) ?_
                    refine dq 19 F rfl (by kernel_rfl) NP HS (fun w S => (r_bd F (vs := [(0, .int .i64 x40), (1, .int .i64 x42), (2, .int .i64 (IntKind.i64.wrap (a0.getD (10 : Int).toNat 0))), (3, .int .i64 x44), (4, .slice A53 (((a0.take (IntKind.i64.wrap (14 + (IntKind.i64.wrap (a0.getD (13 : Int).toNat 0)))).toNat).drop ((14 : Int)).toNat)).length c54)]) (cs := [.int .i64 x40, .int .i64 x42, .int .i64 (IntKind.i64.wrap (a0.getD (10 : Int).toNat 0)), .int .i64 x44, .slice A53 (((a0.take (IntKind.i64.wrap (14 + (IntKind.i64.wrap (a0.getD (13 : Int).toNat 0)))).toNat).drop ((14 : Int)).toNat)).length c54]) rfl (fun w => by kernel_rfl))) fun a F => ?_
                    obtain ⟨_, hr, H⟩ := Hp.store (t := 24) (o := 0) (n := 5) (vs := [.int .i64 x40, .int .i64 x42, .int .i64 (IntKind.i64.wrap (a0.getD (10 : Int).toNat 0)), .int .i64 x44, .slice A53 (((a0.take (IntKind.i64.wrap (14 + (IntKind.i64.wrap (a0.getD (13 : Int).toNat 0)))).toNat).drop ((14 : Int)).toNat)).length c54]) (cs' := [.int .i64 x40, .int .i64 x42, .int .i64 (IntKind.i64.wrap (a0.getD (10 : Int).toNat 0)), .int .i64 x44, .slice A53 (((a0.take (IntKind.i64.wrap (14 + (IntKind.i64.wrap (a0.getD (13 : Int).toNat 0)))).toNat).drop ((14 : Int)).toNat)).length c54]) (H.f2.f1.f2) (F.ev (x := .tmp 5) rfl) (F.ev (x := .tmp 43) rfl) rfl sz24 rfl (Nat.le_of_ble_eq_true rfl) rfl rfl
                    refine d1 21 rfl (by kernel_rfl) (qn F (.inl rfl) (hr _ _ _ _) fun a F => ?_)
                    have HS := H.fx1.fx0
                    refine kg _ HS (fun w S => S) ?_
                    refine ddone (by kernel_rfl) ?_
                    replace F := F.only [5, 4, 2, 0] (l' := [(5, .pointer (some ⟨g51, 0, none⟩)), (4, .int .i64 (IntKind.i64.wrap (a0.getD (13 : Int).toNat 0))), (2, .pointer (some ⟨g1, 0, none⟩)), (0, .slice A0_ a0.length c0_)]) rfl
                    try dsimp only at k_21
                    obtain rfl := Option.some.inj k_21
                    exact ⟨_, _, _, _, rfl, g51, A53, c54, F.only [0, 2, 4, 5] rfl, H.px9.px8.px7.px6.px5.px4.px3.px2.px1.px0.f2.f1.f2⟩
                · skip
                  refine lal F H ti24 (cs := [.int .i64 0, .int .i64 0, .int .i64 0, .int .i64 0, .slice none 0 0]) rfl fun g55 w a H F => ?_
                  have HS := H.fx0
                  refine kg _ HS (fun w S => S) ?_
                  refine d1 13 rfl (by kernel_rfl) (lbs F H (e := 5) (vs := []) (cs := []) rfl (fun w => by kernel_rfl) fun g56 w a H F => ?_)
                  have HS := H.fx1.fx0
                  refine kg _ HS (fun w S => S) ?_
                  replace H := Hp.litOwn (kd := kByte) (xs := []) (H) (SayL.nil) (Nat.le_of_ble_eq_true rfl)
                  obtain ⟨c57, k_21⟩ := guardO k_21
                  obtain ⟨A58, c59, _, hr, H⟩ := Hp.appendRd (kd := kByte) (xs := []) (ys := ((a0.take (IntKind.i64.wrap (14 + (IntKind.i64.wrap (a0.getD (13 : Int).toNat 0)))).toNat).drop ((14 : Int)).toNat)) (H) 0 rfl (F.ev (x := .tmp 37) rfl) (F.ev (x := .tmp 41) rfl) Try.underlying22 ti5 rfl (by decide) (by decide) c57
                  rw [List.nil_append] at hr H
                  refine d1 18 rfl (by kernel_rfl) (qv F (hr _ _ _ _ _) fun a F => ?_)
                  have HS := H.fx1.fx0
                  refine kg _ HS (fun w S => S) ?_
                  refine dq 19 F rfl (by kernel_rfl) NP HS (fun w S => (r_bd F (vs := [(0, .int .i64 x40), (1, .int .i64 x42), (2, .int .i64 (IntKind.i64.wrap (a0.getD (10 : Int).toNat 0))), (3, .int .i64 x44), (4, .slice A58 (((a0.take (IntKind.i64.wrap (14 + (IntKind.i64.wrap (a0.getD (13 : Int).toNat 0)))).toNat).drop ((14 : Int)).toNat)).length c59)]) (cs := [.int .i64 x40, .int .i64 x42, .int .i64 (IntKind.i64.wrap (a0.getD (10 : Int).toNat 0)), .int .i64 x44, .slice A58 (((a0.take (IntKind.i64.wrap (14 + (IntKind.i64.wrap (a0.getD (13 : Int).toNat 0)))).toNat).drop ((14 : Int)).toNat)).length c59]) rfl (fun w => by kernel_rfl))) fun a F => ?_
                  obtain ⟨_, hr, H⟩ := Hp.store (t := 24) (o := 0) (n := 5) (vs := [.int .i64 x40, .int .i64 x42, .int .i64 (IntKind.i64.wrap (a0.getD (10 : Int).toNat 0)), .int .i64 x44, .slice A58 (((a0.take (IntKind.i64.wrap (14 + (IntKind.i64.wrap (a0.getD (13 : Int).toNat 0)))).toNat).drop ((14 : Int)).toNat)).length c59]) (cs' := [.int .i64 x40, .int .i64 x42, .int .i64 (IntKind.i64.wrap (a0.getD (10 : Int).toNat 0)), .int .i64 x44, .slice A58 (((a0.take (IntKind.i64.wrap (14 + (IntKind.i64.wrap (a0.getD (13 : Int).toNat 0)))).toNat).drop ((14 : Int)).toNat)).length c59]) (H.f2.f1.f2) (F.ev (x := .tmp 5) rfl) (F.ev (x := .tmp 43) rfl) rfl sz24 rfl (Nat.le_of_ble_eq_true rfl) rfl rfl
                  refine d1 21 rfl (by kernel_rfl) (qn F (.inl rfl) (hr _ _ _ _) fun a F => ?_)
                  have HS := H.fx1.fx0
                  refine kg _ HS (fun w S => S) ?_
                  refine ddone (by kernel_rfl) ?_
                  replace F := F.only [5, 4, 2, 0] (l' := [(5, .pointer (some ⟨g55, 0, none⟩)), (4, .int .i64 (IntKind.i64.wrap (a0.getD (13 : Int).toNat 0))), (2, .pointer (some ⟨g1, 0, none⟩)), (0, .slice A0_ a0.length c0_)]) rfl
                  try dsimp only at k_21
                  obtain rfl := Option.some.inj k_21
                  exact ⟨_, _, _, _, rfl, g55, A58, c59, F.only [0, 2, 4, 5] rfl, H.px9.px8.px7.px6.px5.px4.px3.px2.px1.px0.f2.f1.f2⟩
              · skip
                refine lbs F H (e := 5) (vs := []) (cs := []) rfl (fun w => by kernel_rfl) fun g60 w a H F => ?_
                have HS := H.fx0
                refine kg _ HS (fun w S => S) ?_
                refine d2 12 20 rfl rfl (by kernel_rfl) ?_ ?_
                · skip
                  obtain ⟨x61, e62, k_21⟩ := Option.bind_eq_some_iff.1 k_21
                  try dsimp only at k_21
                  refine call F Try.func19 (ref16_Read_ok (H.p1) e62) rfl rfl fun v w hR a F => ?_
                  obtain ⟨rfl, H⟩ := hR
                  have HS := H.fx0
                  refine kg _ HS (fun w S => S) ?_
                  refine d2 18 20 rfl rfl (by kernel_rfl) ?_ ?_
                  · skip
                    replace H := Hp.litOwn (kd := kByte) (xs := []) (H) (SayL.nil) (Nat.le_of_ble_eq_true rfl)
                    obtain ⟨c63, k_21⟩ := guardO k_21
                    obtain ⟨A64, c65, _, hr, H⟩ := Hp.appendRd (kd := kByte) (xs := []) (ys := ((a0.take (IntKind.i64.wrap (14 + (IntKind.i64.wrap (a0.getD (13 : Int).toNat 0)))).toNat).drop ((14 : Int)).toNat)) (H) 0 rfl (F.ev (x := .tmp 37) rfl) (F.ev (x := .tmp 41) rfl) Try.underlying22 ti5 rfl (by decide) (by decide) c63
                    rw [List.nil_append] at hr H
                    refine qv F (hr _ _ _ _ _) fun a F => ?_
                    have HS := H.fx0
                    refine kg _ HS (fun w S => S) ?_
                    refine dq 19 F rfl (by kernel_rfl) NP HS (fun w S => (r_bd F (vs := [(0, .int .i64 x40), (1, .int .i64 x42), (2, .int .i64 (IntKind.i64.wrap (a0.getD (10 : Int).toNat 0))), (3, .int .i64 x61), (4, .slice A64 (((a0.take (IntKind.i64.wrap (14 + (IntKind.i64.wrap (a0.getD (13 : Int).toNat 0)))).toNat).drop ((14 : Int)).toNat)).length c65)]) (cs := [.int .i64 x40, .int .i64 x42, .int .i64 (IntKind.i64.wrap (a0.getD (10 : Int).toNat 0)), .int .i64 x61, .slice A64 (((a0.take (IntKind.i64.wrap (14 + (IntKind.i64.wrap (a0.getD (13 : Int).toNat 0)))).toNat).drop ((14 : Int)).toNat)).length c65]) rfl (fun w => by kernel_rfl))) fun a F => ?_
                    refine d1 20 rfl (by kernel_rfl) (lal F H ti24 (cs := [.int .i64 0, .int .i64 0, .int .i64 0, .int .i64 0, .slice none 0 0]) rfl fun g66 w a H F => ?_)
                    have HS := H.fx1.fx0
                    refine kg _ HS (fun w S => S) ?_
                    obtain ⟨_, hr, H⟩ := Hp.store (t := 24) (o := 0) (n := 5) (vs := [.int .i64 x40, .int .i64 x42, .int .i64 (IntKind.i64.wrap (a0.getD (10 : Int).toNat 0)), .int .i64 x61, .slice A64 (((a0.take (IntKind.i64.wrap (14 + (IntKind.i64.wrap (a0.getD (13 : Int).toNat 0)))).toNat).drop ((14 : Int)).toNat)).length c65]) (cs' := [.int .i64 x40, .int .i64 x42, .int .i64 (IntKind.i64.wrap (a0.getD (10 : Int).toNat 0)), .int .i64 x61, .slice A64 (((a0.take (IntKind.i64.wrap (14 + (IntKind.i64.wrap (a0.getD (13 : Int).toNat 0)))).toNat).drop ((14 : Int)).toNat)).length c65]) (H) (F.ev (x := .tmp 5) rfl) (F.ev (x := .tmp 43) rfl) rfl sz24 rfl (Nat.le_of_ble_eq_true rfl) rfl rfl
                    refine d1 21 rfl (by kernel_rfl) (qn F (.inl rfl) (hr _ _ _ _) fun a F => ?_)
                    have HS := H.fx1.fx0
                    refine kg _ HS (fun w S => S) ?_
                    refine ddone (by kernel_rfl) ?_
                    replace F := F.only [5, 4, 2, 0] (l' := [(5, .pointer (some ⟨g66, 0, none⟩)), (4, .int .i64 (IntKind.i64.wrap (a0.getD (13 : Int).toNat 0))), (2, .pointer (some ⟨g1, 0, none⟩)), (0, .slice A0_ a0.length c0_)]) rfl
                    try dsimp only at k_21
                    obtain rfl := Option.some.inj k_21
                    exact ⟨_, _, _, _, rfl, g66, A64, c65, F.only [0, 2, 4, 5] rfl, H.px9.px8.px7.px6.px5.px4.px3.px2.px1.px0.f2.f1.f2⟩
                  · skip
                    refine lal F H ti24 (cs := [.int .i64 0, .int .i64 0, .int .i64 0, .int .i64 0, .slice none 0 0]) rfl fun g67 w a H F => ?_
                    have HS := H.fx1.fx0
                    refine kg _ HS (fun w S => S) ?_
                    replace H := Hp.litOwn (kd := kByte) (xs := []) (H.f2.f1.f2) (SayL.nil) (Nat.le_of_ble_eq_true rfl)
                    obtain ⟨c68, k_21⟩ := guardO k_21
                    obtain ⟨A69, c70, _, hr, H⟩ := Hp.appendRd (kd := kByte) (xs := []) (ys := ((a0.take (IntKind.i64.wrap (14 + (IntKind.i64.wrap (a0.getD (13 : Int).toNat 0)))).toNat).drop ((14 : Int)).toNat)) (H) 0 rfl (F.ev (x := .tmp 37) rfl) (F.ev (x := .tmp 41) rfl) Try.underlying22 ti5 rfl (by decide) (by decide) c68
                    rw [List.nil_append] at hr H
                    refine d1 18 rfl (by kernel_rfl) (qv F (hr _ _ _ _ _) fun a F => ?_)
                    have HS := H.fx1.fx0
                    refine kg _ HS (fun w S => S) ?_
                    refine dq 19 F rfl (by kernel_rfl) NP HS (fun w S => (r_bd F (vs := [(0, .int .i64 x40), (1, .int .i64 x42), (2, .int .i64 (IntKind.i64.wrap (a0.getD (10 : Int).toNat 0))), (3, .int .i64 x61), (4, .slice A69 (((a0.take (IntKind.i64.wrap (14 + (IntKind.i64.wrap (a0.getD (13 : Int).toNat 0)))).toNat).drop ((14 : Int)).toNat)).length c70)]) (cs := [.int .i64 x40, .int .i64 x42, .int .i64 (IntKind.i64.wrap (a0.getD (10 : Int).toNat 0)), .int .i64 x61, .slice A69 (((a0.take (IntKind.i64.wrap (14 + (IntKind.i64.wrap (a0.getD (13 : Int).toNat 0)))).toNat).drop ((14 : Int)).toNat)).length c70]) rfl (fun w => by kernel_rfl))) fun a F => ?_
                    obtain ⟨_, hr, H⟩ := Hp.store (t := 24) (o := 0) (n := 5) (vs := [.int .i64 x40, .int .i64 x42, .int .i64 (IntKind.i64.wrap (a0.getD (10 : Int).toNat 0)), .int .i64 x61, .slice A69 (((a0.take (IntKind.i64.wrap (14 + (IntKind.i64.wrap (a0.getD (13 : Int).toNat 0)))).toNat).drop ((14 : Int)).toNat)).length c70]) (cs' := [.int .i64 x40, .int .i64 x42, .int .i64 (IntKind.i64.wrap (a0.getD (10 : Int).toNat 0)), .int .i64 x61, .slice A69 (((a0.take (IntKind.i64.wrap (14 + (IntKind.i64.wrap (a0.getD (13 : Int).toNat 0)))).toNat).drop ((14 : Int)).toNat)).length c70]) (H.f2.f1.f2) (F.ev (x := .tmp 5) rfl) (F.ev (x := .tmp 43) rfl) rfl sz24 rfl (Nat.le_of_ble_eq_true rfl) rfl rfl
                    refine d1 21 rfl (by kernel_rfl) (qn F (.inl rfl) (hr _ _ _ _) fun a F => ?_)
                    have HS := H.fx1.fx0
                    refine kg _ HS (fun w S => S) ?_
                    refine ddone (by kernel_rfl) ?_
                    replace F := F.only [5, 4, 2, 0] (l' := [(5, .pointer (some ⟨g67, 0, none⟩)), (4, .int .i64 (IntKind.i64.wrap (a0.getD (13 : Int).toNat 0))), (2, .pointer (some ⟨g1, 0, none⟩)), (0, .slice A0_ a0.length c0_)]) rfl
                    try dsimp only at k_21
                    obtain rfl := Option.some.inj k_21
                    exact ⟨_, _, _, _, rfl, g67, A69, c70, F.only [0, 2, 4, 5] rfl, H.px9.px8.px7.px6.px5.px4.px3.px2.px1.px0.f2.f1.f2⟩
                · skip
                  refine lal F H ti24 (cs := [.int .i64 0, .int .i64 0, .int .i64 0, .int .i64 0, .slice none 0 0]) rfl fun g71 w a H F => ?_
                  have HS := H.fx1.fx0
                  refine kg _ HS (fun w S => S) ?_
                  obtain ⟨x72, e73, k_21⟩ := Option.bind_eq_some_iff.1 k_21
                  try dsimp only at k_21
                  refine d1 12 rfl (by kernel_rfl) (call F Try.func19 (ref16_Read_ok (H.p1) e73) rfl rfl fun v w hR a F => ?_)
                  obtain ⟨rfl, H⟩ := hR
                  have HS := H.fx1.fx0
                  refine kg _ HS (fun w S => S) ?_
                  replace H := Hp.litOwn (kd := kByte) (xs := []) (H.f2.f1.f2) (SayL.nil) (Nat.le_of_ble_eq_true rfl)
                  obtain ⟨c74, k_21⟩ := guardO k_21
                  obtain ⟨A75, c76, _, hr, H⟩ := Hp.appendRd (kd := kByte) (xs := []) (ys := ((a0.take (IntKind.i64.wrap (14 + (IntKind.i64.wrap (a0.getD (13 : Int).toNat 0)))).toNat).drop ((14 : Int)).toNat)) (H) 0 rfl (F.ev (x := .tmp 37) rfl) (F.ev (x := .tmp 41) rfl) Try.underlying22 ti5 rfl (by decide) (by decide) c74
                  rw [List.nil_append] at hr H
                  refine d1 18 rfl (by kernel_rfl) (qv F (hr _ _ _ _ _) fun a F => ?_)
                  have HS := H.fx1.fx0
                  refine kg _ HS (fun w S => S) ?_
                  refine dq 19 F rfl (by kernel_rfl) NP HS (fun w S => (r_bd F (vs := [(0, .int .i64 x40), (1, .int .i64 x42), (2, .int .i64 (IntKind.i64.wrap (a0.getD (10 : Int).toNat 0))), (3, .int .i64 x72), (4, .slice A75 (((a0.take (IntKind.i64.wrap (14 + (IntKind.i64.wrap (a0.getD (13 : Int).toNat 0)))).toNat).drop ((14 : Int)).toNat)).length c76)]) (cs := [.int .i64 x40, .int .i64 x42, .int .i64 (IntKind.i64.wrap (a0.getD (10 : Int).toNat 0)), .int .i64 x72, .slice A75 (((a0.take (IntKind.i64.wrap (14 + (IntKind.i64.wrap (a0.getD (13 : Int).toNat 0)))).toNat).drop ((14 : Int)).toNat)).length c76]) rfl (fun w => by kernel_rfl))) fun a F => ?_
                  obtain ⟨_, hr, H⟩ := Hp.store (t := 24) (o := 0) (n := 5) (vs := [.int .i64 x40, .int .i64 x42, .int .i64 (IntKind.i64.wrap (a0.getD (10 : Int).toNat 0)), .int .i64 x72, .slice A75 (((a0.take (IntKind.i64.wrap (14 + (IntKind.i64.wrap (a0.getD (13 : Int).toNat 0)))).toNat).drop ((14 : Int)).toNat)).length c76]) (cs' := [.int .i64 x40, .int .i64 x42, .int .i64 (IntKind.i64.wrap (a0.getD (10 : Int).toNat 0)), .int .i64 x72, .slice A75 (((a0.take (IntKind.i64.wrap (14 + (IntKind.i64.wrap (a0.getD (13 : Int).toNat 0)))).toNat).drop ((14 : Int)).toNat)).length c76]) (H.f2.f1.f2) (F.ev (x := .tmp 5) rfl) (F.ev (x := .tmp 43) rfl) rfl sz24 rfl (Nat.le_of_ble_eq_true rfl) rfl rfl
                  refine d1 21 rfl (by kernel_rfl) (qn F (.inl rfl) (hr _ _ _ _) fun a F => ?_)
                  have HS := H.fx1.fx0
                  refine kg _ HS (fun w S => S) ?_
                  refine ddone (by kernel_rfl) ?_
                  replace F := F.only [5, 4, 2, 0] (l' := [(5, .pointer (some ⟨g71, 0, none⟩)), (4, .int .i64 (IntKind.i64.wrap (a0.getD (13 : Int).toNat 0))), (2, .pointer (some ⟨g1, 0, none⟩)), (0, .slice A0_ a0.length c0_)]) rfl
                  try dsimp only at k_21
                  obtain rfl := Option.some.inj k_21
                  exact ⟨_, _, _, _, rfl, g71, A75, c76, F.only [0, 2, 4, 5] rfl, H.px9.px8.px7.px6.px5.px4.px3.px2.px1.px0.f2.f1.f2⟩
              · skip
                refine lal F H ti24 (cs := [.int .i64 0, .int .i64 0, .int .i64 0, .int .i64 0, .slice none 0 0]) rfl fun g77 w a H F => ?_
                have HS := H.fx0
                refine kg _ HS (fun w S => S) ?_
                refine d2 12 13 rfl rfl (by kernel_rfl) ?_ ?_
                · skip
                  obtain ⟨x78, e79, k_21⟩ := Option.bind_eq_some_iff.1 k_21
                  try dsimp only at k_21
                  refine call F Try.func19 (ref16_Read_ok (H.p1) e79) rfl rfl fun v w hR a F => ?_
                  obtain ⟨rfl, H⟩ := hR
                  have HS := H.fx0
                  refine kg _ HS (fun w S => S) ?_
                  refine d1 13 rfl (by kernel_rfl) (lbs F H (e := 5) (vs := []) (cs := []) rfl (fun w => by kernel_rfl) fun g80 w a H F => ?_)
                  have HS := H.fx1.fx0
                  refine kg _ HS (fun w S => S) ?_
                  replace H := Hp.litOwn (kd := kByte) (xs := []) (H) (SayL.nil) (Nat.le_of_ble_eq_true rfl)
                  obtain ⟨c81, k_21⟩ := guardO k_21
                  obtain ⟨A82, c83, _, hr, H⟩ := Hp.appendRd (kd := kByte) (xs := []) (ys := ((a0.take (IntKind.i64.wrap (14 + (IntKind.i64.wrap (a0.getD (13 : Int).toNat 0)))).toNat).drop ((14 : Int)).toNat)) (H) 0 rfl (F.ev (x := .tmp 37) rfl) (F.ev (x := .tmp 41) rfl) Try.underlying22 ti5 rfl (by decide) (by decide) c81
                  rw [List.nil_append] at hr H
                  refine d1 18 rfl (by kernel_rfl) (qv F (hr _ _ _ _ _) fun a F => ?_)
                  have HS := H.fx1.fx0
                  refine kg _ HS (fun w S => S) ?_
                  refine dq 19 F rfl (by kernel_rfl) NP HS (fun w S => (r_bd F (vs := [(0, .int .i64 x40), (1, .int .i64 x42), (2, .int .i64 (IntKind.i64.wrap (a0.getD (10 : Int).toNat 0))), (3, .int .i64 x78), (4, .slice A82 (((a0.take (IntKind.i64.wrap (14 + (IntKind.i64.wrap (a0.getD (13 : Int).toNat 0)))).toNat).drop ((14 : Int)).toNat)).length c83)]) (cs := [.int .i64 x40, .int .i64 x42, .int .i64 (IntKind.i64.wrap (a0.getD (10 : Int).toNat 0)), .int .i64 x78, .slice A82 (((a0.take (IntKind.i64.wrap (14 + (IntKind.i64.wrap (a0.getD (13 : Int).toNat 0)))).toNat).drop ((14 : Int)).toNat)).length c83]) rfl (fun w => by kernel_rfl))) fun a F => ?_
                  obtain ⟨_, hr, H⟩ := Hp.store (t := 24) (o := 0) (n := 5) (vs := [.int .i64 x40, .int .i64 x42, .int .i64 (IntKind.i64.wrap (a0.getD (10 : Int).toNat 0)), .int .i64 x78, .slice A82 (((a0.take (IntKind.i64.wrap (14 + (IntKind.i64.wrap (a0.getD (13 : Int).toNat 0)))).toNat).drop ((14 : Int)).toNat)).length c83]) (cs' := [.int .i64 x40, .int .i64 x42, .int .i64 (IntKind.i64.wrap (a0.getD (10 : Int).toNat 0)), .int .i64 x78, .slice A82 (((a0.take (IntKind.i64.wrap (14 + (IntKind.i64.wrap (a0.getD (13 : Int).toNat 0)))).toNat).drop ((14 : Int)).toNat)).length c83]) (H.f2.f1.f2) (F.ev (x := .tmp 5) rfl) (F.ev (x := .tmp 43) rfl) rfl sz24 rfl (Nat.le_of_ble_eq_true rfl) rfl rfl
                  refine d1 21 rfl (by kernel_rfl) (qn F (.inl rfl) (hr _ _ _ _) fun a F => ?_)
                  have HS := H.fx1.fx0
                  refine kg _ HS (fun w S => S) ?_
                  refine ddone (by kernel_rfl) ?_
                  replace F := F.only [5, 4, 2, 0] (l' := [(5, .pointer (some ⟨g77, 0, none⟩)), (4, .int .i64 (IntKind.i64.wrap (a0.getD (13 : Int).toNat 0))), (2, .pointer (some ⟨g1, 0, none⟩)), (0, .slice A0_ a0.length c0_)]) rfl
                  try dsimp only at k_21
                  obtain rfl := Option.some.inj k_21
                  exact ⟨_, _, _, _, rfl, g77, A82, c83, F.only [0, 2, 4, 5] rfl, H.px9.px8.px7.px6.px5.px4.px3.px2.px1.px0.f2.f1.f2⟩
                · skip
                  refine lbs F H (e := 5) (vs := []) (cs := []) rfl (fun w => by kernel_rfl) fun g84 w a H F => ?_
                  have HS := H.fx1.fx0
                  refine kg _ HS (fun w S => S) ?_
                  obtain ⟨x85, e86, k_21⟩ := Option.bind_eq_some_iff.1 k_21
                  try dsimp only at k_21
                  refine d1 12 rfl (by kernel_rfl) (call F Try.func19 (ref16_Read_ok (H.p1) e86) rfl rfl fun v w hR a F => ?_)
                  obtain ⟨rfl, H⟩ := hR
                  have HS := H.fx1.fx0
                  refine kg _ HS (fun w S => S) ?_
                  replace H := Hp.litOwn (kd := kByte) (xs := []) (H) (SayL.nil) (Nat.le_of_ble_eq_true rfl)
                  obtain ⟨c87, k_21⟩ := guardO k_21
                  obtain ⟨A88, c89, _, hr, H⟩ := Hp.appendRd (kd := kByte) (xs := []) (ys := ((a0.take (IntKind.i64.wrap (14 + (IntKind.i64.wrap (a0.getD (13 : Int).toNat 0)))).toNat).drop ((14 : Int)).toNat)) (H) 0 rfl (F.ev (x := .tmp 37) rfl) (F.ev (x := .tmp 41) rfl) Try.underlying22 ti5 rfl (by decide) (by decide) c87
                  rw [List.nil_append] at hr H
                  refine d1 18 rfl (by kernel_rfl) (qv F (hr _ _ _ _ _) fun a F => ?_)
                  have HS := H.fx1.fx0
                  refine kg _ HS (fun w S => S) ?_
                  refine dq 19 F rfl (by kernel_rfl) NP HS (fun w S => (r_bd F (vs := [(0, .int .i64 x40), (1, .int .i64 x42), (2, .int .i64 (IntKind.i64.wrap (a0.getD (10 : Int).toNat 0))), (3, .int .i64 x85), (4, .slice A88 (((a0.take (IntKind.i64.wrap (14 + (IntKind.i64.wrap (a0.getD (13 : Int).toNat 0)))).toNat).drop ((14 : Int)).toNat)).length c89)]) (cs := [.int .i64 x40, .int .i64 x42, .int .i64 (IntKind.i64.wrap (a0.getD (10 : Int).toNat 0)), .int .i64 x85, .slice A88 (((a0.take (IntKind.i64.wrap (14 + (IntKind.i64.wrap (a0.getD (13 : Int).toNat 0)))).toNat).drop ((14 : Int)).toNat)).length c89]) rfl (fun w => by kernel_rfl))) fun a F => ?_
                  obtain ⟨_, hr, H⟩ := Hp.store (t := 24) (o := 0) (n := 5) (vs := [.int .i64 x40, .int .i64 x42, .int .i64 (IntKind.i64.wrap (a0.getD (10 : Int).toNat 0)), .int .i64 x85, .slice A88 (((a0.take (IntKind.i64.wrap (14 + (IntKind.i64.wrap (a0.getD (13 : Int).toNat 0)))).toNat).drop ((14 : Int)).toNat)).length c89]) (cs' := [.int .i64 x40, .int .i64 x42, .int .i64 (IntKind.i64.wrap (a0.getD (10 : Int).toNat 0)), .int .i64 x85, .slice A88 (((a0.take (IntKind.i64.wrap (14 + (IntKind.i64.wrap (a0.getD (13 : Int).toNat 0)))).toNat).drop ((14 : Int)).toNat)).length c89]) (H.f2.f1.f2) (F.ev (x := .tmp 5) rfl) (F.ev (x := .tmp 43) rfl) rfl sz24 rfl (Nat.le_of_ble_eq_true rfl) rfl rfl
                  refine d1 21 rfl (by kernel_rfl) (qn F (.inl rfl) (hr _ _ _ _) fun a F => ?_)
                  have HS := H.fx1.fx0
                  refine kg _ HS (fun w S => S) ?_
                  refine ddone (by kernel_rfl) ?_
                  replace F := F.only [5, 4, 2, 0] (l' := [(5, .pointer (some ⟨g77, 0, none⟩)), (4, .int .i64 (IntKind.i64.wrap (a0.getD (13 : Int).toNat 0))), (2, .pointer (some ⟨g1, 0, none⟩)), (0, .slice A0_ a0.length c0_)]) rfl
                  try dsimp only at k_21
                  obtain rfl := Option.some.inj k_21
                  exact ⟨_, _, _, _, rfl, g77, A88, c89, F.only [0, 2, 4, 5] rfl, H.px9.px8.px7.px6.px5.px4.px3.px2.px1.px0.f2.f1.f2⟩
            · skip
              refine lbs F H (e := 5) (vs := []) (cs := []) rfl (fun w => by kernel_rfl) fun g90 w a H F => ?_
              have HS := H.fx0
              refine kg _ HS (fun w S => S) ?_
              refine d2 5 20 rfl rfl (by kernel_rfl) ?_ ?_
              · skip
                obtain ⟨x91, e92, k_21⟩ := Option.bind_eq_some_iff.1 k_21
                try dsimp only at k_21
                refine call F Try.func19 (ref16_Read_ok (H.p4) e92) rfl rfl fun v w hR a F => ?_
                obtain ⟨rfl, H⟩ := hR
                have HS := H.fx0
                refine kg _ HS (fun w S => S) ?_
                refine d2 12 20 rfl rfl (by kernel_rfl) ?_ ?_
                · skip
                  obtain ⟨x93, e94, k_21⟩ := Option.bind_eq_some_iff.1 k_21
                  try dsimp only at k_21
                  refine call F Try.func19 (ref16_Read_ok (H.p1) e94) rfl rfl fun v w hR a F => ?_
                  obtain ⟨rfl, H⟩ := hR
                  have HS := H.fx0
                  refine kg _ HS (fun w S => S) ?_
                  refine d2 18 20 rfl rfl (by kernel_rfl) ?_ ?_
                  · skip
                    replace H := Hp.litOwn (kd := kByte) (xs := []) (H) (SayL.nil) (Nat.le_of_ble_eq_true rfl)
                    obtain ⟨c95, k_21⟩ := guardO k_21
                    obtain ⟨A96, c97, _, hr, H⟩ := Hp.appendRd (kd := kByte) (xs := []) (ys := ((a0.take (IntKind.i64.wrap (14 + (IntKind.i64.wrap (a0.getD (13 : Int).toNat 0)))).toNat).drop ((14 : Int)).toNat)) (H) 0 rfl (F.ev (x := .tmp 37) rfl) (F.ev (x := .tmp 41) rfl) Try.underlying22 ti5 rfl (by decide) (by decide) c95
                    rw [List.nil_append] at hr H
                    refine qv F (hr _ _ _ _ _) fun a F => ?_
                    have HS := H.fx0
                    refine kg _ HS (fun w S => S) ?_
                    refine dq 19 F rfl (by kernel_rfl) NP HS (fun w S => (r_bd F (vs := [(0, .int .i64 x40), (1, .int .i64 x91), (2, .int .i64 (IntKind.i64.wrap (a0.getD (10 : Int).toNat 0))), (3, .int .i64 x93), (4, .slice A96 (((a0.take (IntKind.i64.wrap (14 + (IntKind.i64.wrap (a0.getD (13 : Int).toNat 0)))).toNat).drop ((14 : Int)).toNat)).length c97)]) (cs := [.int .i64 x40, .int .i64 x91, .int .i64 (IntKind.i64.wrap (a0.getD (10 : Int).toNat 0)), .int .i64 x93, .slice A96 (((a0.take (IntKind.i64.wrap (14 + (IntKind.i64.wrap (a0.getD (13 : Int).toNat 0)))).toNat).drop ((14 : Int)).toNat)).length c97]) rfl (fun w => by kernel_rfl))) fun a F => ?_
                    refine d1 20 rfl (by kernel_rfl) (lal F H ti24 (cs := [.int .i64 0, .int .i64 0, .int .i64 0, .int .i64 0, .slice none 0 0]) rfl fun g98 w a H F => ?_)
                    have HS := H.fx1.fx0
                    refine kg _ HS (fun w S => S) ?_
                    obtain ⟨_, hr, H⟩ := Hp.store (t := 24) (o := 0) (n := 5) (vs := [.int .i64 x40, .int .i64 x91, .int .i64 (IntKind.i64.wrap (a0.getD (10 : Int).toNat 0)), .int .i64 x93, .slice A96 (((a0.take (IntKind.i64.wrap (14 + (IntKind.i64.wrap (a0.getD (13 : Int).toNat 0)))).toNat).drop ((14 : Int)).toNat)).length c97]) (cs' := [.int .i64 x40, .int .i64 x91, .int .i64 (IntKind.i64.wrap (a0.getD (10 : Int).toNat 0)), .int .i64 x93, .slice A96 (((a0.take (IntKind.i64.wrap (14 + (IntKind.i64.wrap (a0.getD (13 : Int).toNat 0)))).toNat).drop ((14 : Int)).toNat)).length c97]) (H) (F.ev (x := .tmp 5) rfl) (F.ev (x := .tmp 43) rfl) rfl sz24 rfl (Nat.le_of_ble_eq_true rfl) rfl rfl
                    refine d1 21 rfl (by kernel_rfl) (qn F (.inl rfl) (hr _ _ _ _) fun a F => ?_)
                    have HS := H.fx1.fx0
                    refine kg _ HS (fun w S => S) ?_
                    refine ddone (by kernel_rfl) ?_
                    replace F := F.only [5, 4, 2, 0] (l' := [(5, .pointer (some ⟨g98, 0, none⟩)), (4, .int .i64 (IntKind.i64.wrap (a0.getD (13 : Int).toNat 0))), (2, .pointer (some ⟨g1, 0, none⟩)), (0, .slice A0_ a0.length c0_)]) rfl
                    try dsimp only at k_21
                    obtain rfl := Option.some.inj k_21
                    exact ⟨_, _, _, _, rfl, g98, A96, c97, F.only [0, 2, 4, 5] rfl, H.px9.px8.px7.px6.px5.px4.px3.px2.px1.px0.f2.f1.f2⟩
                  · skip
                    refine lal F H ti24 (cs := [.int .i64 0, .int .i64 0, .int .i64 0, .int .i64 0, .slice none 0 0]) rfl fun g99 w a H F => ?_
                    have HS := H.fx1.fx0
                    refine kg _ HS (fun w S => S) ?_
                    replace H := Hp.litOwn (kd := kByte) (xs := []) (H.f2.f1.f2) (SayL.nil) (Nat.le_of_ble_eq_true rfl)
                    obtain ⟨c100, k_21⟩ := guardO k_21
                    obtain ⟨A101, c102, _, hr, H⟩ := Hp.appendRd (kd := kByte) (xs := []) (ys := ((a0.take (IntKind.i64.wrap (14 + (IntKind.i64.wrap (a0.getD (13 : Int).toNat 0)))).toNat).drop ((14 : Int)).toNat)) (H) 0 rfl (F.ev (x := .tmp 37) rfl) (F.ev (x := .tmp 41) rfl) Try.underlying22 ti5 rfl (by decide) (by decide) c100
                    rw [List.nil_append] at hr H
                    refine d1 18 rfl (by kernel_rfl) (qv F (hr _ _ _ _ _) fun a F => ?_)
                    have HS := H.fx1.fx0
                    refine kg _ HS (fun w S => S) ?_
                    refine dq 19 F rfl (by kernel_rfl) NP HS (fun w S => (r_bd F (vs := [(0, .int .i64 x40), (1, .int .i64 x91), (2, .int .i64 (IntKind.i64.wrap (a0.getD (10 : Int).toNat 0))), (3, .int .i64 x93), (4, .slice A101 (((a0.take (IntKind.i64.wrap (14 + (IntKind.i64.wrap (a0.getD (13 : Int).toNat 0)))).toNat).drop ((14 : Int)).toNat)).length c102)]) (cs := [.int .i64 x40, .int .i64 x91, .int .i64 (IntKind.i64.wrap (a0.getD (10 : Int).toNat 0)), .int .i64 x93, .slice A101 (((a0.take (IntKind.i64.wrap (14 + (IntKind.i64.wrap (a0.getD (13 : Int).toNat 0)))).toNat).drop ((14 : Int)).toNat)).length c102]) rfl (fun w => by kernel_rfl))) fun a F => ?_
                    obtain ⟨_, hr, H⟩ := Hp.store (t := 24) (o := 0) (n := 5) (vs := [.int .i64 x40, .int .i64 x91, .int .i64 (IntKind.i64.wrap (a0.getD (10 : Int).toNat 0)), .int .i64 x93, .slice A101 (((a0.take (IntKind.i64.wrap (14 + (IntKind.i64.wrap (a0.getD (13 : Int).toNat 0)))).toNat).drop ((14 : Int)).toNat)).length c102]) (cs' := [.int .i64 x40, .int .i64 x91, .int .i64 (IntKind.i64.wrap (a0.getD (10 : Int).toNat 0)), .int .i64 x93, .slice A101 (((a0.take (IntKind.i64.wrap (14 + (IntKind.i64.wrap (a0.getD (13 : Int).toNat 0)))).toNat).drop ((14 : Int)).toNat)).length c102]) (H.f2.f1.f2) (F.ev (x := .tmp 5) rfl) (F.ev (x := .tmp 43) rfl) rfl sz24 rfl (Nat.le_of_ble_eq_true rfl) rfl rfl
                    refine d1 21 rfl (by kernel_rfl) (qn F (.inl rfl) (hr _ _ _ _) fun a F => ?_)
                    have HS := H.fx1.fx0
                    refine kg _ HS (fun w S => S) ?_
                    refine ddone (by kernel_rfl) ?_
                    replace F := F.only [5, 4, 2, 0] (l' := [(5, .pointer (some ⟨g99, 0, none⟩)), (4, .int .i64 (IntKind.i64.wrap (a0.getD (13 : Int).toNat 0))), (2, .pointer (some ⟨g1, 0, none⟩)), (0, .slice A0_ a0.length c0_)]) rfl
                    try dsimp only at k_21
                    obtain rfl := Option.some.inj k_21
                    exact ⟨_, _, _, _, rfl, g99, A101, c102, F.only [0, 2, 4, 5] rfl, H.px9.px8.px7.px6.px5.px4.px3.px2.px1.px0.f2.f1.f2⟩
                · skip
                  refine lal F H ti24 (cs := [.int .i64 0, .int .i64 0, .int .i64 0, .int .i64 0, .slice none 0 0]) rfl fun g103 w a H F => ?_
                  have HS := H.fx1.fx0
                  refine kg _ HS (fun w S => S) ?_
                  obtain ⟨x104, e105, k_21⟩ := Option.bind_eq_some_iff.1 k_21
                  try dsimp only at k_21
                  refine d1 12 rfl (by kernel_rfl) (call F Try.func19 (ref16_Read_ok (H.p1) e105) rfl rfl fun v w hR a F => ?_)
                  obtain ⟨rfl, H⟩ := hR
                  have HS := H.fx1.fx0
                  refine kg _ HS (fun w S => S) ?_
                  replace H := Hp.litOwn (kd := kByte) (xs := []) (H.f2.f1.f2) (SayL.nil) (Nat.le_of_ble_eq_true rfl)
                  obtain ⟨c106, k_21⟩ := guardO k_21
                  obtain ⟨A107, c108, _, hr, H⟩ := Hp.appendRd (kd := kByte) (xs := []) (ys := ((a0.take (IntKind.i64.wrap (14 + (IntKind.i64.wrap (a0.getD (13 : Int).toNat 0)))).toNat).drop ((14 : Int)).toNat)) (H) 0 rfl (F.ev (x := .tmp 37) rfl) (F.ev (x := .tmp 41) rfl) Try.underlying22 ti5 rfl (by decide) (by decide) c106
                  rw [List.nil_append] at hr H
                  refine d1 18 rfl (by kernel_rfl) (qv F (hr _ _ _ _ _) fun a F => ?_)
                  have HS := H.fx1.fx0
                  refine kg _ HS (fun w S => S) ?_
                  refine dq 19 F rfl (by kernel_rfl) NP HS (fun w S => (r_bd F (vs := [(0, .int .i64 x40), (1, .int .i64 x91), (2, .int .i64 (IntKind.i64.wrap (a0.getD (10 : Int).toNat 0))), (3, .int .i64 x104), (4, .slice A107 (((a0.take (IntKind.i64.wrap (14 + (IntKind.i64.wrap (a0.getD (13 : Int).toNat 0)))).toNat).drop ((14 : Int)).toNat)).length c108)]) (cs := [.int .i64 x40, .int .i64 x91, .int .i64 (IntKind.i64.wrap (a0.getD (10 : Int).toNat 0)), .int .i64 x104, .slice A107 (((a0.take (IntKind.i64.wrap (14 + (IntKind.i64.wrap (a0.getD (13 : Int).toNat 0)))).toNat).drop ((14 : Int)).toNat)).length c108]) rfl (fun w => by kernel_rfl))) fun a F => ?_
                  obtain ⟨_, hr, H⟩ := Hp.store (t := 24) (o := 0) (n := 5) (vs := [.int .i64 x40, .int .i64 x91, .int .i64 (IntKind.i64.wrap (a0.getD (10 : Int).toNat 0)), .int .i64 x104, .slice A107 (((a0.take (IntKind.i64.wrap (14 + (IntKind.i64.wrap (a0.getD (13 : Int).toNat 0)))).toNat).drop ((14 : Int)).toNat)).length c108]) (cs' := [.int .i64 x40, .int .i64 x91, .int .i64 (IntKind.i64.wrap (a0.getD (10 : Int).toNat 0)), .int .i64 x104, .slice A107 (((a0.take (IntKind.i64.wrap (14 + (IntKind.i64.wrap (a0.getD (13 : Int).toNat 0)))).toNat).drop ((14 : Int)).toNat)).length c108]) (H.f2.f1.f2) (F.ev (x := .tmp 5) rfl) (F.ev (x := .tmp 43) rfl) rfl sz24 rfl (Nat.le_of_ble_eq_true rfl) rfl rfl
                  refine d1 21 rfl (by kernel_rfl) (qn F (.inl rfl) (hr _ _ _ _) fun a F => ?_)
                  have HS := H.fx1.fx0
                  refine kg _ HS (fun w S => S) ?_
                  refine ddone (by kernel_rfl) ?_
                  replace F := F.only [5, 4, 2, 0] (l' := [(5, .pointer (some ⟨g103, 0, none⟩)), (4, .int .i64 (IntKind.i64.wrap (a0.getD (13 : Int).toNat 0))), (2, .pointer (some ⟨g1, 0, none⟩)), (0, .slice A0_ a0.length c0_)]) rfl
                  try dsimp only at k_21
                  obtain rfl := Option.some.inj k_21
                  exact ⟨_, _, _, _, rfl, g103, A107, c108, F.only [0, 2, 4, 5] rfl, H.px9.px8.px7.px6.px5.px4.px3.px2.px1.px0.f2.f1.f2⟩
              · skip
                refine lal F H ti24 (cs := [.int .i64 0, .int .i64 0, .int .i64 0, .int .i64 0, .slice none 0 0]) rfl fun g109 w a H F => ?_
                have HS := H.fx1.fx0
                refine kg _ HS (fun w S => S) ?_
                obtain ⟨x110, e111, k_21⟩ := Option.bind_eq_some_iff.1 k_21
                try dsimp only at k_21
                refine d1 5 rfl (by kernel_rfl) (call F Try.func19 (ref16_Read_ok (H.p4) e111) rfl rfl fun v w hR a F => ?_)
                obtain ⟨rfl, H⟩ := hR
                have HS := H.fx1.fx0
                refine kg _ HS (fun w S => S) ?_
                obtain ⟨x112, e113, k_21⟩ := Option.bind_eq_some_iff.1 k_21
                try dsimp only at k_21
                refine d1 12 rfl (by kernel_rfl) (call F Try.func19 (ref16_Read_ok (H.p1) e113) rfl rfl fun v w hR a F => ?_)
                obtain ⟨rfl, H⟩ := hR
                have HS := H.fx1.fx0
                refine kg _ HS (fun w S => S) ?_
                replace H := Hp.litOwn (kd := kByte) (xs := []) (H.f2.f1.f2) (SayL.nil) (Nat.le_of_ble_eq_true rfl)
                obtain ⟨c114, k_21⟩ := guardO k_21
                obtain ⟨A115, c116, _, hr, H⟩ := Hp.appendRd (kd := kByte) (xs := []) (ys := ((a0.take (IntKind.i64.wrap (14 + (IntKind.i64.wrap (a0.getD (13 : Int).toNat 0)))).toNat).drop ((14 : Int)).toNat)) (H) 0 rfl (F.ev (x := .tmp 37) rfl) (F.ev (x := .tmp 41) rfl) Try.underlying22 ti5 rfl (by decide) (by decide) c114
                rw [List.nil_append] at hr H
                refine d1 18 rfl (by kernel_rfl) (qv F (hr _ _ _ _ _) fun a F => ?_)
                have HS := H.fx1.fx0
                refine kg _ HS (fun w S => S) ?_
                refine dq 19 F rfl (by kernel_rfl) NP HS (fun w S => (r_bd F (vs := [(0, .int .i64 x40), (1, .int .i64 x110), (2, .int .i64 (IntKind.i64.wrap (a0.getD (10 : Int).toNat 0))), (3, .int .i64 x112), (4, .slice A115 (((a0.take (IntKind.i64.wrap (14 + (IntKind.i64.wrap (a0.getD (13 : Int).toNat 0)))).toNat).drop ((14 : Int)).toNat)).length c116)]) (cs := [.int .i64 x40, .int .i64 x110, .int .i64 (IntKind.i64.wrap (a0.getD (10 : Int).toNat 0)), .int .i64 x112, .slice A115 (((a0.take (IntKind.i64.wrap (14 + (IntKind.i64.wrap (a0.getD (13 : Int).toNat 0)))).toNat).drop ((14 : Int)).toNat)).length c116]) rfl (fun w => by kernel_rfl))) fun a F => ?_
                obtain ⟨_, hr, H⟩ := Hp.store (t := 24) (o := 0) (n := 5) (vs := [.int .i64 x40, .int .i64 x110, .int .i64 (IntKind.i64.wrap (a0.getD (10 : Int).toNat 0)), .int .i64 x112, .slice A115 (((a0.take (IntKind.i64.wrap (14 + (IntKind.i64.wrap (a0.getD (13 : Int).toNat 0)))).toNat).drop ((14 : Int)).toNat)).length c116]) (cs' := [.int .i64 x40, .int .i64 x110, .int .i64 (IntKind.i64.wrap (a0.getD (10 : Int).toNat 0)), .int .i64 x112, .slice A115 (((a0.take (IntKind.i64.wrap (14 + (IntKind.i64.wrap (a0.getD (13 : Int).toNat 0)))).toNat).drop ((14 : Int)).toNat)).length c116]) (H.f2.f1.f2) (F.ev (x := .tmp 5) rfl) (F.ev (x := .tmp 43) rfl) rfl sz24 rfl (Nat.le_of_ble_eq_true rfl) rfl rfl
                refine d1 21 rfl (by kernel_rfl) (qn F (.inl rfl) (hr _ _ _ _) fun a F => ?_)
                have HS := H.fx1.fx0
                refine kg _ HS (fun w S => S) ?_
                refine ddone (by kernel_rfl) ?_
                replace F := F.only [5, 4, 2, 0] (l' := [(5, .pointer (some ⟨g109, 0, none⟩)), (4, .int .i64 (IntKind.i64.wrap (a0.getD (13 : Int).toNat 0))), (2, .pointer (some ⟨g1, 0, none⟩)), (0, .slice A0_ a0.length c0_)]) rfl
                try dsimp only at k_21
                obtain rfl := Option.some.inj k_21
                exact ⟨_, _, _, _, rfl, g109, A115, c116, F.only [0, 2, 4, 5] rfl, H.px9.px8.px7.px6.px5.px4.px3.px2.px1.px0.f2.f1.f2⟩
            · skip
              refine lal F H ti24 (cs := [.int .i64 0, .int .i64 0, .int .i64 0, .int .i64 0, .slice none 0 0]) rfl fun g117 w a H F => ?_
              have HS := H.fx0
              refine kg _ HS (fun w S => S) ?_
              refine d2 5 13 rfl rfl (by kernel_rfl) ?_ ?_
              · skip
                obtain ⟨x118, e119, k_21⟩ := Option.bind_eq_some_iff.1 k_21
                try dsimp only at k_21
                refine call F Try.func19 (ref16_Read_ok (H.p4) e119) rfl rfl fun v w hR a F => ?_
                obtain ⟨rfl, H⟩ := hR
                have HS := H.fx0
                refine kg _ HS (fun w S => S) ?_
                refine d2 12 13 rfl rfl (by kernel_rfl) ?_ ?_
                · skip
                  obtain ⟨x120, e121, k_21⟩ := Option.bind_eq_some_iff.1 k_21
                  try dsimp only at k_21
                  refine call F Try.func19 (ref16_Read_ok (H.p1) e121) rfl rfl fun v w hR a F => ?_
                  obtain ⟨rfl, H⟩ := hR
                  have HS := H.fx0
                  refine kg _ HS (fun w S => S) ?_
                  refine d1 13 rfl (by kernel_rfl) (lbs F H (e := 5) (vs := []) (cs := []) rfl (fun w => by kernel_rfl) fun g122 w a H F => ?_)
                  have HS := H.fx1.fx0
                  refine kg _ HS (fun w S => S) ?_
                  replace H := Hp.litOwn (kd := kByte) (xs := []) (H) (SayL.nil) (Nat.le_of_ble_eq_true rfl)
                  obtain ⟨c123, k_21⟩ := guardO k_21
                  obtain ⟨A124, c125, _, hr, H⟩ := Hp.appendRd (kd := kByte) (xs := []) (ys := ((a0.take (IntKind.i64.wrap (14 + (IntKind.i64.wrap (a0.getD (13 : Int).toNat 0)))).toNat).drop ((14 : Int)).toNat)) (H) 0 rfl (F.ev (x := .tmp 37) rfl) (F.ev (x := .tmp 41) rfl) Try.underlying22 ti5 rfl (by decide) (by decide) c123
                  rw [List.nil_append] at hr H
                  refine d1 18 rfl (by kernel_rfl) (qv F (hr _ _ _ _ _) fun a F => ?_)
                  have HS := H.fx1.fx0
                  refine kg _ HS (fun w S => S) ?_
                  refine dq 19 F rfl (by kernel_rfl) NP HS (fun w S => (r_bd F (vs := [(0, .int .i64 x40), (1, .int .i64 x118), (2, .int .i64 (IntKind.i64.wrap (a0.getD (10 : Int).toNat 0))), (3, .int .i64 x120), (4, .slice A124 (((a0.take (IntKind.i64.wrap (14 + (IntKind.i64.wrap (a0.getD (13 : Int).toNat 0)))).toNat).drop ((14 : Int)).toNat)).length c125)]) (cs := [.int .i64 x40, .int .i64 x118, .int .i64 (IntKind.i64.wrap (a0.getD (10 : Int).toNat 0)), .int .i64 x120, .slice A124 (((a0.take (IntKind.i64.wrap (14 + (IntKind.i64.wrap (a0.getD (13 : Int).toNat 0)))).toNat).drop ((14 : Int)).toNat)).length c125]) rfl (fun w => by kernel_rfl))) fun a F => ?_
                  obtain ⟨_, hr, H⟩ := Hp.store (t := 24) (o := 0) (n := 5) (vs := [.int .i64 x40, .int .i64 x118, .int .i64 (IntKind.i64.wrap (a0.getD (10 : Int).toNat 0)), .int .i64 x120, .slice A124 (((a0.take (IntKind.i64.wrap (14 + (IntKind.i64.wrap (a0.getD (13 : Int).toNat 0)))).toNat).drop ((14 : Int)).toNat)).length c125]) (cs' := [.int .i64 x40, .int .i64 x118, .int .i64 (IntKind.i64.wrap (a0.getD (10 : Int).toNat 0)), .int .i64 x120, .slice A124 (((a0.take (IntKind.i64.wrap (14 + (IntKind.i64.wrap (a0.getD (13 : Int).toNat 0)))).toNat).drop ((14 : Int)).toNat)).length c125]) (H.f2.f1.f2) (F.ev (x := .tmp 5) rfl) (F.ev (x := .tmp 43) rfl) rfl sz24 rfl (Nat.le_of_ble_eq_true rfl) rfl rfl
                  refine d1 21 rfl (by kernel_rfl) (qn F (.inl rfl) (hr _ _ _ _) fun a F => ?_)
                  have HS := H.fx1.fx0
                  refine kg _ HS (fun w S => S) ?_
                  refine ddone (by kernel_rfl) ?_
                  replace F := F.only [5, 4, 2, 0] (l' := [(5, .pointer (some ⟨g117, 0, none⟩)), (4, .int .i64 (IntKind.i64.wrap (a0.getD (13 : Int).toNat 0))), (2, .pointer (some ⟨g1, 0, none⟩)), (0, .slice A0_ a0.length c0_)]) rfl
                  try dsimp only at k_21
                  obtain rfl := Option.some.inj k_21
                  exact ⟨_, _, _, _, rfl, g117, A124, c125, F.only [0, 2, 4, 5] rfl, H.px9.px8.px7.px6.px5.px4.px3.px2.px1.px0.f2.f1.f2⟩
                · skip
                  refine lbs F H (e := 5) (vs := []) (cs := []) rfl (fun w => by kernel_rfl) fun g126 w a H F => ?_
                  have HS := H.fx1.fx0
                  refine kg _ HS (fun w S => S) ?_
                  obtain ⟨x127, e128, k_21⟩ := Option.bind_eq_some_iff.1 k_21
                  try dsimp only at k_21
                  refine d1 12 rfl (by kernel_rfl) (call F Try.func19 (ref16_Read_ok (H.p1) e128) rfl rfl fun v w hR a F => ?_)
                  obtain ⟨rfl, H⟩ := hR
                  have HS := H.fx1.fx0
                  refine kg _ HS (fun w S => S) ?_
                  replace H := Hp.litOwn (kd := kByte) (xs := []) (H) (SayL.nil) (Nat.le_of_ble_eq_true rfl)
                  obtain ⟨c129, k_21⟩ := guardO k_21
                  obtain ⟨A130, c131, _, hr, H⟩ := Hp.appendRd (kd := kByte) (xs := []) (ys := ((a0.take (IntKind.i64.wrap (14 + (IntKind.i64.wrap (a0.getD (13 : Int).toNat 0)))).toNat).drop ((14 : Int)).toNat)) (H) 0 rfl (F.ev (x := .tmp 37) rfl) (F.ev (x := .tmp 41) rfl) Try.underlying22 ti5 rfl (by decide) (by decide) c129
                  rw [List.nil_append] at hr H
                  refine d1 18 rfl (by kernel_rfl) (qv F (hr _ _ _ _ _) fun a F => ?_)
                  have HS := H.fx1.fx0
                  refine kg _ HS (fun w S => S) ?_
                  refine dq 19 F rfl (by kernel_rfl) NP HS (fun w S => (r_bd F (vs := [(0, .int .i64 x40), (1, .int .i64 x118), (2, .int .i64 (IntKind.i64.wrap (a0.getD (10 : Int).toNat 0))), (3, .int .i64 x127), (4, .slice A130 (((a0.take (IntKind.i64.wrap (14 + (IntKind.i64.wrap (a0.getD (13 : Int).toNat 0)))).toNat).drop ((14 : Int)).toNat)).length c131)]) (cs := [.int .i64 x40, .int .i64 x118, .int .i64 (IntKind.i64.wrap (a0.getD (10 : Int).toNat 0)), .int .i64 x127, .slice A130 (((a0.take (IntKind.i64.wrap (14 + (IntKind.i64.wrap (a0.getD (13 : Int).toNat 0)))).toNat).drop ((14 : Int)).toNat)).length c131]) rfl (fun w => by kernel_rfl))) fun a F => ?_
                  obtain ⟨_, hr, H⟩ := Hp.store (t := 24) (o := 0) (n := 5) (vs := [.int .i64 x40, .int .i64 x118, .int .i64 (IntKind.i64.wrap (a0.getD (10 : Int).toNat 0)), .int .i64 x127, .slice A130 (((a0.take (IntKind.i64.wrap (14 + (IntKind.i64.wrap (a0.getD (13 : Int).toNat 0)))).toNat).drop ((14 : Int)).toNat)).length c131]) (cs' := [.int .i64 x40, .int .i64 x118, .int .i64 (IntKind.i64.wrap (a0.getD (10 : Int).toNat 0)), .int .i64 x127, .slice A130 (((a0.take (IntKind.i64.wrap (14 + (IntKind.i64.wrap (a0.getD (13 : Int).toNat 0)))).toNat).drop ((14 : Int)).toNat)).length c131]) (H.f2.f1.f2) (F.ev (x := .tmp 5) rfl) (F.ev (x := .tmp 43) rfl) rfl sz24 rfl (Nat.le_of_ble_eq_true rfl) rfl rfl
                  refine d1 21 rfl (by kernel_rfl) (qn F (.inl rfl) (hr _ _ _ _) fun a F => ?_)
                  have HS := H.fx1.fx0
                  refine kg _ HS (fun w S => S) ?_
                  refine ddone (by kernel_rfl) ?_
                  replace F := F.only [5, 4, 2, 0] (l' := [(5, .pointer (some ⟨g117, 0, none⟩)), (4, .int .i64 (IntKind.i64.wrap (a0.getD (13 : Int).toNat 0))), (2, .pointer (some ⟨g1, 0, none⟩)), (0, .slice A0_ a0.length c0_)]) rfl
                  try dsimp only at k_21
                  obtain rfl := Option.some.inj k_21
                  exact ⟨_, _, _, _, rfl, g117, A130, c131, F.only [0, 2, 4, 5] rfl, H.px9.px8.px7.px6.px5.px4.px3.px2.px1.px0.f2.f1.f2⟩
              · skip
                refine lbs F H (e := 5) (vs := []) (cs := []) rfl (fun w => by kernel_rfl) fun g132 w a H F => ?_
                have HS := H.fx1.fx0
                refine kg _ HS (fun w S => S) ?_
                obtain ⟨x133, e134, k_21⟩ := Option.bind_eq_some_iff.1 k_21
                try dsimp only at k_21
                refine d1 5 rfl (by kernel_rfl) (call F Try.func19 (ref16_Read_ok (H.p4) e134) rfl rfl fun v w hR a F => ?_)
                obtain ⟨rfl, H⟩ := hR
                have HS := H.fx1.fx0
                refine kg _ HS (fun w S => S) ?_
                obtain ⟨x135, e136, k_21⟩ := Option.bind_eq_some_iff.1 k_21
                try dsimp only at k_21
                refine d1 12 rfl (by kernel_rfl) (call F Try.func19 (ref16_Read_ok (H.p1) e136) rfl rfl fun v w hR a F => ?_)
                obtain ⟨rfl, H⟩ := hR
                have HS := H.fx1.fx0
                refine kg _ HS (fun w S => S) ?_
                replace H := Hp.litOwn (kd := kByte) (xs := []) (H) (SayL.nil) (Nat.le_of_ble_eq_true rfl)
                obtain ⟨c137, k_21⟩ := guardO k_21
                obtain ⟨A138, c139, _, hr, H⟩ := Hp.appendRd (kd := kByte) (xs := []) (ys := ((a0.take (IntKind.i64.wrap (14 + (IntKind.i64.wrap (a0.getD (13 : Int).toNat 0)))).toNat).drop ((14 : Int)).toNat)) (H) 0 rfl (F.ev (x := .tmp 37) rfl) (F.ev (x := .tmp 41) rfl) Try.underlying22 ti5 rfl (by decide) (by decide) c137
                rw [List.nil_append] at hr H
                refine d1 18 rfl (by kernel_rfl) (qv F (hr _ _ _ _ _) fun a F => ?_)
                have HS := H.fx1.fx0
                refine kg _ HS (fun w S => S) ?_
                refine dq 19 F rfl (by kernel_rfl) NP HS (fun w S => (r_bd F (vs := [(0, .int .i64 x40), (1, .int .i64 x133), (2, .int .i64 (IntKind.i64.wrap (a0.getD (10 : Int).toNat 0))), (3, .int .i64 x135), (4, .slice A138 (((a0.take (IntKind.i64.wrap (14 + (IntKind.i64.wrap (a0.getD (13 : Int).toNat 0)))).toNat).drop ((14 : Int)).toNat)).length c139)]) (cs := [.int .i64 x40, .int .i64 x133, .int .i64 (IntKind.i64.wrap (a0.getD (10 : Int).toNat 0)), .int .i64 x135, .slice A138 (((a0.take (IntKind.i64.wrap (14 + (IntKind.i64.wrap (a0.getD (13 : Int).toNat 0)))).toNat).drop ((14 : Int)).toNat)).length c139]) rfl (fun w => by kernel_rfl))) fun a F => ?_
                obtain ⟨_, hr, H⟩ := Hp.store (t := 24) (o := 0) (n := 5) (vs := [.int .i64 x40, .int .i64 x133, .int .i64 (IntKind.i64.wrap (a0.getD (10 : Int).toNat 0)), .int .i64 x135, .slice A138 (((a0.take (IntKind.i64.wrap (14 + (IntKind.i64.wrap (a0.getD (13 : Int).toNat 0)))).toNat).drop ((14 : Int)).toNat)).length c139]) (cs' := [.int .i64 x40, .int .i64 x133, .int .i64 (IntKind.i64.wrap (a0.getD (10 : Int).toNat 0)), .int .i64 x135, .slice A138 (((a0.take (IntKind.i64.wrap (14 + (IntKind.i64.wrap (a0.getD (13 : Int).toNat 0)))).toNat).drop ((14 : Int)).toNat)).length c139]) (H.f2.f1.f2) (F.ev (x := .tmp 5) rfl) (F.ev (x := .tmp 43) rfl) rfl sz24 rfl (Nat.le_of_ble_eq_true rfl) rfl rfl
                refine d1 21 rfl (by kernel_rfl) (qn F (.inl rfl) (hr _ _ _ _) fun a F => ?_)
                have HS := H.fx1.fx0
                refine kg _ HS (fun w S => S) ?_
                refine ddone (by kernel_rfl) ?_
                replace F := F.only [5, 4, 2, 0] (l' := [(5, .pointer (some ⟨g117, 0, none⟩)), (4, .int .i64 (IntKind.i64.wrap (a0.getD (13 : Int).toNat 0))), (2, .pointer (some ⟨g1, 0, none⟩)), (0, .slice A0_ a0.length c0_)]) rfl
                try dsimp only at k_21
                obtain rfl := Option.some.inj k_21
                exact ⟨_, _, _, _, rfl, g117, A138, c139, F.only [0, 2, 4, 5] rfl, H.px9.px8.px7.px6.px5.px4.px3.px2.px1.px0.f2.f1.f2⟩
          · skip
            refine lbs F H (e := 5) (vs := []) (cs := []) rfl (fun w => by kernel_rfl) fun g140 w a H F => ?_
            have HS := H.fx0
            refine kg _ HS (fun w S => S) ?_
            refine d2 2 20 rfl rfl (by kernel_rfl) ?_ ?_
            · skip
              obtain ⟨x141, e142, k_21⟩ := Option.bind_eq_some_iff.1 k_21
              try dsimp only at k_21
              refine call F Try.func19 (ref16_Read_ok (H.p5) e142) rfl rfl fun v w hR a F => ?_
              obtain ⟨rfl, H⟩ := hR
              have HS := H.fx0
              refine kg _ HS (fun w S => S) ?_
              refine d2 5 20 rfl rfl (by kernel_rfl) ?_ ?_
              · skip
                obtain ⟨x143, e144, k_21⟩ := Option.bind_eq_some_iff.1 k_21
                try dsimp only at k_21
                refine call F Try.func19 (ref16_Read_ok (H.p4) e144) rfl rfl fun v w hR a F => ?_
                obtain ⟨rfl, H⟩ := hR
                have HS := H.fx0
                refine kg _ HS (fun w S => S) ?_
                refine d2 12 20 rfl rfl (by kernel_rfl) ?_ ?_
                · skip
                  obtain ⟨x145, e146, k_21⟩ := Option.bind_eq_some_iff.1 k_21
                  try dsimp only at k_21
                  refine call F Try.func19 (ref16_Read_ok (H.p1) e146) rfl rfl fun v w hR a F => ?_
                  obtain ⟨rfl, H⟩ := hR
                  have HS := H.fx0
                  refine kg _ HS (fun w S => S) ?_
                  refine d2 18 20 rfl rfl (by kernel_rfl) ?_ ?_
                  · skip
                    replace H := Hp.litOwn (kd := kByte) (xs := []) (H) (SayL.nil) (Nat.le_of_ble_eq_true rfl)
                    obtain ⟨c147, k_21⟩ := guardO k_21
                    obtain ⟨A148, c149, _, hr, H⟩ := Hp.appendRd (kd := kByte) (xs := []) (ys := ((a0.take (IntKind.i64.wrap (14 + (IntKind.i64.wrap (a0.getD (13 : Int).toNat 0)))).toNat).drop ((14 : Int)).toNat)) (H) 0 rfl (F.ev (x := .tmp 37) rfl) (F.ev (x := .tmp 41) rfl) Try.underlying22 ti5 rfl (by decide) (by decide) c147
                    rw [List.nil_append] at hr H
                    refine qv F (hr _ _ _ _ _) fun a F => ?_
                    have HS := H.fx0
                    refine kg _ HS (fun w S => S) ?_
                    refine dq 19 F rfl (by kernel_rfl) NP HS (fun w S => (r_bd F (vs := [(0, .int .i64 x141), (1, .int .i64 x143), (2, .int .i64 (IntKind.i64.wrap (a0.getD (10 : Int).toNat 0))), (3, .int .i64 x145), (4, .slice A148 (((a0.take (IntKind.i64.wrap (14 + (IntKind.i64.wrap (a0.getD (13 : Int).toNat 0)))).toNat).drop ((14 : Int)).toNat)).length c149)]) (cs := [.int .i64 x141, .int .i64 x143, .int .i64 (IntKind.i64.wrap (a0.getD (10 : Int).toNat 0)), .int .i64 x145, .slice A148 (((a0.take (IntKind.i64.wrap (14 + (IntKind.i64.wrap (a0.getD (13 : Int).toNat 0)))).toNat).drop ((14 : Int)).toNat)).length c149]) rfl (fun w => by kernel_rfl))) fun a F => ?_
                    refine d1 20 rfl (by kernel_rfl) (lal F H ti24 (cs := [.int .i64 0, .int .i64 0, .int .i64 0, .int .i64 0, .slice none 0 0]) rfl fun g150 w a H F => ?_)
                    have HS := H.fx1.fx0
                    refine kg _ HS (fun w S => S) ?_
                    obtain ⟨_, hr, H⟩ := Hp.store (t := 24) (o := 0) (n := 5) (vs := [.int .i64 x141, .int .i64 x143, .int .i64 (IntKind.i64.wrap (a0.getD (10 : Int).toNat 0)), .int .i64 x145, .slice A148 (((a0.take (IntKind.i64.wrap (14 + (IntKind.i64.wrap (a0.getD (13 : Int).toNat 0)))).toNat).drop ((14 : Int)).toNat)).length c149]) (cs' := [.int .i64 x141, .int .i64 x143, .int .i64 (IntKind.i64.wrap (a0.getD (10 : Int).toNat 0)), .int .i64 x145, .slice A148 (((a0.take (IntKind.i64.wrap (14 + (IntKind.i64.wrap (a0.getD (13 : Int).toNat 0)))).toNat).drop ((14 : Int)).toNat)).length c149]) (H) (F.ev (x := .tmp 5) rfl) (F.ev (x := .tmp 43) rfl) rfl sz24 rfl (Nat.le_of_ble_eq_true rfl) rfl rfl
                    refine d1 21 rfl (by kernel_rfl) (qn F (.inl rfl) (hr _ _ _ _) fun a F => ?_)
                    have HS := H.fx1.fx0
                    refine kg _ HS (fun w S => S) ?_
                    refine ddone (by kernel_rfl) ?_
                    replace F := F.only [5, 4, 2, 0] (l' := [(5, .pointer (some ⟨g150, 0, none⟩)), (4, .int .i64 (IntKind.i64.wrap (a0.getD (13 : Int).toNat 0))), (2, .pointer (some ⟨g1, 0, none⟩)), (0, .slice A0_ a0.length c0_)]) rfl
                    try dsimp only at k_21
                    obtain rfl := Option.some.inj k_21
                    exact ⟨_, _, _, _, rfl, g150, A148, c149, F.only [0, 2, 4, 5] rfl, H.px9.px8.px7.px6.px5.px4.px3.px2.px1.px0.f2.f1.f2⟩
                  · skip
                    refine lal F H ti24 (cs := [.int .i64 0, .int .i64 0, .int .i64 0, .int .i64 0, .slice none 0 0]) rfl fun g151 w a H F => ?_
                    have HS := H.fx1.fx0
                    refine kg _ HS (fun w S => S) ?_
                    replace H := Hp.litOwn (kd := kByte) (xs := []) (H.f2.f1.f2) (SayL.nil) (Nat.le_of_ble_eq_true rfl)
                    obtain ⟨c152, k_21⟩ := guardO k_21
                    obtain ⟨A153, c154, _, hr, H⟩ := Hp.appendRd (kd := kByte) (xs := []) (ys := ((a0.take (IntKind.i64.wrap (14 + (IntKind.i64.wrap (a0.getD (13 : Int).toNat 0)))).toNat).drop ((14 : Int)).toNat)) (H) 0 rfl (F.ev (x := .tmp 37) rfl) (F.ev (x := .tmp 41) rfl) Try.underlying22 ti5 rfl (by decide) (by decide) c152
                    rw [List.nil_append] at hr H
                    refine d1 18 rfl (by kernel_rfl) (qv F (hr _ _ _ _ _) fun a F => ?_)
                    have HS := H.fx1.fx0
                    refine kg _ HS (fun w S => S) ?_
                    refine dq 19 F rfl (by kernel_rfl) NP HS (fun w S => (r_bd F (vs := [(0, .int .i64 x141), (1, .int .i64 x143), (2, .int .i64 (IntKind.i64.wrap (a0.getD (10 : Int).toNat 0))), (3, .int .i64 x145), (4, .slice A153 (((a0.take (IntKind.i64.wrap (14 + (IntKind.i64.wrap (a0.getD (13 : Int).toNat 0)))).toNat).drop ((14 : Int)).toNat)).length c154)]) (cs := [.int .i64 x141, .int .i64 x143, .int .i64 (IntKind.i64.wrap (a0.getD (10 : Int).toNat 0)), .int .i64 x145, .slice A153 (((a0.take (IntKind.i64.wrap (14 + (IntKind.i64.wrap (a0.getD (13 : Int).toNat 0)))).toNat).drop ((14 : Int)).toNat)).length c154]) rfl (fun w => by kernel_rfl))) fun a F => ?_
                    obtain ⟨_, hr, H⟩ := Hp.store (t := 24) (o := 0) (n := 5) (vs := [.int .i64 x141, .int .i64 x143, .int .i64 (IntKind.i64.wrap (a0.getD (10 : Int).toNat 0)), .int .i64 x145, .slice A153 (((a0.take (IntKind.i64.wrap (14 + (IntKind.i64.wrap (a0.getD (13 : Int).toNat 0)))).toNat).drop ((14 : Int)).toNat)).length c154]) (cs' := [.int .i64 x141, .int .i64 x143, .int .i64 (IntKind.i64.wrap (a0.getD (10 : Int).toNat 0)), .int .i64 x145, .slice A153 (((a0.take (IntKind.i64.wrap (14 + (IntKind.i64.wrap (a0.getD (13 : Int).toNat 0)))).toNat).drop ((14 : Int)).toNat)).length c154]) (H.f2.f1.f2) (F.ev (x := .tmp 5) rfl) (F.ev (x := .tmp 43) rfl) rfl sz24 rfl (Nat.le_of_ble_eq_true rfl) rfl rfl
                    refine d1 21 rfl (by kernel_rfl) (qn F (.inl rfl) (hr _ _ _ _) fun a F => ?_)
                    have HS := H.fx1.fx0
                    refine kg _ HS (fun w S => S) ?_
                    refine ddone (by kernel_rfl) ?_
                    replace F := F.only [5, 4, 2, 0] (l' := [(5, .pointer (some ⟨g151, 0, none⟩)), (4, .int .i64 (IntKind.i64.wrap (a0.getD (13 : Int).toNat 0))), (2, .pointer (some ⟨g1, 0, none⟩)), (0, .slice A0_ a0.length c0_)]) rfl
                    try dsimp only at k_21
                    obtain rfl := Option.some.inj k_21
                    exact ⟨_, _, _, _, rfl, g151, A153, c154, F.only [0, 2, 4, 5] rfl, H.px9.px8.px7.px6.px5.px4.px3.px2.px1.px0.f2.f1.f2⟩
                · skip
                  refine lal F H ti24 (cs := [.int .i64 0, .int .i64 0, .int .i64 0, .int .i64 0, .slice none 0 0]) rfl fun g155 w a H F => ?_
                  have HS := H.fx1.fx0
                  refine kg _ HS (fun w S => S) ?_
                  obtain ⟨x156, e157, k_21⟩ := Option.bind_eq_some_iff.1 k_21
                  try dsimp only at k_21
                  refine d1 12 rfl (by kernel_rfl) (call F Try.func19 (ref16_Read_ok (H.p1) e157) rfl rfl fun v w hR a F => ?_)
                  obtain ⟨rfl, H⟩ := hR
                  have HS := H.fx1.fx0
                  refine kg _ HS (fun w S => S) ?_
                  replace H := Hp.litOwn (kd := kByte) (xs := []) (H.f2.f1.f2) (SayL.nil) (Nat.le_of_ble_eq_true rfl)
                  obtain ⟨c158, k_21⟩ := guardO k_21
                  obtain ⟨A159, c160, _, hr, H⟩ := Hp.appendRd (kd := kByte) (xs := []) (ys := ((a0.take (IntKind.i64.wrap (14 + (IntKind.i64.wrap (a0.getD (13 : Int).toNat 0)))).toNat).drop ((14 : Int)).toNat)) (H) 0 rfl (F.ev (x := .tmp 37) rfl) (F.ev (x := .tmp 41) rfl) Try.underlying22 ti5 rfl (by decide) (by decide) c158
                  rw [List.nil_append] at hr H
                  refine d1 18 rfl (by kernel_rfl) (qv F (hr _ _ _ _ _) fun a F => ?_)
                  have HS := H.fx1.fx0
                  refine kg _ HS (fun w S => S) ?_
                  refine dq 19 F rfl (by kernel_rfl) NP HS (fun w S => (r_bd F (vs := [(0, .int .i64 x141), (1, .int .i64 x143), (2, .int .i64 (IntKind.i64.wrap (a0.getD (10 : Int).toNat 0))), (3, .int .i64 x156), (4, .slice A159 (((a0.take (IntKind.i64.wrap (14 + (IntKind.i64.wrap (a0.getD (13 : Int).toNat 0)))).toNat).drop ((14 : Int)).toNat)).length c160)]) (cs := [.int .i64 x141, .int .i64 x143, .int .i64 (IntKind.i64.wrap (a0.getD (10 : Int).toNat 0)), .int .i64 x156, .slice A159 (((a0.take (IntKind.i64.wrap (14 + (IntKind.i64.wrap (a0.getD (13 : Int).toNat 0)))).toNat).drop ((14 : Int)).toNat)).length c160]) rfl (fun w => by kernel_rfl))) fun a F => ?_
                  obtain ⟨_, hr, H⟩ := Hp.store (t := 24) (o := 0) (n := 5) (vs := [.int .i64 x141, .int .i64 x143, .int .i64 (IntKind.i64.wrap (a0.getD (10 : Int).toNat 0)), .int .i64 x156, .slice A159 (((a0.take (IntKind.i64.wrap (14 + (IntKind.i64.wrap (a0.getD (13 : Int).toNat 0)))).toNat).drop ((14 : Int)).toNat)).length c160]) (cs' := [.int .i64 x141, .int .i64 x143, .int .i64 (IntKind.i64.wrap (a0.getD (10 : Int).toNat 0)), .int .i64 x156, .slice A159 (((a0.take (IntKind.i64.wrap (14 + (IntKind.i64.wrap (a0.getD (13 : Int).toNat 0)))).toNat).drop ((14 : Int)).toNat)).length c160]) (H.f2.f1.f2) (F.ev (x := .tmp 5) rfl) (F.ev (x := .tmp 43) rfl) rfl sz24 rfl (Nat.le_of_ble_eq_true rfl) rfl rfl
                  refine d1 21 rfl (by kernel_rfl) (qn F (.inl rfl) (hr _ _ _ _) fun a F => ?_)
                  have HS := H.fx1.fx0
                  refine kg _ HS (fun w S => S) ?_
                  refine ddone (by kernel_rfl) ?_
                  replace F := F.only [5, 4, 2, 0] (l' := [(5, .pointer (some ⟨g155, 0, none⟩)), (4, .int .i64 (IntKind.i64.wrap (a0.getD (13 : Int).toNat 0))), (2, .pointer (some ⟨g1, 0, none⟩)), (0, .slice A0_ a0.length c0_)]) rfl
                  try dsimp only at k_21
                  obtain rfl := Option.some.inj k_21
                  exact ⟨_, _, _, _, rfl, g155, A159, c160, F.only [0, 2, 4, 5] rfl, H.px9.px8.px7.px6.px5.px4.px3.px2.px1.px0.f2.f1.f2⟩
              · skip
                refine lal F H ti24 (cs := [.int .i64 0, .int .i64 0, .int .i64 0, .int .i64 0, .slice none 0 0]) rfl fun g161 w a H F => ?_
                have HS := H.fx1.fx0
                refine kg _ HS (fun w S => S) ?_
                obtain ⟨x162, e163, k_21⟩ := Option.bind_eq_some_iff.1 k_21
                try dsimp only at k_21
                refine d1 5 rfl (by kernel_rfl) (call F Try.func19 (ref16_Read_ok (H.p4) e163) rfl rfl fun v w hR a F => ?_)
                obtain ⟨rfl, H⟩ := hR
                have HS := H.fx1.fx0
                refine kg _ HS (fun w S => S) ?_
                obtain ⟨x164, e165, k_21⟩ := Option.bind_eq_some_iff.1 k_21
                try dsimp only at k_21
                refine d1 12 rfl (by kernel_rfl) (call F Try.func19 (ref16_Read_ok (H.p1) e165) rfl rfl fun v w hR a F => ?_)
                obtain ⟨rfl, H⟩ := hR
                have HS := H.fx1.fx0
                refine kg _ HS (fun w S => S) ?_
                replace H := Hp.litOwn (kd := kByte) (xs := []) (H.f2.f1.f2) (SayL.nil) (Nat.le_of_ble_eq_true rfl)
                obtain ⟨c166, k_21⟩ := guardO k_21
                obtain ⟨A167, c168, _, hr, H⟩ := Hp.appendRd (kd := kByte) (xs := []) (ys := ((a0.take (IntKind.i64.wrap (14 + (IntKind.i64.wrap (a0.getD (13 : Int).toNat 0)))).toNat).drop ((14 : Int)).toNat)) (H) 0 rfl (F.ev (x := .tmp 37) rfl) (F.ev (x := .tmp 41) rfl) Try.underlying22 ti5 rfl (by decide) (by decide) c166
                rw [List.nil_append] at hr H
                refine d1 18 rfl (by kernel_rfl) (qv F (hr _ _ _ _ _) fun a F => ?_)
                have HS := H.fx1.fx0
                refine kg _ HS (fun w S => S) ?_
                refine dq 19 F rfl (by kernel_rfl) NP HS (fun w S => (r_bd F (vs := [(0, .int .i64 x141), (1, .int .i64 x162), (2, .int .i64 (IntKind.i64.wrap (a0.getD (10 : Int).toNat 0))), (3, .int .i64 x164), (4, .slice A167 (((a0.take (IntKind.i64.wrap (14 + (IntKind.i64.wrap (a0.getD (13 : Int).toNat 0)))).toNat).drop ((14 : Int)).toNat)).length c168)]) (cs := [.int .i64 x141, .int .i64 x162, .int .i64 (IntKind.i64.wrap (a0.getD (10 : Int).toNat 0)), .int .i64 x164, .slice A167 (((a0.take (IntKind.i64.wrap (14 + (IntKind.i64.wrap (a0.getD (13 : Int).toNat 0)))).toNat).drop ((14 : Int)).toNat)).length c168]) rfl (fun w => by kernel_rfl))) fun a F => ?_
                obtain ⟨_, hr, H⟩ := Hp.store (t := 24) (o := 0) (n := 5) (vs := [.int .i64 x141, .int .i64 x162, .int .i64 (IntKind.i64.wrap (a0.getD (10 : Int).toNat 0)), .int .i64 x164, .slice A167 (((a0.take (IntKind.i64.wrap (14 + (IntKind.i64.wrap (a0.getD (13 : Int).toNat 0)))).toNat).drop ((14 : Int)).toNat)).length c168]) (cs' := [.int .i64 x141, .int .i64 x162, .int .i64 (IntKind.i64.wrap (a0.getD (10 : Int).toNat 0)), .int .i64 x164, .slice A167 (((a0.take (IntKind.i64.wrap (14 + (IntKind.i64.wrap (a0.getD (13 : Int).toNat 0)))).toNat).drop ((14 : Int)).toNat)).length c168]) (H.f2.f1.f2) (F.ev (x := .tmp 5) rfl) (F.ev (x := .tmp 43) rfl) rfl sz24 rfl (Nat.le_of_ble_eq_true rfl) rfl rfl
                refine d1 21 rfl (by kernel_rfl) (qn F (.inl rfl) (hr _ _ _ _) fun a F => ?_)
                have HS := H.fx1.fx0
                refine kg _ HS (fun w S => S) ?_
                refine ddone (by kernel_rfl) ?_
                replace F := F.only [5, 4, 2, 0] (l' := [(5, .pointer (some ⟨g161, 0, none⟩)), (4, .int .i64 (IntKind.i64.wrap (a0.getD (13 : Int).toNat 0))), (2, .pointer (some ⟨g1, 0, none⟩)), (0, .slice A0_ a0.length c0_)]) rfl
                try dsimp only at k_21
                obtain rfl := Option.some.inj k_21
                exact ⟨_, _, _, _, rfl, g161, A167, c168, F.only [0, 2, 4, 5] rfl, H.px9.px8.px7.px6.px5.px4.px3.px2.px1.px0.f2.f1.f2⟩
            · skip
              refine lal F H ti24 (cs := [.int .i64 0, .int .i64 0, .int .i64 0, .int .i64 0, .slice none 0 0]) rfl fun g169 w a H F => ?_
              have HS := H.fx1.fx0
              refine kg _ HS (fun w S => S) ?_
              obtain ⟨x170, e171, k_21⟩ := Option.bind_eq_some_iff.1 k_21
              try dsimp only at k_21
              refine d1 2 rfl (by kernel_rfl) (call F Try.func19 (ref16_Read_ok (H.p5) e171) rfl rfl fun v w hR a F => ?_)
              obtain ⟨rfl, H⟩ := hR
              have HS := H.fx1.fx0
              refine kg _ HS (fun w S => S) ?_
              obtain ⟨x172, e173, k_21⟩ := Option.bind_eq_some_iff.1 k_21
              try dsimp only at k_21
              refine d1 5 rfl (by kernel_rfl) (call F Try.func19 (ref16_Read_ok (H.p4) e173) rfl rfl fun v w hR a F => ?_)
              obtain ⟨rfl, H⟩ := hR
              have HS := H.fx1.fx0
              refine kg _ HS (fun w S => S) ?_
              obtain ⟨x174, e175, k_21⟩ := Option.bind_eq_some_iff.1 k_21
              try dsimp only at k_21
              refine d1 12 rfl (by kernel_rfl) (call F Try.func19 (ref16_Read_ok (H.p1) e175) rfl rfl fun v w hR a F => ?_)
              obtain ⟨rfl, H⟩ := hR
              have HS := H.fx1.fx0
              refine kg _ HS (fun w S => S) ?_
              replace H := Hp.litOwn (kd := kByte) (xs := []) (H.f2.f1.f2) (SayL.nil) (Nat.le_of_ble_eq_true rfl)
              obtain ⟨c176, k_21⟩ := guardO k_21
              obtain ⟨A177, c178, _, hr, H⟩ := Hp.appendRd (kd := kByte) (xs := []) (ys := ((a0.take (IntKind.i64.wrap (14 + (IntKind.i64.wrap (a0.getD (13 : Int).toNat 0)))).toNat).drop ((14 : Int)).toNat)) (H) 0 rfl (F.ev (x := .tmp 37) rfl) (F.ev (x := .tmp 41) rfl) Try.underlying22 ti5 rfl (by decide) (by decide) c176
              rw [List.nil_append] at hr H
              refine d1 18 rfl (by kernel_rfl) (qv F (hr _ _ _ _ _) fun a F => ?_)
              have HS := H.fx1.fx0
              refine kg _ HS (fun w S => S) ?_
              refine dq 19 F rfl (by kernel_rfl) NP HS (fun w S => (r_bd F (vs := [(0, .int .i64 x170), (1, .int .i64 x172), (2, .int .i64 (IntKind.i64.wrap (a0.getD (10 : Int).toNat 0))), (3, .int .i64 x174), (4, .slice A177 (((a0.take (IntKind.i64.wrap (14 + (IntKind.i64.wrap (a0.getD (13 : Int).toNat 0)))).toNat).drop ((14 : Int)).toNat)).length c178)]) (cs := [.int .i64 x170, .int .i64 x172, .int .i64 (IntKind.i64.wrap (a0.getD (10 : Int).toNat 0)), .int .i64 x174, .slice A177 (((a0.take (IntKind.i64.wrap (14 + (IntKind.i64.wrap (a0.getD (13 : Int).toNat 0)))).toNat).drop ((14 : Int)).toNat)).length c178]) rfl (fun w => by kernel_rfl))) fun a F => ?_
              obtain ⟨_, hr, H⟩ := Hp.store (t := 24) (o := 0) (n := 5) (vs := [.int .i64 x170, .int .i64 x172, .int .i64 (IntKind.i64.wrap (a0.getD (10 : Int).toNat 0)), .int .i64 x174, .slice A177 (((a0.take (IntKind.i64.wrap (14 + (IntKind.i64.wrap (a0.getD (13 : Int).toNat 0)))).toNat).drop ((14 : Int)).toNat)).length c178]) (cs' := [.int .i64 x170, .int .i64 x172, .int .i64 (IntKind.i64.wrap (a0.getD (10 : Int).toNat 0)), .int .i64 x174, .slice A177 (((a0.take (IntKind.i64.wrap (14 + (IntKind.i64.wrap (a0.getD (13 : Int).toNat 0)))).toNat).drop ((14 : Int)).toNat)).length c178]) (H.f2.f1.f2) (F.ev (x := .tmp 5) rfl) (F.ev (x := .tmp 43) rfl) rfl sz24 rfl (Nat.le_of_ble_eq_true rfl) rfl rfl
              refine d1 21 rfl (by kernel_rfl) (qn F (.inl rfl) (hr _ _ _ _) fun a F => ?_)
              have HS := H.fx1.fx0
              refine kg _ HS (fun w S => S) ?_
              refine ddone (by kernel_rfl) ?_
              replace F := F.only [5, 4, 2, 0] (l' := [(5, .pointer (some ⟨g169, 0, none⟩)), (4, .int .i64 (IntKind.i64.wrap (a0.getD (13 : Int).toNat 0))), (2, .pointer (some ⟨g1, 0, none⟩)), (0, .slice A0_ a0.length c0_)]) rfl
              try dsimp only at k_21
              obtain rfl := Option.some.inj k_21
              exact ⟨_, _, _, _, rfl, g169, A177, c178, F.only [0, 2, 4, 5] rfl, H.px9.px8.px7.px6.px5.px4.px3.px2.px1.px0.f2.f1.f2⟩
          · skip
            refine lal F H ti24 (cs := [.int .i64 0, .int .i64 0, .int .i64 0, .int .i64 0, .slice none 0 0]) rfl fun g179 w a H F => ?_
            have HS := H.fx0
            refine kg _ HS (fun w S => S) ?_
            refine d2 2 13 rfl rfl (by kernel_rfl) ?_ ?_
            · skip
              obtain ⟨x180, e181, k_21⟩ := Option.bind_eq_some_iff.1 k_21
              try dsimp only at k_21
              refine call F Try.func19 (ref16_Read_ok (H.p5) e181) rfl rfl fun v w hR a F => ?_
              obtain ⟨rfl, H⟩ := hR
              have HS := H.fx0
              refine kg _ HS (fun w S => S) ?_
              refine d2 5 13 rfl rfl (by kernel_rfl) ?_ ?_
              · skip
                obtain ⟨x182, e183, k_21⟩ := Option.bind_eq_some_iff.1 k_21
                try dsimp only at k_21
                refine call F Try.func19 (ref16_Read_ok (H.p4) e183) rfl rfl fun v w hR a F => ?_
                obtain ⟨rfl, H⟩ := hR
                have HS := H.fx0
                refine kg _ HS (fun w S => S) ?_
                refine d2 12 13 rfl rfl (by kernel_rfl) ?_ ?_
                · skip
                  obtain ⟨x184, e185, k_21⟩ := Option.bind_eq_some_iff.1 k_21
                  try dsimp only at k_21
                  refine call F Try.func19 (ref16_Read_ok (H.p1) e185) rfl rfl fun v w hR a F => ?_
                  obtain ⟨rfl, H⟩ := hR
                  have HS := H.fx0
                  refine kg _ HS (fun w S => S) ?_
                  refine d1 13 rfl (by kernel_rfl) (lbs F H (e := 5) (vs := []) (cs := []) rfl (fun w => by kernel_rfl) fun g186 w a H F => ?_)
                  have HS := H.fx1.fx0
                  refine kg _ HS (fun w S => S) ?_
                  replace H := Hp.litOwn (kd := kByte) (xs := []) (H) (SayL.nil) (Nat.le_of_ble_eq_true rfl)
                  obtain ⟨c187, k_21⟩ := guardO k_21
                  obtain ⟨A188, c189, _, hr, H⟩ := Hp.appendRd (kd := kByte) (xs := []) (ys := ((a0.take (IntKind.i64.wrap (14 + (IntKind.i64.wrap (a0.getD (13 : Int).toNat 0)))).toNat).drop ((14 : Int)).toNat)) (H) 0 rfl (F.ev (x := .tmp 37) rfl) (F.ev (x := .tmp 41) rfl) Try.underlying22 ti5 rfl (by decide) (by decide) c187
                  rw [List.nil_append] at hr H
                  refine d1 18 rfl (by kernel_rfl) (qv F (hr _ _ _ _ _) fun a F => ?_)
                  have HS := H.fx1.fx0
                  refine kg _ HS (fun w S => S) ?_
                  refine dq 19 F rfl (by kernel_rfl) NP HS (fun w S => (r_bd F (vs := [(0, .int .i64 x180), (1, .int .i64 x182), (2, .int .i64 (IntKind.i64.wrap (a0.getD (10 : Int).toNat 0))), (3, .int .i64 x184), (4, .slice A188 (((a0.take (IntKind.i64.wrap (14 + (IntKind.i64.wrap (a0.getD (13 : Int).toNat 0)))).toNat).drop ((14 : Int)).toNat)).length c189)]) (cs := [.int .i64 x180, .int .i64 x182, .int .i64 (IntKind.i64.wrap (a0.getD (10 : Int).toNat 0)), .int .i64 x184, .slice A188 (((a0.take (IntKind.i64.wrap (14 + (IntKind.i64.wrap (a0.getD (13 : Int).toNat 0)))).toNat).drop ((14 : Int)).toNat)).length c189]) rfl (fun w => by kernel_rfl))) fun a F => ?_
                  obtain ⟨_, hr, H⟩ := Hp.store (t := 24) (o := 0) (n := 5) (vs := [.int .i64 x180, .int .i64 x182, .int .i64 (IntKind.i64.wrap (a0.getD (10 : Int).toNat 0)), .int .i64 x184, .slice A188 (((a0.take (IntKind.i64.wrap (14 + (IntKind.i64.wrap (a0.getD (13 : Int).toNat 0)))).toNat).drop ((14 : Int)).toNat)).length c189]) (cs' := [.int .i64 x180, .int .i64 x182, .int .i64 (IntKind.i64.wrap (a0.getD (10 : Int).toNat 0)), .int .i64 x184, .slice A188 (((a0.take (IntKind.i64.wrap (14 + (IntKind.i64.wrap (a0.getD (13 : Int).toNat 0)))).toNat).drop ((14 : Int)).toNat)).length c189]) (H.f2.f1.f2) (F.ev (x := .tmp 5) rfl) (F.ev (x := .tmp 43) rfl) rfl sz24 rfl (Nat.le_of_ble_eq_true rfl) rfl rfl
                  refine d1 21 rfl (by kernel_rfl) (qn F (.inl rfl) (hr _ _ _ _) fun a F => ?_)
                  have HS := H.fx1.fx0
                  refine kg _ HS (fun w S => S) ?_
                  refine ddone (by kernel_rfl) ?_
                  replace F := F.only [5, 4, 2, 0] (l' := [(5, .pointer (some ⟨g179, 0, none⟩)), (4, .int .i64 (IntKind.i64.wrap (a0.getD (13 : Int).toNat 0))), (2, .pointer (some ⟨g1, 0, none⟩)), (0, .slice A0_ a0.length c0_)]) rfl
                  try dsimp only at k_21
                  obtain rfl := Option.some.inj k_21
                  exact ⟨_, _, _, _, rfl, g179, A188, c189, F.only [0, 2, 4, 5] rfl, H.px9.px8.px7.px6.px5.px4.px3.px2.px1.px0.f2.f1.f2⟩
                · skip
                  refine lbs F H (e := 5) (vs := []) (cs := []) rfl (fun w => by kernel_rfl) fun g190 w a H F => ?_
                  have HS := H.fx1.fx0
                  refine kg _ HS (fun w S => S) ?_
                  obtain ⟨x191, e192, k_21⟩ := Option.bind_eq_some_iff.1 k_21
                  try dsimp only at k_21
                  refine d1 12 rfl (by kernel_rfl) (call F Try.func19 (ref16_Read_ok (H.p1) e192) rfl rfl fun v w hR a F => ?_)
                  obtain ⟨rfl, H⟩ := hR
                  have HS := H.fx1.fx0
                  refine kg _ HS (fun w S => S) ?_
                  replace H := Hp.litOwn (kd := kByte) (xs := []) (H) (SayL.nil) (Nat.le_of_ble_eq_true rfl)
                  obtain ⟨c193, k_21⟩ := guardO k_21
                  obtain ⟨A194, c195, _, hr, H⟩ := Hp.appendRd (kd := kByte) (xs := []) (ys := ((a0.take (IntKind.i64.wrap (14 + (IntKind.i64.wrap (a0.getD (13 : Int).toNat 0)))).toNat).drop ((14 : Int)).toNat)) (H) 0 rfl (F.ev (x := .tmp 37) rfl) (F.ev (x := .tmp 41) rfl) Try.underlying22 ti5 rfl (by decide) (by decide) c193
                  rw [List.nil_append] at hr H
                  refine d1 18 rfl (by kernel_rfl) (qv F (hr _ _ _ _ _) fun a F => ?_)
                  have HS := H.fx1.fx0
                  refine kg _ HS (fun w S => S) ?_
                  refine dq 19 F rfl (by kernel_rfl) NP HS (fun w S => (r_bd F (vs := [(0, .int .i64 x180), (1, .int .i64 x182), (2, .int .i64 (IntKind.i64.wrap (a0.getD (10 : Int).toNat 0))), (3, .int .i64 x191), (4, .slice A194 (((a0.take (IntKind.i64.wrap (14 + (IntKind.i64.wrap (a0.getD (13 : Int).toNat 0)))).toNat).drop ((14 : Int)).toNat)).length c195)]) (cs := [.int .i64 x180, .int .i64 x182, .int .i64 (IntKind.i64.wrap (a0.getD (10 : Int).toNat 0)), .int .i64 x191, .slice A194 (((a0.take (IntKind.i64.wrap (14 + (IntKind.i64.wrap (a0.getD (13 : Int).toNat 0)))).toNat).drop ((14 : Int)).toNat)).length c195]) rfl (fun w => by kernel_rfl))) fun a F => ?_
                  obtain ⟨_, hr, H⟩ := Hp.store (t := 24) (o := 0) (n := 5) (vs := [.int .i64 x180, .int .i64 x182, .int .i64 (IntKind.i64.wrap (a0.getD (10 : Int).toNat 0)), .int .i64 x191, .slice A194 (((a0.take (IntKind.i64.wrap (14 + (IntKind.i64.wrap (a0.getD (13 : Int).toNat 0)))).toNat).drop ((14 : Int)).toNat)).length c195]) (cs' := [.int .i64 x180, .int .i64 x182, .int .i64 (IntKind.i64.wrap (a0.getD (10 : Int).toNat 0)), .int .i64 x191, .slice A194 (((a0.take (IntKind.i64.wrap (14 + (IntKind.i64.wrap (a0.getD (13 : Int).toNat 0)))).toNat).drop ((14 : Int)).toNat)).length c195]) (H.f2.f1.f2) (F.ev (x := .tmp 5) rfl) (F.ev (x := .tmp 43) rfl) rfl sz24 rfl (Nat.le_of_ble_eq_true rfl) rfl rfl
                  refine d1 21 rfl (by kernel_rfl) (qn F (.inl rfl) (hr _ _ _ _) fun a F => ?_)
                  have HS := H.fx1.fx0
                  refine kg _ HS (fun w S => S) ?_
                  refine ddone (by kernel_rfl) ?_
                  replace F := F.only [5, 4, 2, 0] (l' := [(5, .pointer (some ⟨g179, 0, none⟩)), (4, .int .i64 (IntKind.i64.wrap (a0.getD (13 : Int).toNat 0))), (2, .pointer (some ⟨g1, 0, none⟩)), (0, .slice A0_ a0.length c0_)]) rfl
                  try dsimp only at k_21
                  obtain rfl := Option.some.inj k_21
                  exact ⟨_, _, _, _, rfl, g179, A194, c195, F.only [0, 2, 4, 5] rfl, H.px9.px8.px7.px6.px5.px4.px3.px2.px1.px0.f2.f1.f2⟩
              · skip
                refine lbs F H (e := 5) (vs := []) (cs := []) rfl (fun w => by kernel_rfl) fun g196 w a H F => ?_
                have HS := H.fx1.fx0
                refine kg _ HS (fun w S => S) ?_
                obtain ⟨x197, e198, k_21⟩ := Option.bind_eq_some_iff.1 k_21
                try dsimp only at k_21
                refine d1 5 rfl (by kernel_rfl) (call F Try.func19 (ref16_Read_ok (H.p4) e198) rfl rfl fun v w hR a F => ?_)
                obtain ⟨rfl, H⟩ := hR
                have HS := H.fx1.fx0
                refine kg _ HS (fun w S => S) ?_
                obtain ⟨x199, e200, k_21⟩ := Option.bind_eq_some_iff.1 k_21
                try dsimp only at k_21
                refine d1 12 rfl (by kernel_rfl) (call F Try.func19 (ref16_Read_ok (H.p1) e200) rfl rfl fun v w hR a F => ?_)
                obtain ⟨rfl, H⟩ := hR
                have HS := H.fx1.fx0
                refine kg _ HS (fun w S => S) ?_
                replace H := Hp.litOwn (kd := kByte) (xs := []) (H) (SayL.nil) (Nat.le_of_ble_eq_true rfl)
                obtain ⟨c201, k_21⟩ := guardO k_21
                obtain ⟨A202, c203, _, hr, H⟩ := Hp.appendRd (kd := kByte) (xs := []) (ys := ((a0.take (IntKind.i64.wrap (14 + (IntKind.i64.wrap (a0.getD (13 : Int).toNat 0)))).toNat).drop ((14 : Int)).toNat)) (H) 0 rfl (F.ev (x := .tmp 37) rfl) (F.ev (x := .tmp 41) rfl) Try.underlying22 ti5 rfl (by decide) (by decide) c201
                rw [List.nil_append] at hr H
                refine d1 18 rfl (by kernel_rfl) (qv F (hr _ _ _ _ _) fun a F => ?_)
                have HS := H.fx1.fx0
                refine kg _ HS (fun w S => S) ?_
                refine dq 19 F rfl (by kernel_rfl) NP HS (fun w S => (r_bd F (vs := [(0, .int .i64 x180), (1, .int .i64 x197), (2, .int .i64 (IntKind.i64.wrap (a0.getD (10 : Int).toNat 0))), (3, .int .i64 x199), (4, .slice A202 (((a0.take (IntKind.i64.wrap (14 + (IntKind.i64.wrap (a0.getD (13 : Int).toNat 0)))).toNat).drop ((14 : Int)).toNat)).length c203)]) (cs := [.int .i64 x180, .int .i64 x197, .int .i64 (IntKind.i64.wrap (a0.getD (10 : Int).toNat 0)), .int .i64 x199, .slice A202 (((a0.take (IntKind.i64.wrap (14 + (IntKind.i64.wrap (a0.getD (13 : Int).toNat 0)))).toNat).drop ((14 : Int)).toNat)).length c203]) rfl (fun w => by kernel_rfl))) fun a F => ?_
                obtain ⟨_, hr, H⟩ := Hp.store (t := 24) (o := 0) (n := 5) (vs := [.int .i64 x180, .int .i64 x197, .int .i64 (IntKind.i64.wrap (a0.getD (10 : Int).toNat 0)), .int .i64 x199, .slice A202 (((a0.take (IntKind.i64.wrap (14 + (IntKind.i64.wrap (a0.getD (13 : Int).toNat 0)))).toNat).drop ((14 : Int)).toNat)).length c203]) (cs' := [.int .i64 x180, .int .i64 x197, .int .i64 (IntKind.i64.wrap (a0.getD (10 : Int).toNat 0)), .int .i64 x199, .slice A202 (((a0.take (IntKind.i64.wrap (14 + (IntKind.i64.wrap (a0.getD (13 : Int).toNat 0)))).toNat).drop ((14 : Int)).toNat)).length c203]) (H.f2.f1.f2) (F.ev (x := .tmp 5) rfl) (F.ev (x := .tmp 43) rfl) rfl sz24 rfl (Nat.le_of_ble_eq_true rfl) rfl rfl
                refine d1 21 rfl (by kernel_rfl) (qn F (.inl rfl) (hr _ _ _ _) fun a F => ?_)
                have HS := H.fx1.fx0
                refine kg _ HS (fun w S => S) ?_
                refine ddone (by kernel_rfl) ?_
                replace F := F.only [5, 4, 2, 0] (l' := [(5, .pointer (some ⟨g179, 0, none⟩)), (4, .int .i64 (IntKind.i64.wrap (a0.getD (13 : Int).toNat 0))), (2, .pointer (some ⟨g1, 0, none⟩)), (0, .slice A0_ a0.length c0_)]) rfl
                try dsimp only at k_21
                obtain rfl := Option.some.inj k_21
                exact ⟨_, _, _, _, rfl, g179, A202, c203, F.only [0, 2, 4, 5] rfl, H.px9.px8.px7.px6.px5.px4.px3.px2.px1.px0.f2.f1.f2⟩
            · skip
              refine lbs F H (e := 5) (vs := []) (cs := []) rfl (fun w => by kernel_rfl) fun g204 w a H F => ?_
              have HS := H.fx1.fx0
              refine kg _ HS (fun w S => S) ?_
              obtain ⟨x205, e206, k_21⟩ := Option.bind_eq_some_iff.1 k_21
              try dsimp only at k_21
              refine d1 2 rfl (by kernel_rfl) (call F Try.func19 (ref16_Read_ok (H.p5) e206) rfl rfl fun v w hR a F => ?_)
              obtain ⟨rfl, H⟩ := hR
              have HS := H.fx1.fx0
              refine kg _ HS (fun w S => S) ?_
              obtain ⟨x207, e208, k_21⟩ := Option.bind_eq_some_iff.1 k_21
              try dsimp only at k_21
              refine d1 5 rfl (by kernel_rfl) (call F Try.func19 (ref16_Read_ok (H.p4) e208) rfl rfl fun v w hR a F => ?_)
              obtain ⟨rfl, H⟩ := hR
              have HS := H.fx1.fx0
              refine kg _ HS (fun w S => S) ?_
              obtain ⟨x209, e210, k_21⟩ := Option.bind_eq_some_iff.1 k_21
              try dsimp only at k_21
              refine d1 12 rfl (by kernel_rfl) (call F Try.func19 (ref16_Read_ok (H.p1) e210) rfl rfl fun v w hR a F => ?_)
              obtain ⟨rfl, H⟩ := hR
              have HS := H.fx1.fx0
              refine kg _ HS (fun w S => S) ?_
              replace H := Hp.litOwn (kd := kByte) (xs := []) (H) (SayL.nil) (Nat.le_of_ble_eq_true rfl)
              obtain ⟨c211, k_21⟩ := guardO k_21
              obtain ⟨A212, c213, _, hr, H⟩ := Hp.appendRd (kd := kByte) (xs := []) (ys := ((a0.take (IntKind.i64.wrap (14 + (IntKind.i64.wrap (a0.getD (13 : Int).toNat 0)))).toNat).drop ((14 : Int)).toNat)) (H) 0 rfl (F.ev (x := .tmp 37) rfl) (F.ev (x := .tmp 41) rfl) Try.underlying22 ti5 rfl (by decide) (by decide) c211
              rw [List.nil_append] at hr H
              refine d1 18 rfl (by kernel_rfl) (qv F (hr _ _ _ _ _) fun a F => ?_)
              have HS := H.fx1.fx0
              refine kg _ HS (fun w S => S) ?_
              refine dq 19 F rfl (by kernel_rfl) NP HS (fun w S => (r_bd F (vs := [(0, .int .i64 x205), (1, .int .i64 x207), (2, .int .i64 (IntKind.i64.wrap (a0.getD (10 : Int).toNat 0))), (3, .int .i64 x209), (4, .slice A212 (((a0.take (IntKind.i64.wrap (14 + (IntKind.i64.wrap (a0.getD (13 : Int).toNat 0)))).toNat).drop ((14 : Int)).toNat)).length c213)]) (cs := [.int .i64 x205, .int .i64 x207, .int .i64 (IntKind.i64.wrap (a0.getD (10 : Int).toNat 0)), .int .i64 x209, .slice A212 (((a0.take (IntKind.i64.wrap (14 + (IntKind.i64.wrap (a0.getD (13 : Int).toNat 0)))).toNat).drop ((14 : Int)).toNat)).length c213]) rfl (fun w => by kernel_rfl))) fun a F => ?_
              obtain ⟨_, hr, H⟩ := Hp.store (t := 24) (o := 0) (n := 5) (vs := [.int .i64 x205, .int .i64 x207, .int .i64 (IntKind.i64.wrap (a0.getD (10 : Int).toNat 0)), .int .i64 x209, .slice A212 (((a0.take (IntKind.i64.wrap (14 + (IntKind.i64.wrap (a0.getD (13 : Int).toNat 0)))).toNat).drop ((14 : Int)).toNat)).length c213]) (cs' := [.int .i64 x205, .int .i64 x207, .int .i64 (IntKind.i64.wrap (a0.getD (10 : Int).toNat 0)), .int .i64 x209, .slice A212 (((a0.take (IntKind.i64.wrap (14 + (IntKind.i64.wrap (a0.getD (13 : Int).toNat 0)))).toNat).drop ((14 : Int)).toNat)).length c213]) (H.f2.f1.f2) (F.ev (x := .tmp 5) rfl) (F.ev (x := .tmp 43) rfl) rfl sz24 rfl (Nat.le_of_ble_eq_true rfl) rfl rfl
              refine d1 21 rfl (by kernel_rfl) (qn F (.inl rfl) (hr _ _ _ _) fun a F => ?_)
              have HS := H.fx1.fx0
              refine kg _ HS (fun w S => S) ?_
              refine ddone (by kernel_rfl) ?_
              replace F := F.only [5, 4, 2, 0] (l' := [(5, .pointer (some ⟨g179, 0, none⟩)), (4, .int .i64 (IntKind.i64.wrap (a0.getD (13 : Int).toNat 0))), (2, .pointer (some ⟨g1, 0, none⟩)), (0, .slice A0_ a0.length c0_)]) rfl
              try dsimp only at k_21
              obtain rfl := Option.some.inj k_21
              exact ⟨_, _, _, _, rfl, g179, A212, c213, F.only [0, 2, 4, 5] rfl, H.px9.px8.px7.px6.px5.px4.px3.px2.px1.px0.f2.f1.f2⟩
        · rintro a w ⟨x16, x17, x18, x19, rfl, g15, A20, c21, F, H⟩
          try dsimp only at h F H
          refine wp_seq ?_
          refine rg ?_
          refine mv F rfl fun a F => ?_
          refine ls (qv F (r_add (F.ev (x := .const (.int .i64 14)) rfl) (F.ev (x := .tmp 44) rfl)) fun a F => ?_)
          refine as_ F rfl fun a F => ?_
          refine rgend ?_
          obtain ⟨o_214, k_214, h⟩ := Option.bind_eq_some_iff.1 h
          refine cut (fun a w => Sum.inl () = o_214 ∧ Fr 63 [] [(2, .pointer (some ⟨g1, 0, none⟩)), (5, .pointer (some ⟨g15, 0, none⟩))] a ∧ Hp w0 ps (own kByte 5 A20 c21 x19 :: cel g15 [.int .i64 x16, .int .i64 x17, .int .i64 (IntKind.i64.wrap (a0.getD (10 : Int).toNat 0)), .int .i64 x18, .slice A20 x19.length c21] 24 :: cel g1 [.int .i64 0, .int .i64 0, .int .i64 0, .int .i64 0, .slice none 0 0] 24 :: fs) w) (wp_block ?_) ?_
          · refine wloop (ref16_Get_b0 a0) (fun (s : Int) a w => Fr 63 [] [(0, .slice A0_ a0.length c0_), (2, .pointer (some ⟨g1, 0, none⟩)), (5, .pointer (some ⟨g15, 0, none⟩)), (6, .int .i64 s)] a ∧ Hp w0 (rd kByte A0_ c0_ a0 :: ps) (own kByte 5 A20 c21 x19 :: cel g15 [.int .i64 x16, .int .i64 x17, .int .i64 (IntKind.i64.wrap (a0.getD (10 : Int).toNat 0)), .int .i64 x18, .slice A20 x19.length c21] 24 :: cel g1 [.int .i64 0, .int .i64 0, .int .i64 0, .int .i64 0, .slice none 0 0] 24 :: fs) w) k_214 ⟨F.only [0, 2, 5, 6] rfl, H⟩ ?_
            rintro x214 a w q_214 j_214 u_214 ⟨F, H⟩
            unfold ref16_Get_b0 at j_214
            try dsimp only at j_214 F H
            refine wp_seq ?_
            refine rg ?_
            refine mv F rfl fun a F => ?_
            refine mv F rfl fun a F => ?_
            refine ls (qv F (r_len (F.ev (x := .tmp 47) rfl) Try.underlying22) fun a F => ?_)
            refine ls (qv F (r_lt (F.ev (x := .tmp 46) rfl) (F.ev (x := .tmp 48) rfl)) fun a F => ?_)
            refine rgend ?_
            by_cases c216 : x214 < (a0.length : Int)
            · rw [if_pos c216] at j_214
              rw [decide_eq_true c216] at F
              refine wp_cond_true (F.ev rfl) ?_
              refine wp_skip ?_
              refine wp_seq ?_
              refine wp_block ?_
              refine rg ?_
              refine mv F rfl fun a F => ?_
              refine mv F rfl fun a F => ?_
              obtain ⟨c217, j_214⟩ := guardO j_214
              obtain ⟨g218, o219, s220, hr, H⟩ := H.ix 0 0 rfl (F.ev (x := .tmp 52) rfl) (F.ev (x := .tmp 53) rfl) Try.underlying22 sz5 (by decide) c217.1 c217.2
              obtain ⟨rfl, hr221⟩ := H.says_byte 1 rfl
              refine ls (qv F (hr _ _ _ _ _ _) fun a F => ?_)
              refine ls (qv F (r_ld (F.ev (x := .tmp 54) rfl) (range_cell (j := 0) (H.range 0 rfl) rfl) one5) fun a F => ?_)
              refine ls (qv F (r_ne (F.ev (x := .tmp 55) rfl) (F.ev (x := .const (.int .u8 0)) rfl)) fun a F => ?_)
              refine rgend ?_
              replace F := F.only [56, 0, 2, 5, 6] (l' := [(56, .bool (decide ((a0.getD (x214 : Int).toNat 0) ≠ 0))), (0, .slice A0_ a0.length c0_), (2, .pointer (some ⟨g1, 0, none⟩)), (5, .pointer (some ⟨g15, 0, none⟩)), (6, .int .i64 x214)]) rfl
              by_cases c222 : (a0.getD (x214 : Int).toNat 0) ≠ 0
              · rw [if_pos c222] at j_214
                rw [decide_eq_true c222] at F
                refine wp_cond_true (F.ev rfl) ?_
                refine rg ?_
                refine ls (lbd F (vs := []) (cs := [.int .i64 0, .int .i64 0, .int .i64 0, .int .i64 0, .slice none 0 0]) rfl (fun w => by kernel_rfl) fun a F => ?_)
                obtain ⟨_, hr, H⟩ := Hp.store (t := 24) (o := 0) (n := 5) (vs := [.int .i64 0, .int .i64 0, .int .i64 0, .int .i64 0, .slice none 0 0]) (cs' := [.int .i64 0, .int .i64 0, .int .i64 0, .int .i64 0, .slice none 0 0]) (H.f1.f1.f2) (F.ev (x := .tmp 2) rfl) (F.ev (x := .tmp 57) rfl) rfl sz24 rfl (Nat.le_of_ble_eq_true rfl) rfl rfl
                refine ls (qn F (.inl rfl) (hr _ _ _ _) fun a F => ?_)
                refine as_ F (v := .bool false) rfl fun a F => ?_
                refine rgend ?_
                replace F := F.only [3, 2] (l' := [(3, .bool false), (2, .pointer (some ⟨g1, 0, none⟩))]) rfl
                refine wp_ret ?_
                replace H := H.nilRd kByte
                try dsimp only at j_214
                obtain rfl := Option.some.inj j_214
                obtain rfl := u_214 _ rfl
                try dsimp only at h
                obtain ⟨rfl, rfl⟩ := Prod.mk.inj (Option.some.inj h)
                exact RET _ _ (retC2 F rfl rfl rfl (ldvA (cel_range (o := 0) (n := 5) (vs := [.int .i64 0, .int .i64 0, .int .i64 0, .int .i64 0, .slice none 0 0]) (H.cell 0 rfl) rfl) agg24 rfl) ⟨_, rfl, none, 0, rfl, H.px3.px2.px1.fx2.fx1.fx0⟩)
              · rw [if_neg c222] at j_214
                rw [decide_eq_false c222] at F
                refine wp_cond_false (F.ev rfl) ?_
                refine wp_skip ?_
                refine wp_region_lit ?_
                refine mv F rfl fun a F => ?_
                refine ls (qv F (r_add (F.ev (x := .tmp 50) rfl) (F.ev (x := .const (.int .i64 1)) rfl)) fun a F => ?_)
                refine as_ F rfl fun a F => ?_
                refine wpList_nil ?_
                replace F := F.only [6, 0, 2, 5] (l' := [(6, .int .i64 (IntKind.i64.wrap (x214 + 1))), (0, .slice A0_ a0.length c0_), (2, .pointer (some ⟨g1, 0, none⟩)), (5, .pointer (some ⟨g15, 0, none⟩))]) rfl
                try dsimp only at j_214
                obtain rfl := Option.some.inj j_214
                exact ⟨_, rfl, F.only [0, 2, 5, 6] rfl, H.px1.px0⟩
            · rw [if_neg c216] at j_214
              rw [decide_eq_false c216] at F
              refine wp_cond_false (F.ev rfl) ?_
              refine wp_exit ?_
              try dsimp only at j_214
              obtain rfl := Option.some.inj j_214
              obtain rfl := u_214 _ rfl
              repeat (with_reducible refine exT ?_)
              with_reducible refine exB ?_
              exact ⟨rfl, F.only [2, 5] rfl, H.px0⟩
          · rintro a w ⟨rfl, F, H⟩
            try dsimp only at h F H
            refine wp_seq ?_
            refine rg ?_
            refine ls (qv F (r_ldA (F.ev (x := .tmp 5) rfl) (cel_range (o := 0) (n := 5) (vs := [.int .i64 x16, .int .i64 x17, .int .i64 (IntKind.i64.wrap (a0.getD (10 : Int).toNat 0)), .int .i64 x18, .slice A20 x19.length c21]) (H.cell 1 rfl) rfl) agg24 rfl) fun a F => ?_)
            replace H := (H).freeze
            obtain ⟨x223, e224, h⟩ := Option.bind_eq_some_iff.1 h
            try dsimp only at h
            refine ls (call F Try.func13 (ref16_Right_ok (a0 := (⟨x16, x17, IntKind.i64.wrap (a0.getD (10 : Int).toNat 0), x18, x19⟩ : api_Sector)) (H.p0) e224) rfl rfl fun v w hR a F => ?_)
            obtain ⟨rfl, H⟩ := hR
            refine ls (qv F (r_not (F.ev (x := .tmp 59) rfl)) fun a F => ?_)
            refine rgend ?_
            by_cases c225 : x223 = true
            · rw [if_pos c225] at h
              rw [c225] at F
              refine wp_cond_false (F.ev rfl) ?_
              refine wp_skip ?_
              refine rg ?_
              refine ls (qv F (r_ldA (F.ev (x := .tmp 5) rfl) (cel_range (o := 0) (n := 5) (vs := [.int .i64 x16, .int .i64 x17, .int .i64 (IntKind.i64.wrap (a0.getD (10 : Int).toNat 0)), .int .i64 x18, .slice A20 x19.length c21]) (H.cell 0 rfl) rfl) agg24 rfl) fun a F => ?_)
              obtain ⟨_, hr, H⟩ := Hp.store (t := 24) (o := 0) (n := 5) (vs := [.int .i64 x16, .int .i64 x17, .int .i64 (IntKind.i64.wrap (a0.getD (10 : Int).toNat 0)), .int .i64 x18, .slice A20 x19.length c21]) (cs' := [.int .i64 x16, .int .i64 x17, .int .i64 (IntKind.i64.wrap (a0.getD (10 : Int).toNat 0)), .int .i64 x18, .slice A20 x19.length c21]) (H.f1) (F.ev (x := .tmp 2) rfl) (F.ev (x := .tmp 62) rfl) rfl sz24 rfl (Nat.le_of_ble_eq_true rfl) rfl rfl
              refine ls (qn F (.inl rfl) (hr _ _ _ _) fun a F => ?_)
              refine as_ F (v := .bool true) rfl fun a F => ?_
              refine rgend ?_
              replace F := F.only [3, 2] (l' := [(3, .bool true), (2, .pointer (some ⟨g1, 0, none⟩))]) rfl
              refine wp_ret ?_
              try dsimp only at h
              obtain ⟨rfl, rfl⟩ := Prod.mk.inj (Option.some.inj h)
              exact RET _ _ (retC2 F rfl rfl rfl (ldvA (cel_range (o := 0) (n := 5) (vs := [.int .i64 x16, .int .i64 x17, .int .i64 (IntKind.i64.wrap (a0.getD (10 : Int).toNat 0)), .int .i64 x18, .slice A20 x19.length c21]) (H.cell 0 rfl) rfl) agg24 rfl) ⟨_, rfl, A20, c21, rfl, H.fx1.fx0⟩)
            · rw [if_neg c225] at h
              rw [Bool.eq_false_iff.2 c225] at F
              refine wp_cond_true (F.ev rfl) ?_
              refine rg ?_
              refine ls (lbd F (vs := []) (cs := [.int .i64 0, .int .i64 0, .int .i64 0, .int .i64 0, .slice none 0 0]) rfl (fun w => by kernel_rfl) fun a F => ?_)
              obtain ⟨_, hr, H⟩ := Hp.store (t := 24) (o := 0) (n := 5) (vs := [.int .i64 0, .int .i64 0, .int .i64 0, .int .i64 0, .slice none 0 0]) (cs' := [.int .i64 0, .int .i64 0, .int .i64 0, .int .i64 0, .slice none 0 0]) (H.f1) (F.ev (x := .tmp 2) rfl) (F.ev (x := .tmp 61) rfl) rfl sz24 rfl (Nat.le_of_ble_eq_true rfl) rfl rfl
              refine ls (qn F (.inl rfl) (hr _ _ _ _) fun a F => ?_)
              refine as_ F (v := .bool false) rfl fun a F => ?_
              refine rgend ?_
              replace F := F.only [3, 2] (l' := [(3, .bool false), (2, .pointer (some ⟨g1, 0, none⟩))]) rfl
              refine wp_ret ?_
              replace H := H.nilRd kByte
              try dsimp only at h
              obtain ⟨rfl, rfl⟩ := Prod.mk.inj (Option.some.inj h)
              exact RET _ _ (retC2 F rfl rfl rfl (ldvA (cel_range (o := 0) (n := 5) (vs := [.int .i64 0, .int .i64 0, .int .i64 0, .int .i64 0, .slice none 0 0]) (H.cell 0 rfl) rfl) agg24 rfl) ⟨_, rfl, none, 0, rfl, H.px1.fx1.fx0⟩)
def ref16_Same_f (a0 : api_Sector) (a1 : api_Sector) : Option (Bool) :=
  (((if a0.Gen = a1.Gen then (if a0.Place = a1.Place then (if a0.Parts = a1.Parts then (if a0.Kept = a1.Kept then some ((decide (a0.Body = a1.Body))) else some false) else some false) else some false) else some false) : Option (Bool)).bind fun x3 => some x3)
set_option maxHeartbeats 4000000 in
set_option maxRecDepth 20000 in
theorem ref16_Same_ok {w0 w : World} {ps : List PF} {fs : List SF} {a0 : api_Sector} {A0_4 : Option Addr} {c0_4 : Nat} {a1 : api_Sector} {A1_4 : Option Addr} {c1_4 : Nat} {r0 : Bool} (H : Hp w0 (rd kByte A0_4 c0_4 a0.Body :: rd kByte A1_4 c1_4 a1.Body :: ps) fs w) (h : ref16_Same_f a0 a1 = some r0) :
    Calls Try.prog 16 [.agg #[.int .i64 a0.Gen, .int .i64 a0.Place, .int .i64 a0.Parts, .int .i64 a0.Kept, .slice A0_4 a0.Body.length c0_4], .agg #[.int .i64 a1.Gen, .int .i64 a1.Place, .int .i64 a1.Parts, .int .i64 a1.Kept, .slice A1_4 a1.Body.length c1_4]].toArray w fun e w' => ∃ v, e = .returned v ∧ v = .bool r0 ∧ Hp w0 ps fs w' := by
  refine enter [.agg #[.int .i64 a0.Gen, .int .i64 a0.Place, .int .i64 a0.Parts, .int .i64 a0.Kept, .slice A0_4 a0.Body.length c0_4], .agg #[.int .i64 a1.Gen, .int .i64 a1.Place, .int .i64 a1.Parts, .int .i64 a1.Kept, .slice A1_4 a1.Body.length c1_4]] 40 Try.func16 fun Q a NP RET NRM F => ?_
  replace NP : ∀ c a w, ¬ Q (.panic c) a w := fun c a w h => by rcases NP c a w h with h | ⟨w, v, h, _⟩ <;> cases h
  unfold ref16_Same_f at h
  refine rg ?_
  refine ls (lbox F H rfl (cs := [.int .i64 a0.Gen, .int .i64 a0.Place, .int .i64 a0.Parts, .int .i64 a0.Kept, .slice A0_4 a0.Body.length c0_4]) rfl fun g1 w a H F => ?_)
  refine ls (lbox F H rfl (cs := [.int .i64 a1.Gen, .int .i64 a1.Place, .int .i64 a1.Parts, .int .i64 a1.Kept, .slice A1_4 a1.Body.length c1_4]) rfl fun g2 w a H F => ?_)
  refine as_ F (v := .bool false) rfl fun a F => ?_
  refine rgend ?_
  refine wp_seq ?_
  obtain ⟨o_3, k_3, h⟩ := Option.bind_eq_some_iff.1 h
  refine cut (fun a w => ∃ (x3 : Bool), x3 = o_3 ∧ Fr 40 [] [(4, .bool x3)] a ∧ Hp w0 ps fs w) ?_ ?_
  · skip
    refine wp_region_lit ?_
    refine ls (qv F (r_fa (off := 0) (F.ev (x := .tmp 2) rfl) fa24_0) fun a F => ?_)
    refine ls (qv F (r_ld (F.ev (x := .tmp 5) rfl) (cel_cell (o := 0) (H.cell 1 rfl) rfl) one2) fun a F => ?_)
    refine ls (qv F (r_fa (off := 0) (F.ev (x := .tmp 3) rfl) fa24_0) fun a F => ?_)
    refine ls (qv F (r_ld (F.ev (x := .tmp 7) rfl) (cel_cell (o := 0) (H.cell 0 rfl) rfl) one2) fun a F => ?_)
    refine ls (qv F (r_eq (F.ev (x := .tmp 6) rfl) (F.ev (x := .tmp 8) rfl)) fun a F => ?_)
    refine mv F rfl fun a F => ?_
    by_cases c5 : a0.Gen = a1.Gen
    · rw [if_pos c5] at k_3
      rw [decide_eq_true c5] at F
      refine ls (qv F (r_fa (off := 1) (F.ev (x := .tmp 2) rfl) fa24_1) fun a F => ?_)
      refine ls (qv F (r_ld (F.ev (x := .tmp 11) rfl) (cel_cell (o := 1) (H.cell 1 rfl) rfl) one3) fun a F => ?_)
      refine ls (qv F (r_fa (off := 1) (F.ev (x := .tmp 3) rfl) fa24_1) fun a F => ?_)
      refine ls (qv F (r_ld (F.ev (x := .tmp 13) rfl) (cel_cell (o := 1) (H.cell 0 rfl) rfl) one3) fun a F => ?_)
      refine ls (qv F (r_eq (F.ev (x := .tmp 12) rfl) (F.ev (x := .tmp 14) rfl)) fun a F => ?_)
      refine ls (qv F (r_pickT (F.ev (x := .tmp 10) rfl) (F.ev (x := .tmp 15) rfl)) fun a F => ?_)
      refine mv F rfl fun a F => ?_
      by_cases c6 : a0.Place = a1.Place
      · rw [if_pos c6] at k_3
        rw [decide_eq_true c6] at F
        refine ls (qv F (r_fa (off := 2) (F.ev (x := .tmp 2) rfl) fa24_2) fun a F => ?_)
        refine ls (qv F (r_ld (F.ev (x := .tmp 18) rfl) (cel_cell (o := 2) (H.cell 1 rfl) rfl) one3) fun a F => ?_)
        refine ls (qv F (r_fa (off := 2) (F.ev (x := .tmp 3) rfl) fa24_2) fun a F => ?_)
        refine ls (qv F (r_ld (F.ev (x := .tmp 20) rfl) (cel_cell (o := 2) (H.cell 0 rfl) rfl) one3) fun a F => ?_)
        refine ls (qv F (r_eq (F.ev (x := .tmp 19) rfl) (F.ev (x := .tmp 21) rfl)) fun a F => ?_)
        refine ls (qv F (r_pickT (F.ev (x := .tmp 17) rfl) (F.ev (x := .tmp 22) rfl)) fun a F => ?_)
        refine mv F rfl fun a F => ?_
        by_cases c7 : a0.Parts = a1.Parts
        · rw [if_pos c7] at k_3
          rw [decide_eq_true c7] at F
          refine ls (qv F (r_fa (off := 3) (F.ev (x := .tmp 2) rfl) fa24_3) fun a F => ?_)
          refine ls (qv F (r_ld (F.ev (x := .tmp 25) rfl) (cel_cell (o := 3) (H.cell 1 rfl) rfl) one3) fun a F => ?_)
          refine ls (qv F (r_fa (off := 3) (F.ev (x := .tmp 3) rfl) fa24_3) fun a F => ?_)
          refine ls (qv F (r_ld (F.ev (x := .tmp 27) rfl) (cel_cell (o := 3) (H.cell 0 rfl) rfl) one3) fun a F => ?_)
          refine ls (qv F (r_eq (F.ev (x := .tmp 26) rfl) (F.ev (x := .tmp 28) rfl)) fun a F => ?_)
          refine ls (qv F (r_pickT (F.ev (x := .tmp 24) rfl) (F.ev (x := .tmp 29) rfl)) fun a F => ?_)
          refine mv F rfl fun a F => ?_
          by_cases c8 : a0.Kept = a1.Kept
          · rw [if_pos c8] at k_3
            rw [decide_eq_true c8] at F
            refine ls (qv F (r_fa (off := 4) (F.ev (x := .tmp 2) rfl) fa24_4) fun a F => ?_)
            refine ls (qv F (r_ld (F.ev (x := .tmp 32) rfl) (cel_cell (o := 4) (H.cell 1 rfl) rfl) one22) fun a F => ?_)
            have hb9 := H.bytes 0 rfl
            refine ls (qv F (H.str 0 rfl (F.ev (x := .tmp 33) rfl) Try.underlying22 Try.underlying5 Try.underlying9) fun a F => ?_)
            refine ls (qv F (r_fa (off := 4) (F.ev (x := .tmp 3) rfl) fa24_4) fun a F => ?_)
            refine ls (qv F (r_ld (F.ev (x := .tmp 35) rfl) (cel_cell (o := 4) (H.cell 0 rfl) rfl) one22) fun a F => ?_)
            have hb10 := H.bytes 1 rfl
            refine ls (qv F (H.str 1 rfl (F.ev (x := .tmp 36) rfl) Try.underlying22 Try.underlying5 Try.underlying9) fun a F => ?_)
            refine ls (qv F (r_seq (F.ev (x := .tmp 34) rfl) (F.ev (x := .tmp 37) rfl) hb9 hb10) fun a F => ?_)
            refine ls (qv F (r_pickT (F.ev (x := .tmp 31) rfl) (F.ev (x := .tmp 38) rfl)) fun a F => ?_)
            refine as_ F rfl fun a F => ?_
            refine wpList_nil ?_
            replace F := F.only [4] (l' := [(4, .bool (decide (a0.Body = a1.Body)))]) rfl
            try dsimp only at k_3
            obtain rfl := Option.some.inj k_3
            exact ⟨_, rfl, F.only [4] rfl, H.px1.px0.fx1.fx0⟩
          · rw [if_neg c8] at k_3
            rw [decide_eq_false c8] at F
            refine ls (off F fun a F => ?_)
            refine ls (off F fun a F => ?_)
            refine ls (off F fun a F => ?_)
            refine ls (off F fun a F => ?_)
            refine ls (off F fun a F => ?_)
            refine ls (off F fun a F => ?_)
            refine ls (off F fun a F => ?_)
            refine ls (qv F (r_pickF (F.ev (x := .tmp 31) rfl) (F.ev (x := .const (.bool false)) rfl)) fun a F => ?_)
            refine as_ F rfl fun a F => ?_
            refine wpList_nil ?_
            replace F := F.only [4] (l' := [(4, .bool false)]) rfl
            try dsimp only at k_3
            obtain rfl := Option.some.inj k_3
            exact ⟨_, rfl, F.only [4] rfl, H.px1.px0.fx1.fx0⟩
        · rw [if_neg c7] at k_3
          rw [decide_eq_false c7] at F
          refine ls (off F fun a F => ?_)
          refine ls (off F fun a F => ?_)
          refine ls (off F fun a F => ?_)
          refine ls (off F fun a F => ?_)
          refine ls (off F fun a F => ?_)
          refine ls (qv F (r_pickF (F.ev (x := .tmp 24) rfl) (F.ev (x := .const (.bool false)) rfl)) fun a F => ?_)
          refine mv F rfl fun a F => ?_
          refine ls (off F fun a F => ?_)
          refine ls (off F fun a F => ?_)
          refine ls (off F fun a F => ?_)
          refine ls (off F fun a F => ?_)
          refine ls (off F fun a F => ?_)
          refine ls (off F fun a F => ?_)
          refine ls (off F fun a F => ?_)
          refine ls (qv F (r_pickF (F.ev (x := .tmp 31) rfl) (F.ev (x := .const (.bool false)) rfl)) fun a F => ?_)
          refine as_ F rfl fun a F => ?_
          refine wpList_nil ?_
          replace F := F.only [4] (l' := [(4, .bool false)]) rfl
          try dsimp only at k_3
          obtain rfl := Option.some.inj k_3
          exact ⟨_, rfl, F.only [4] rfl, H.px1.px0.fx1.fx0⟩
      · rw [if_neg c6] at k_3
        rw [decide_eq_false c6] at F
        refine ls (off F fun a F => ?_)
        refine ls (off F fun a F => ?_)
        refine ls (off F fun a F => ?_)
        refine ls (off F fun a F => ?_)
        refine ls (off F fun a F => ?_)
        refine ls (qv F (r_pickF (F.ev (x := .tmp 17) rfl) (F.ev (x := .const (.bool false)) rfl)) fun a F => ?_)
        refine mv F rfl fun a F => ?_
        refine ls (off F fun a F => ?_)
        refine ls (off F fun a F => ?_)
        refine ls (off F fun a F => ?_)
        refine ls (off F fun a F => ?_)
        refine ls (off F fun a F => ?_)
        refine ls (qv F (r_pickF (F.ev (x := .tmp 24) rfl) (F.ev (x := .const (.bool false)) rfl)) fun a F => ?_)
        refine mv F rfl fun a F => ?_
        refine ls (off F fun a F => ?_)
        refine ls (off F fun a F => ?_)
        refine ls (off F fun a F => ?_)
        refine ls (off F fun a F => ?_)
        refine ls (off F fun a F => ?_)
        refine ls (off F fun a F => ?_)
        refine ls (off F fun a F => ?_)
        refine ls (qv F (r_pickF (F.ev (x := .tmp 31) rfl) (F.ev (x := .const (.bool false)) rfl)) fun a F => ?_)
        refine as_ F rfl fun a F => ?_
        refine wpList_nil ?_
        replace F := F.only [4] (l' := [(4, .bool false)]) rfl
        try dsimp only at k_3
        obtain rfl := Option.some.inj k_3
        exact ⟨_, rfl, F.only [4] rfl, H.px1.px0.fx1.fx0⟩
    · rw [if_neg c5] at k_3
      rw [decide_eq_false c5] at F
      refine ls (off F fun a F => ?_)
      refine ls (off F fun a F => ?_)
      refine ls (off F fun a F => ?_)
      refine ls (off F fun a F => ?_)
      refine ls (off F fun a F => ?_)
      refine ls (qv F (r_pickF (F.ev (x := .tmp 10) rfl) (F.ev (x := .const (.bool false)) rfl)) fun a F => ?_)
      refine mv F rfl fun a F => ?_
      refine ls (off F fun a F => ?_)
      refine ls (off F fun a F => ?_)
      refine ls (off F fun a F => ?_)
      refine ls (off F fun a F => ?_)
      refine ls (off F fun a F => ?_)
      refine ls (qv F (r_pickF (F.ev (x := .tmp 17) rfl) (F.ev (x := .const (.bool false)) rfl)) fun a F => ?_)
      refine mv F rfl fun a F => ?_
      refine ls (off F fun a F => ?_)
      refine ls (off F fun a F => ?_)
      refine ls (off F fun a F => ?_)
      refine ls (off F fun a F => ?_)
      refine ls (off F fun a F => ?_)
      refine ls (qv F (r_pickF (F.ev (x := .tmp 24) rfl) (F.ev (x := .const (.bool false)) rfl)) fun a F => ?_)
      refine mv F rfl fun a F => ?_
      refine ls (off F fun a F => ?_)
      refine ls (off F fun a F => ?_)
      refine ls (off F fun a F => ?_)
      refine ls (off F fun a F => ?_)
      refine ls (off F fun a F => ?_)
      refine ls (off F fun a F => ?_)
      refine ls (off F fun a F => ?_)
      refine ls (qv F (r_pickF (F.ev (x := .tmp 31) rfl) (F.ev (x := .const (.bool false)) rfl)) fun a F => ?_)
      refine as_ F rfl fun a F => ?_
      refine wpList_nil ?_
      replace F := F.only [4] (l' := [(4, .bool false)]) rfl
      try dsimp only at k_3
      obtain rfl := Option.some.inj k_3
      exact ⟨_, rfl, F.only [4] rfl, H.px1.px0.fx1.fx0⟩
  · rintro a w ⟨x3, rfl, F, H⟩
    try dsimp only at h F H
    refine wp_ret ?_
    try dsimp only at h
    obtain rfl := Option.some.inj h
    exact RET _ _ (ret1 F rfl rfl ⟨_, rfl, rfl, H⟩)
def sector_bytes_b1 (x4 : List sector_field) (x9 : Int) : (Int × Int × (Arr 64)) → Option (Int × Int × (Arr 64) ⊕ Int × (Arr 64))
  | (x19, x20, x21) => (if x20 ≥ 0 then (if 0 ≤ (IntKind.i64.wrap (8 * x20)) then (if 0 ≤ x19 ∧ x19 < (64 : Int) then some (.inl (IntKind.i64.wrap (x19 + 1), IntKind.i64.wrap (x20 - 1), (x21.put x19 (IntKind.u8.wrap (((x4.getD (x9 : Int).toNat (⟨0, 0, 0, 0⟩ : sector_field)).n).fdiv (2 ^ (min (IntKind.i64.wrap (8 * x20)).toNat 64))))))) else none) else none) else some (.inr (x19, x21)))
def sector_bytes_b0 (x4 : List sector_field) : (Int × Int × (Arr 64)) → Option (Int × Int × (Arr 64) ⊕ Arr 64)
  | (x8, x9, x10) => (if x9 < (x4.length : Int) then (if 0 ≤ x9 ∧ x9 < (x4.length : Int) then ((lp (sector_bytes_b1 x4 x9) (x8, IntKind.i64.wrap (((x4.getD (x9 : Int).toNat (⟨0, 0, 0, 0⟩ : sector_field)).many) - 1), x10)).bind fun (x22, x23) => some (.inl (x22, IntKind.i64.wrap (x9 + 1), x23))) else none) else some (.inr x10))
def sector_bytes_f (a0 : api_Sector) : Option (Arr 64) :=
  ((sector_fields_f a0).bind fun x4 => ((lp (sector_bytes_b0 x4) (0, 0, (Arr.zero 64))).bind fun x11 => some (x11.cpy 14 a0.Body)))
set_option maxHeartbeats 4000000 in
set_option maxRecDepth 20000 in
theorem sector_bytes_ok {w0 w : World} {ps : List PF} {fs : List SF} {a0 : api_Sector} {A0_4 : Option Addr} {c0_4 : Nat} {r0 : Arr 64} (H : Hp w0 (rd kByte A0_4 c0_4 a0.Body :: ps) fs w) (h : sector_bytes_f a0 = some r0) :
    Calls Try.prog 18 [.agg #[.int .i64 a0.Gen, .int .i64 a0.Place, .int .i64 a0.Parts, .int .i64 a0.Kept, .slice A0_4 a0.Body.length c0_4]].toArray w fun e w' => ∃ v, e = .returned v ∧ v = .agg (arrOf r0.l).toArray ∧ Hp w0 ps fs w' := by
  refine enter [.agg #[.int .i64 a0.Gen, .int .i64 a0.Place, .int .i64 a0.Parts, .int .i64 a0.Kept, .slice A0_4 a0.Body.length c0_4]] 38 Try.func18 fun Q a NP RET NRM F => ?_
  replace NP : ∀ c a w, ¬ Q (.panic c) a w := fun c a w h => by rcases NP c a w h with h | ⟨w, v, h, _⟩ <;> cases h
  unfold sector_bytes_f at h
  refine rg ?_
  refine ls (lbox F H rfl (cs := [.int .i64 a0.Gen, .int .i64 a0.Place, .int .i64 a0.Parts, .int .i64 a0.Kept, .slice A0_4 a0.Body.length c0_4]) rfl fun g1 w a H F => ?_)
  refine ls (lal F H ti36 (cs := (arrOf (Arr.zero 64).l)) rfl fun g2 w a H F => ?_)
  refine rgend ?_
  refine rg ?_
  refine ls (lal F H ti36 (cs := (arrOf (Arr.zero 64).l)) rfl fun g3 w a H F => ?_)
  refine rgend ?_
  refine rg ?_
  refine as_ F (v := .int .i64 0) rfl fun a F => ?_
  refine rgend ?_
  refine wp_seq ?_
  refine rg ?_
  refine ls (qv F (r_ldA (F.ev (x := .tmp 1) rfl) (cel_range (o := 0) (n := 5) (vs := [.int .i64 a0.Gen, .int .i64 a0.Place, .int .i64 a0.Parts, .int .i64 a0.Kept, .slice A0_4 a0.Body.length c0_4]) (H.cell 2 rfl) rfl) agg24 rfl) fun a F => ?_)
  obtain ⟨x4, e5, h⟩ := Option.bind_eq_some_iff.1 h
  try dsimp only at h
  refine ls (call F Try.func21 (sector_fields_ok (a0 := a0) (H.p0) e5) rfl rfl fun v w hR a F => ?_)
  obtain ⟨A6, c7, rfl, H⟩ := hR
  refine ls (qv F (r_len (F.ev (x := .tmp 9) rfl) Try.underlying40) fun a F => ?_)
  refine mv F (v := .int .i64 0) rfl fun a F => ?_
  refine rgend ?_
  obtain ⟨o_11, k_11, h⟩ := Option.bind_eq_some_iff.1 h
  refine cut (fun a w => ∃ (x11 : Arr 64), x11 = o_11 ∧ Fr 38 [] [(1, .pointer (some ⟨g1, 0, none⟩)), (2, .pointer (some ⟨g2, 0, none⟩)), (3, .pointer (some ⟨g3, 0, none⟩))] a ∧ Hp w0 (rd kByte A0_4 c0_4 a0.Body :: ps) (cel g2 (arrOf (Arr.zero 64).l) 36 :: cel g3 (arrOf x11.l) 36 :: cel g1 [.int .i64 a0.Gen, .int .i64 a0.Place, .int .i64 a0.Parts, .int .i64 a0.Kept, .slice A0_4 a0.Body.length c0_4] 24 :: fs) w) (wp_block ?_) ?_
  · refine wloop (sector_bytes_b0 x4) (fun (s : Int × Int × (Arr 64)) a w => Fr 38 [] [(1, .pointer (some ⟨g1, 0, none⟩)), (2, .pointer (some ⟨g2, 0, none⟩)), (3, .pointer (some ⟨g3, 0, none⟩)), (4, .int .i64 s.1), (9, .slice A6 x4.length c7), (10, .int .i64 (x4.length : Int)), (11, .int .i64 s.2.1)] a ∧ Hp w0 (rd k_sector_field A6 c7 x4 :: rd kByte A0_4 c0_4 a0.Body :: ps) (cel g2 (arrOf (Arr.zero 64).l) 36 :: cel g3 (arrOf s.2.2.l) 36 :: cel g1 [.int .i64 a0.Gen, .int .i64 a0.Place, .int .i64 a0.Parts, .int .i64 a0.Kept, .slice A0_4 a0.Body.length c0_4] 24 :: fs) w) k_11 ⟨F.only [1, 2, 3, 4, 9, 10, 11] rfl, H.f2.f1.f2⟩ ?_
    rintro ⟨x8, x9, x10⟩ a w q_11 j_11 u_11 ⟨F, H⟩
    unfold sector_bytes_b0 at j_11
    try dsimp only at j_11 F H
    refine rg ?_
    refine ls (qv F (r_lt (F.ev (x := .tmp 11) rfl) (F.ev (x := .tmp 10) rfl)) fun a F => ?_)
    refine rgend ?_
    refine wp_seq ?_
    by_cases c13 : x9 < (x4.length : Int)
    · rw [if_pos c13] at j_11
      rw [decide_eq_true c13] at F
      refine wp_cond_true (F.ev rfl) ?_
      refine wp_skip ?_
      refine wp_seq ?_
      refine wp_block ?_
      refine rg ?_
      obtain ⟨c14, j_11⟩ := guardO j_11
      obtain ⟨g15, o16, s17, hr, H⟩ := H.ix (⟨0, 0, 0, 0⟩ : sector_field) 0 rfl (F.ev (x := .tmp 9) rfl) (F.ev (x := .tmp 11) rfl) Try.underlying40 sz45 (by decide) c14.1 c14.2
      obtain ⟨rfl, H⟩ := H.open_sector_field 1 rfl
      refine ls (qv F (hr _ _ _ _ _ _) fun a F => ?_)
      refine ls (qv F (r_ldA (F.ev (x := .tmp 13) rfl) (H.range 0 rfl) agg45 rfl) fun a F => ?_)
      refine ls (lal F H ti45 (cs := [.int .i64 0, .int .i64 0, .int .i64 0, .int .i64 0]) rfl fun g18 w a H F => ?_)
      obtain ⟨_, hr, H⟩ := Hp.store (t := 45) (o := 0) (n := 4) (vs := [.int .i64 ((x4.getD (x9 : Int).toNat (⟨0, 0, 0, 0⟩ : sector_field)).n), .int .i64 ((x4.getD (x9 : Int).toNat (⟨0, 0, 0, 0⟩ : sector_field)).many), .int .i64 ((x4.getD (x9 : Int).toNat (⟨0, 0, 0, 0⟩ : sector_field)).least), .int .i64 ((x4.getD (x9 : Int).toNat (⟨0, 0, 0, 0⟩ : sector_field)).most)]) (cs' := [.int .i64 ((x4.getD (x9 : Int).toNat (⟨0, 0, 0, 0⟩ : sector_field)).n), .int .i64 ((x4.getD (x9 : Int).toNat (⟨0, 0, 0, 0⟩ : sector_field)).many), .int .i64 ((x4.getD (x9 : Int).toNat (⟨0, 0, 0, 0⟩ : sector_field)).least), .int .i64 ((x4.getD (x9 : Int).toNat (⟨0, 0, 0, 0⟩ : sector_field)).most)]) (H) (F.ev (x := .tmp 6) rfl) (F.ev (x := .tmp 14) rfl) rfl sz45 rfl (Nat.le_of_ble_eq_true rfl) rfl rfl
      refine ls (qn F (.inl rfl) (hr _ _ _ _) fun a F => ?_)
      refine rgend ?_
      refine rg ?_
      refine ls (qv F (r_fa (off := 1) (F.ev (x := .tmp 6) rfl) fa45_1) fun a F => ?_)
      refine ls (qv F (r_ld (F.ev (x := .tmp 15) rfl) (cel_cell (o := 1) (H.cell 0 rfl) rfl) one3) fun a F => ?_)
      refine ls (qv F (r_sub (F.ev (x := .tmp 16) rfl) (F.ev (x := .const (.int .i64 1)) rfl)) fun a F => ?_)
      refine as_ F rfl fun a F => ?_
      refine rgend ?_
      replace F := F.only [7, 6, 1, 2, 3, 4, 9, 10, 11] (l' := [(7, .int .i64 (IntKind.i64.wrap (((x4.getD (x9 : Int).toNat (⟨0, 0, 0, 0⟩ : sector_field)).many) - 1))), (6, .pointer (some ⟨g18, 0, none⟩)), (1, .pointer (some ⟨g1, 0, none⟩)), (2, .pointer (some ⟨g2, 0, none⟩)), (3, .pointer (some ⟨g3, 0, none⟩)), (4, .int .i64 x8), (9, .slice A6 x4.length c7), (10, .int .i64 (x4.length : Int)), (11, .int .i64 x9)]) rfl
      obtain ⟨o_23, k_23, j_11⟩ := Option.bind_eq_some_iff.1 j_11
      refine cut (fun a w => ∃ (x22 : Int) (x23 : Arr 64), (x22, x23) = o_23 ∧ Fr 38 [] [(1, .pointer (some ⟨g1, 0, none⟩)), (2, .pointer (some ⟨g2, 0, none⟩)), (3, .pointer (some ⟨g3, 0, none⟩)), (4, .int .i64 x22), (9, .slice A6 x4.length c7), (10, .int .i64 (x4.length : Int)), (11, .int .i64 x9)] a ∧ Hp w0 (rd k_sector_field A6 c7 x4 :: rd kByte A0_4 c0_4 a0.Body :: ps) (cel g2 (arrOf (Arr.zero 64).l) 36 :: cel g3 (arrOf x23.l) 36 :: cel g1 [.int .i64 a0.Gen, .int .i64 a0.Place, .int .i64 a0.Parts, .int .i64 a0.Kept, .slice A0_4 a0.Body.length c0_4] 24 :: fs) w) (wp_block ?_) ?_
      · refine wloop (sector_bytes_b1 x4 x9) (fun (s : Int × Int × (Arr 64)) a w => Fr 38 [] [(1, .pointer (some ⟨g1, 0, none⟩)), (2, .pointer (some ⟨g2, 0, none⟩)), (3, .pointer (some ⟨g3, 0, none⟩)), (4, .int .i64 s.1), (6, .pointer (some ⟨g18, 0, none⟩)), (7, .int .i64 s.2.1), (9, .slice A6 x4.length c7), (10, .int .i64 (x4.length : Int)), (11, .int .i64 x9)] a ∧ Hp w0 (rd k_sector_field A6 c7 x4 :: rd kByte A0_4 c0_4 a0.Body :: ps) (cel g18 [.int .i64 ((x4.getD (x9 : Int).toNat (⟨0, 0, 0, 0⟩ : sector_field)).n), .int .i64 ((x4.getD (x9 : Int).toNat (⟨0, 0, 0, 0⟩ : sector_field)).many), .int .i64 ((x4.getD (x9 : Int).toNat (⟨0, 0, 0, 0⟩ : sector_field)).least), .int .i64 ((x4.getD (x9 : Int).toNat (⟨0, 0, 0, 0⟩ : sector_field)).most)] 45 :: cel g2 (arrOf (Arr.zero 64).l) 36 :: cel g3 (arrOf s.2.2.l) 36 :: cel g1 [.int .i64 a0.Gen, .int .i64 a0.Place, .int .i64 a0.Parts, .int .i64 a0.Kept, .slice A0_4 a0.Body.length c0_4] 24 :: fs) w) k_23 ⟨F.only [1, 2, 3, 4, 6, 7, 9, 10, 11] rfl, H.px1.px0⟩ ?_
        rintro ⟨x19, x20, x21⟩ a w q_23 j_23 u_23 ⟨F, H⟩
        unfold sector_bytes_b1 at j_23
        try dsimp only at j_23 F H
        refine wp_seq ?_
        refine rg ?_
        refine mv F rfl fun a F => ?_
        refine ls (qv F (r_ge (F.ev (x := .tmp 18) rfl) (F.ev (x := .const (.int .i64 0)) rfl)) fun a F => ?_)
        refine rgend ?_
        by_cases c25 : x20 ≥ 0
        · rw [if_pos c25] at j_23
          rw [decide_eq_true c25] at F
          refine wp_cond_true (F.ev rfl) ?_
          refine wp_skip ?_
          refine wp_seq ?_
          refine wp_block ?_
          refine rg ?_
          refine mv F rfl fun a F => ?_
          refine ls (qv F (r_fa (off := 0) (F.ev (x := .tmp 6) rfl) fa45_0) fun a F => ?_)
          refine ls (qv F (r_ld (F.ev (x := .tmp 23) rfl) (cel_cell (o := 0) (H.cell 0 rfl) rfl) one2) fun a F => ?_)
          refine mv F rfl fun a F => ?_
          refine ls (qv F (r_mul (F.ev (x := .const (.int .i64 8)) rfl) (F.ev (x := .tmp 25) rfl)) fun a F => ?_)
          obtain ⟨c26, j_23⟩ := guardO j_23
          refine ls (qv F (r_shr (F.ev (x := .tmp 24) rfl) (F.ev (x := .tmp 26) rfl) c26) fun a F => ?_)
          refine ls (qv F (r_ci (F.ev (x := .tmp 27) rfl) Try.underlying5 Try.underlying2) fun a F => ?_)
          obtain ⟨c27, j_23⟩ := guardO j_23
          refine ls (qv F (r_ixArr (F.ev (x := .tmp 3) rfl) (F.ev (x := .tmp 22) rfl) Try.underlying36 sz5 c27.1 c27.2) fun a F => ?_)
          obtain ⟨_, hr, H⟩ := Hp.putA (xs := x21) (j := x19) (H.f3.f2.f2.f3) (F.ev (x := .tmp 29) rfl) (F.ev (x := .tmp 28) rfl) sz5 (wrap_u8 _) c27.1 c27.2
          refine ls (qn F (.inl rfl) (hr _ _ _ _) fun a F => ?_)
          refine rgend ?_
          replace F := F.only [1, 2, 3, 4, 6, 7, 9, 10, 11] (l' := [(1, .pointer (some ⟨g1, 0, none⟩)), (2, .pointer (some ⟨g2, 0, none⟩)), (3, .pointer (some ⟨g3, 0, none⟩)), (4, .int .i64 x19), (6, .pointer (some ⟨g18, 0, none⟩)), (7, .int .i64 x20), (9, .slice A6 x4.length c7), (10, .int .i64 (x4.length : Int)), (11, .int .i64 x9)]) rfl
          refine wp_region_lit ?_
          refine mv F rfl fun a F => ?_
          refine ls (qv F (r_add (F.ev (x := .tmp 30) rfl) (F.ev (x := .const (.int .i64 1)) rfl)) fun a F => ?_)
          refine as_ F rfl fun a F => ?_
          refine wpList_nil ?_
          refine wp_region_lit ?_
          refine mv F rfl fun a F => ?_
          refine ls (qv F (r_sub (F.ev (x := .tmp 20) rfl) (F.ev (x := .const (.int .i64 1)) rfl)) fun a F => ?_)
          refine as_ F rfl fun a F => ?_
          refine wpList_nil ?_
          replace F := F.only [7, 4, 1, 2, 3, 6, 9, 10, 11] (l' := [(7, .int .i64 (IntKind.i64.wrap (x20 - 1))), (4, .int .i64 (IntKind.i64.wrap (x19 + 1))), (1, .pointer (some ⟨g1, 0, none⟩)), (2, .pointer (some ⟨g2, 0, none⟩)), (3, .pointer (some ⟨g3, 0, none⟩)), (6, .pointer (some ⟨g18, 0, none⟩)), (9, .slice A6 x4.length c7), (10, .int .i64 (x4.length : Int)), (11, .int .i64 x9)]) rfl
          try dsimp only at j_23
          obtain rfl := Option.some.inj j_23
          exact ⟨_, rfl, F.only [1, 2, 3, 4, 6, 7, 9, 10, 11] rfl, H.f3.f1.f3.f3⟩
        · rw [if_neg c25] at j_23
          rw [decide_eq_false c25] at F
          refine wp_cond_false (F.ev rfl) ?_
          refine wp_exit ?_
          try dsimp only at j_23
          obtain rfl := Option.some.inj j_23
          obtain rfl := u_23 _ rfl
          repeat (with_reducible refine exT ?_)
          with_reducible refine exB ?_
          exact ⟨_, _, rfl, F.only [1, 2, 3, 4, 9, 10, 11] rfl, H.fx0⟩
      · rintro a w ⟨x22, x23, rfl, F, H⟩
        try dsimp only at j_11 F H
        refine wp_region_lit ?_
        refine ls (qv F (r_add (F.ev (x := .tmp 11) rfl) (F.ev (x := .const (.int .i64 1)) rfl)) fun a F => ?_)
        refine mv F rfl fun a F => ?_
        refine wpList_nil ?_
        try dsimp only at j_11
        obtain rfl := Option.some.inj j_11
        exact ⟨_, rfl, F.only [1, 2, 3, 4, 9, 10, 11] rfl, H⟩
    · rw [if_neg c13] at j_11
      rw [decide_eq_false c13] at F
      refine wp_cond_false (F.ev rfl) ?_
      refine wp_exit ?_
      try dsimp only at j_11
      obtain rfl := Option.some.inj j_11
      obtain rfl := u_11 _ rfl
      repeat (with_reducible refine exT ?_)
      with_reducible refine exB ?_
      exact ⟨_, rfl, F.only [1, 2, 3] rfl, H.px0⟩
  · rintro a w ⟨x11, rfl, F, H⟩
    try dsimp only at h F H
    refine wp_seq ?_
    replace H := H.drew
    have HS := H
    refine dr (fun w => Hp w0 (rd kByte A0_4 c0_4 a0.Body :: ps) (cel g2 (arrOf (Arr.zero 64).l) 36 :: cel g3 (arrOf x11.l) 36 :: cel g1 [.int .i64 a0.Gen, .int .i64 a0.Place, .int .i64 a0.Parts, .int .i64 a0.Kept, .slice A0_4 a0.Body.length c0_4] 24 :: fs) w) _ (by kernel_rfl) ?_ (n := 4)
    refine dq 0 F rfl (by kernel_rfl) NP HS (fun w S => (r_slB (o := 0) (l := 14) (h := 64) (o' := 14) (n' := 50) (c' := 50) (F.ev (x := .tmp 3) rfl) Try.underlying36 sz5 (.inr ⟨_, _, rfl, (F.ev (x := .const (.int .i64 14)) rfl)⟩) (.inl ⟨rfl, rfl⟩) (by decide) (by decide) (by decide) rfl rfl rfl)) fun a F => ?_
    refine dq 1 F rfl (by kernel_rfl) NP HS (fun w S => (r_fa (off := 4) (F.ev (x := .tmp 1) rfl) fa24_4)) fun a F => ?_
    refine dq 2 F rfl (by kernel_rfl) NP HS (fun w S => (r_ld (F.ev (x := .tmp 34) rfl) (cel_cell (o := 4) (S.cell 2 rfl) rfl) one22)) fun a F => ?_
    obtain ⟨_, hr, H⟩ := Hp.cpyA (xs := x11) (lo := 14) (H.f2.f1.f2) 0 rfl (F.ev (x := .tmp 33) rfl) (F.ev (x := .tmp 35) rfl) Try.underlying22 sz5 rfl (by decide)
    refine d1 3 rfl (by kernel_rfl) (qv F (hr _ _ _ _ _) fun a F => ?_)
    have HS := H
    refine kga (by kernel_rfl) HS ?_
    refine ddone (by kernel_rfl) ?_
    replace F := F.only [2, 3] (l' := [(2, .pointer (some ⟨g2, 0, none⟩)), (3, .pointer (some ⟨g3, 0, none⟩))]) rfl
    refine rg ?_
    refine ls (qv F (r_ldA (F.ev (x := .tmp 3) rfl) (cel_range (o := 0) (n := 64) (vs := (arrOf (x11.cpy 14 a0.Body).l)) (H.cell 0 rfl) (arr_take (x11.cpy 14 a0.Body))) agg36 (arr_len (x11.cpy 14 a0.Body))) fun a F => ?_)
    obtain ⟨_, hr, H⟩ := Hp.store (t := 36) (o := 0) (n := 64) (vs := (arrOf (x11.cpy 14 a0.Body).l)) (cs' := (arrOf (x11.cpy 14 a0.Body).l)) (H.f2.f1.f2) (F.ev (x := .tmp 2) rfl) (F.ev (x := .tmp 37) rfl) rfl sz36 (arr_len (x11.cpy 14 a0.Body)) (Nat.le_of_eq ((Nat.zero_add _).trans (arr_len (Arr.zero 64)).symm)) (arr_all _) (putAt_all ((arr_len (x11.cpy 14 a0.Body)).trans (arr_len (Arr.zero 64)).symm))
    refine ls (qn F (.inl rfl) (hr _ _ _ _) fun a F => ?_)
    refine rgend ?_
    refine wp_ret ?_
    try dsimp only at h
    obtain rfl := Option.some.inj h
    exact RET _ _ (retC1 F rfl rfl (ldvA (cel_range (o := 0) (n := 64) (vs := (arrOf (x11.cpy 14 a0.Body).l)) (H.cell 0 rfl) (arr_take (x11.cpy 14 a0.Body))) agg36 (arr_len (x11.cpy 14 a0.Body))) ⟨_, rfl, rfl, H.px0.fx2.fx1.fx0⟩)
end Go.Proofs.Ytpijdclonniibaa
