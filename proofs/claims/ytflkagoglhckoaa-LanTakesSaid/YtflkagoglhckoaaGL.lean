/- What the functions compute. Printed by wip/gen. -/
import Derived.Test.YtflkagoglhckoaaCelF
import Derived.Test.YtflkagoglhckoaaDel
set_option linter.unusedVariables false
set_option linter.unusedSimpArgs false
namespace Go.Proofs.Ytflkagoglhckoaa
open Go Go.RowKit
theorem ti5 : TI Try.prog 5 (.int .u8 0) 1 1 := by unfold TI; kernel_rfl
theorem ti35 : TI Try.prog 35 (.slice none 0 0) 1 24 := by unfold TI; kernel_rfl
theorem ti37 : TI Try.prog 37 (.agg #[.int .i64 0, .int .i64 0, .int .i64 0, .slice none 0 0]) 4 48 := by unfold TI; kernel_rfl
theorem one3 : oneB Try.prog 3 = true := by kernel_rfl
theorem one26 : oneB Try.prog 26 = true := by kernel_rfl
theorem one35 : oneB Try.prog 35 = true := by kernel_rfl
theorem sz5 : szB Try.prog 5 1 = true := by kernel_rfl
theorem sz26 : szB Try.prog 26 1 = true := by kernel_rfl
theorem sz28 : szB Try.prog 28 1 = true := by kernel_rfl
theorem sz35 : szB Try.prog 35 1 = true := by kernel_rfl
theorem sz37 : szB Try.prog 37 4 = true := by kernel_rfl
theorem agg37 : aggB Try.prog 37 4 = true := by kernel_rfl
theorem fa28_0 : fldB Try.prog 28 0 0 = true := by kernel_rfl
theorem fa31_0 : fldB Try.prog 31 0 0 = true := by kernel_rfl
theorem fa34_0 : fldB Try.prog 34 0 0 = true := by kernel_rfl
theorem fa34_1 : fldB Try.prog 34 1 1 = true := by kernel_rfl
theorem fa37_0 : fldB Try.prog 37 0 0 = true := by kernel_rfl
theorem fa37_1 : fldB Try.prog 37 1 1 = true := by kernel_rfl
theorem fa37_2 : fldB Try.prog 37 2 2 = true := by kernel_rfl
theorem fa37_3 : fldB Try.prog 37 3 3 = true := by kernel_rfl
structure law22_Op where
  What : Int
  To : Int
  I : Int
  B : List Int
deriving DecidableEq, Inhabited
def k_law22_Op : Kd law22_Op where
  sz := 4
  ok Z w cs x := ∃ (A3 : Option Addr) (c3 : Nat), cs = [.int .i64 x.What, .int .i64 x.To, .int .i64 x.I, .slice A3 x.B.length c3] ∧ Rows kByte Z w A3 c3 x.B
  len h := by obtain ⟨_, _, rfl, _⟩ := h; rfl
  one h := by obtain ⟨_, _, rfl, _⟩ := h; intro c hc; simp only [List.mem_cons, List.not_mem_nil, or_false] at hc; rcases hc with rfl | rfl | rfl | rfl <;> rfl
  stb h hz hs := by obtain ⟨_, _, rfl, h3⟩ := h; exact ⟨_, _, rfl, h3.stb hz hs⟩
theorem Hp.open_law22_Op {w0 w : World} {ps : List PF} {fs : List SF} {cs : List Value} {x : law22_Op} (H : Hp w0 ps fs w) (i : Nat) (hi : ps[i]? = some (says k_law22_Op cs x)) : ∃ (A3 : Option Addr) (c3 : Nat), cs = [.int .i64 x.What, .int .i64 x.To, .int .i64 x.I, .slice A3 x.B.length c3] ∧ Hp w0 (rd kByte A3 c3 x.B :: ps) fs w := by
  obtain ⟨Z, H⟩ := H
  obtain ⟨A3, c3, h, h3⟩ := H.pers _ (List.mem_of_getElem? hi)
  refine ⟨A3, c3, h, Z, H.os, H.tape, H.output, H.old, H.size, H.zlt, fun p hp => ?_, H.sep⟩
  simp only [List.mem_cons] at hp
  rcases hp with rfl | hp
  · exact h3
  · exact H.pers p hp
structure ref22_Lan where
  A : List (List Int)
  B : List (List Int)
deriving DecidableEq, Inhabited
def k_ref22_Lan : Kd ref22_Lan where
  sz := 2
  ok Z w cs x := ∃ (A0 : Option Addr) (c0 : Nat) (A1 : Option Addr) (c1 : Nat), cs = [.slice A0 x.A.length c0, .slice A1 x.B.length c1] ∧ Rows (kSlice kByte) Z w A0 c0 x.A ∧ Rows (kSlice kByte) Z w A1 c1 x.B
  len h := by obtain ⟨_, _, _, _, rfl, _, _⟩ := h; rfl
  one h := by obtain ⟨_, _, _, _, rfl, _, _⟩ := h; intro c hc; simp only [List.mem_cons, List.not_mem_nil, or_false] at hc; rcases hc with rfl | rfl <;> rfl
  stb h hz hs := by obtain ⟨_, _, _, _, rfl, h0, h1⟩ := h; exact ⟨_, _, _, _, rfl, h0.stb hz hs, h1.stb hz hs⟩
theorem Hp.open_ref22_Lan {w0 w : World} {ps : List PF} {fs : List SF} {cs : List Value} {x : ref22_Lan} (H : Hp w0 ps fs w) (i : Nat) (hi : ps[i]? = some (says k_ref22_Lan cs x)) : ∃ (A0 : Option Addr) (c0 : Nat) (A1 : Option Addr) (c1 : Nat), cs = [.slice A0 x.A.length c0, .slice A1 x.B.length c1] ∧ Hp w0 (rd (kSlice kByte) A0 c0 x.A :: rd (kSlice kByte) A1 c1 x.B :: ps) fs w := by
  obtain ⟨Z, H⟩ := H
  obtain ⟨A0, c0, A1, c1, h, h0, h1⟩ := H.pers _ (List.mem_of_getElem? hi)
  refine ⟨A0, c0, A1, c1, h, Z, H.os, H.tape, H.output, H.old, H.size, H.zlt, fun p hp => ?_, H.sep⟩
  simp only [List.mem_cons] at hp
  rcases hp with rfl | rfl | hp
  · exact h0
  · exact h1
  · exact H.pers p hp
structure lan_row where
  l : List (List Int)
deriving DecidableEq, Inhabited
def k_lan_row : Kd lan_row where
  sz := 1
  ok Z w cs x := ∃ (A0 : Option Addr) (c0 : Nat), cs = [.slice A0 x.l.length c0] ∧ Rows (kSlice kByte) Z w A0 c0 x.l
  len h := by obtain ⟨_, _, rfl, _⟩ := h; rfl
  one h := by obtain ⟨_, _, rfl, _⟩ := h; intro c hc; simp only [List.mem_cons, List.not_mem_nil, or_false] at hc; rcases hc with rfl <;> rfl
  stb h hz hs := by obtain ⟨_, _, rfl, h0⟩ := h; exact ⟨_, _, rfl, h0.stb hz hs⟩
theorem Hp.open_lan_row {w0 w : World} {ps : List PF} {fs : List SF} {cs : List Value} {x : lan_row} (H : Hp w0 ps fs w) (i : Nat) (hi : ps[i]? = some (says k_lan_row cs x)) : ∃ (A0 : Option Addr) (c0 : Nat), cs = [.slice A0 x.l.length c0] ∧ Hp w0 (rd (kSlice kByte) A0 c0 x.l :: ps) fs w := by
  obtain ⟨Z, H⟩ := H
  obtain ⟨A0, c0, h, h0⟩ := H.pers _ (List.mem_of_getElem? hi)
  refine ⟨A0, c0, h, Z, H.os, H.tape, H.output, H.old, H.size, H.zlt, fun p hp => ?_, H.sep⟩
  simp only [List.mem_cons] at hp
  rcases hp with rfl | hp
  · exact h0
  · exact H.pers p hp
structure lan_Lan where
  ways : lan_row × lan_row
deriving DecidableEq, Inhabited
def k_lan_Lan : Kd lan_Lan where
  sz := 2
  ok Z w cs x := ∃ (A0 : Option Addr) (c0 : Nat) (A1 : Option Addr) (c1 : Nat), cs = [.slice A0 x.ways.1.l.length c0, .slice A1 x.ways.2.l.length c1] ∧ Rows (kSlice kByte) Z w A0 c0 x.ways.1.l ∧ Rows (kSlice kByte) Z w A1 c1 x.ways.2.l
  len h := by obtain ⟨_, _, _, _, rfl, _, _⟩ := h; rfl
  one h := by obtain ⟨_, _, _, _, rfl, _, _⟩ := h; intro c hc; simp only [List.mem_cons, List.not_mem_nil, or_false] at hc; rcases hc with rfl | rfl <;> rfl
  stb h hz hs := by obtain ⟨_, _, _, _, rfl, h0, h1⟩ := h; exact ⟨_, _, _, _, rfl, h0.stb hz hs, h1.stb hz hs⟩
theorem Hp.open_lan_Lan {w0 w : World} {ps : List PF} {fs : List SF} {cs : List Value} {x : lan_Lan} (H : Hp w0 ps fs w) (i : Nat) (hi : ps[i]? = some (says k_lan_Lan cs x)) : ∃ (A0 : Option Addr) (c0 : Nat) (A1 : Option Addr) (c1 : Nat), cs = [.slice A0 x.ways.1.l.length c0, .slice A1 x.ways.2.l.length c1] ∧ Hp w0 (rd (kSlice kByte) A0 c0 x.ways.1.l :: rd (kSlice kByte) A1 c1 x.ways.2.l :: ps) fs w := by
  obtain ⟨Z, H⟩ := H
  obtain ⟨A0, c0, A1, c1, h, h0, h1⟩ := H.pers _ (List.mem_of_getElem? hi)
  refine ⟨A0, c0, A1, c1, h, Z, H.os, H.tape, H.output, H.old, H.size, H.zlt, fun p hp => ?_, H.sep⟩
  simp only [List.mem_cons] at hp
  rcases hp with rfl | rfl | hp
  · exact h0
  · exact h1
  · exact H.pers p hp
def obj_ref22_Lan (g : Nat) (x : ref22_Lan) : SF := exF fun (y : (Option Addr × Nat) × (Option Addr × Nat)) => star [cel g [.slice y.1.1 x.A.length y.1.2, .slice y.2.1 x.B.length y.2.2] 34, own (kSlice kByte) 35 y.1.1 y.1.2 x.A, own (kSlice kByte) 35 y.2.1 y.2.2 x.B]
theorem Hp.openO_ref22_Lan {w0 w : World} {ps : List PF} {fs : List SF} {g : Nat}  {x : ref22_Lan} (H : Hp w0 ps (obj_ref22_Lan g x :: fs) w) : ∃ (A0 : Option Addr) (c0 : Nat) (A1 : Option Addr) (c1 : Nat), Hp w0 (ps) (cel g [.slice A0 x.A.length c0, .slice A1 x.B.length c1] 34 :: own (kSlice kByte) 35 A0 c0 x.A :: own (kSlice kByte) 35 A1 c1 x.B :: fs) w := by
  obtain ⟨y, H⟩ := Hp.openEx H
  replace H := Hp.openStar H
  exact ⟨y.1.1, y.1.2, y.2.1, y.2.2, H⟩
theorem Hp.closeO_ref22_Lan {w0 w : World} {ps : List PF} {fs : List SF} {g : Nat}  {x : ref22_Lan} {A0 : Option Addr} {c0 : Nat} {A1 : Option Addr} {c1 : Nat} (H : Hp w0 ps (cel g [.slice A0 x.A.length c0, .slice A1 x.B.length c1] 34 :: own (kSlice kByte) 35 A0 c0 x.A :: own (kSlice kByte) 35 A1 c1 x.B :: fs) w) : Hp w0 ps (obj_ref22_Lan g x :: fs) w := by
  refine Hp.closeEx ((A0, c0), (A1, c1)) (Hp.closeStar ?_)
  exact H.arr 0 [] 3 [0, 0, 0] rfl rfl
def obj_lan_Lan (g : Nat) (x : lan_Lan) : SF := exF fun (y : (Option Addr × Nat) × (Option Addr × Nat)) => star [cel g [.slice y.1.1 x.ways.1.l.length y.1.2, .slice y.2.1 x.ways.2.l.length y.2.2] 31, own (kSlice kByte) 35 y.1.1 y.1.2 x.ways.1.l, own (kSlice kByte) 35 y.2.1 y.2.2 x.ways.2.l]
theorem Hp.openO_lan_Lan {w0 w : World} {ps : List PF} {fs : List SF} {g : Nat}  {x : lan_Lan} (H : Hp w0 ps (obj_lan_Lan g x :: fs) w) : ∃ (A0 : Option Addr) (c0 : Nat) (A1 : Option Addr) (c1 : Nat), Hp w0 (ps) (cel g [.slice A0 x.ways.1.l.length c0, .slice A1 x.ways.2.l.length c1] 31 :: own (kSlice kByte) 35 A0 c0 x.ways.1.l :: own (kSlice kByte) 35 A1 c1 x.ways.2.l :: fs) w := by
  obtain ⟨y, H⟩ := Hp.openEx H
  replace H := Hp.openStar H
  exact ⟨y.1.1, y.1.2, y.2.1, y.2.2, H⟩
theorem Hp.closeO_lan_Lan {w0 w : World} {ps : List PF} {fs : List SF} {g : Nat}  {x : lan_Lan} {A0 : Option Addr} {c0 : Nat} {A1 : Option Addr} {c1 : Nat} (H : Hp w0 ps (cel g [.slice A0 x.ways.1.l.length c0, .slice A1 x.ways.2.l.length c1] 31 :: own (kSlice kByte) 35 A0 c0 x.ways.1.l :: own (kSlice kByte) 35 A1 c1 x.ways.2.l :: fs) w) : Hp w0 ps (obj_lan_Lan g x :: fs) w := by
  refine Hp.closeEx ((A0, c0), (A1, c1)) (Hp.closeStar ?_)
  exact H.arr 0 [] 3 [0, 0, 0] rfl rfl
def ref22_without_b0 (a0 : List (List Int)) (a1 : Int) : ((List (List Int)) × Int) → Option ((List (List Int)) × Int ⊕ List (List Int))
  | (x1, x4) => (if x4 < (a0.length : Int) then ((if x4 ≠ a1 then (if 0 ≤ x4 ∧ x4 < (a0.length : Int) then (if (x1.length + 1) * 24 ≤ 140737488355328 then some ((x1 ++ ([(a0.getD (x4 : Int).toNat [])])), true) else none) else none) else some (x1, false)).bind fun (x10, x13) => some (.inl (x10, IntKind.i64.wrap (x4 + 1)))) else some (.inr x1))
def ref22_without_f (a0 : List (List Int)) (a1 : Int) : Option (List (List Int)) :=
  ((lp (ref22_without_b0 a0 a1) ([], 0)).bind fun x5 => some x5)
set_option maxHeartbeats 4000000 in
set_option maxRecDepth 20000 in
theorem ref22_without_ok {w0 w : World} {ps : List PF} {fs : List SF} {a0 : List (List Int)} {A0_ : Option Addr} {c0_ : Nat} {a1 : Int} {r0 : List (List Int)} (H : Hp w0 (rd (kSlice kByte) A0_ c0_ a0 :: ps) fs w) (h : ref22_without_f a0 a1 = some r0) :
    Calls Try.prog 20 [.slice A0_ a0.length c0_, .int .i64 a1].toArray w fun e w' => ∃ v, e = .returned v ∧ ∃ (A0 : Option Addr) (c0 : Nat), v = .slice A0 r0.length c0 ∧ Hp w0 ps (own (kSlice kByte) 35 A0 c0 r0 :: fs) w' := by
  refine enter [.slice A0_ a0.length c0_, .int .i64 a1] 24 Try.func20 fun Q a NP RET NRM F => ?_
  replace NP : ∀ c a w, ¬ Q (.panic c) a w := fun c a w h => by rcases NP c a w h with h | ⟨w, v, h, _⟩ <;> cases h
  unfold ref22_without_f at h
  refine rg ?_
  refine as_ F (v := .slice none 0 0) rfl fun a F => ?_
  refine rgend ?_
  refine rg ?_
  refine as_ F (v := .slice none 0 0) rfl fun a F => ?_
  refine rgend ?_
  refine wp_seq ?_
  refine rg ?_
  refine as_ F (v := .int .i64 0) rfl fun a F => ?_
  refine rgend ?_
  replace H := H.nilOwn (kSlice kByte) 35
  obtain ⟨o_7, k_7, h⟩ := Option.bind_eq_some_iff.1 h
  refine cut (fun a w => ∃ (x5 : List (List Int)), x5 = o_7 ∧ ∃ (A6 : Option Addr) (c7 : Nat), Fr 24 [] [(4, .slice none 0 0), (5, .slice A6 x5.length c7)] a ∧ Hp w0 ps (own (kSlice kByte) 35 A6 c7 x5 :: fs) w) (wp_block ?_) ?_
  · refine wloop (ref22_without_b0 a0 a1) (fun (s : (List (List Int)) × Int) a w => ∃ (A2 : Option Addr) (c3 : Nat), Fr 24 [] [(0, .slice A0_ a0.length c0_), (1, .int .i64 a1), (4, .slice none 0 0), (5, .slice A2 s.1.length c3), (6, .int .i64 s.2)] a ∧ Hp w0 (rd (kSlice kByte) A0_ c0_ a0 :: ps) (own (kSlice kByte) 35 A2 c3 s.1 :: fs) w) k_7 ⟨none, 0, F.only [0, 1, 4, 5, 6] rfl, H⟩ ?_
    rintro ⟨x1, x4⟩ a w q_7 j_7 u_7 ⟨A2, c3, F, H⟩
    unfold ref22_without_b0 at j_7
    try dsimp only at j_7 F H
    refine wp_seq ?_
    refine rg ?_
    refine mv F rfl fun a F => ?_
    refine mv F rfl fun a F => ?_
    refine ls (qv F (r_len (F.ev (x := .tmp 8) rfl) Try.underlying26) fun a F => ?_)
    refine ls (qv F (r_lt (F.ev (x := .tmp 7) rfl) (F.ev (x := .tmp 9) rfl)) fun a F => ?_)
    refine rgend ?_
    by_cases c9 : x4 < (a0.length : Int)
    · rw [if_pos c9] at j_7
      rw [decide_eq_true c9] at F
      refine wp_cond_true (F.ev rfl) ?_
      refine wp_skip ?_
      refine wp_seq ?_
      refine wp_block ?_
      refine rg ?_
      refine mv F rfl fun a F => ?_
      refine mv F rfl fun a F => ?_
      refine ls (qv F (r_ne (F.ev (x := .tmp 13) rfl) (F.ev (x := .tmp 14) rfl)) fun a F => ?_)
      refine rgend ?_
      obtain ⟨o_13, k_13, j_7⟩ := Option.bind_eq_some_iff.1 j_7
      refine cut (fun a w => ∃ (x10 : List (List Int)) (x13 : Bool), (x10, x13) = o_13 ∧ ∃ (A11 : Option Addr) (c12 : Nat), Fr 24 [] [(0, .slice A0_ a0.length c0_), (1, .int .i64 a1), (4, .slice none 0 0), (5, .slice A11 x10.length c12), (6, .int .i64 x4), (7, .int .i64 x4), (8, .slice A0_ a0.length c0_), (9, .int .i64 (a0.length : Int)), (10, .bool true), (13, .int .i64 x4), (14, .int .i64 a1), (15, .bool x13)] a ∧ Hp w0 (rd (kSlice kByte) A0_ c0_ a0 :: ps) (own (kSlice kByte) 35 A11 c12 x10 :: fs) w) ?_ ?_
      · skip
        by_cases c15 : x4 ≠ a1
        · rw [if_pos c15] at k_13
          rw [decide_eq_true c15] at F
          refine wp_cond_true (F.ev rfl) ?_
          refine wp_region_lit ?_
          refine mv F rfl fun a F => ?_
          refine mv F rfl fun a F => ?_
          refine mv F rfl fun a F => ?_
          obtain ⟨c16, k_13⟩ := guardO k_13
          obtain ⟨g17, o18, s19, hr, H⟩ := H.ix [] 0 rfl (F.ev (x := .tmp 17) rfl) (F.ev (x := .tmp 18) rfl) Try.underlying26 sz35 (by decide) c16.1 c16.2
          obtain ⟨A20, c21, rfl, H⟩ := H.says_slice 1 rfl
          refine ls (qv F (hr _ _ _ _ _ _) fun a F => ?_)
          refine ls (qv F (r_ld (F.ev (x := .tmp 19) rfl) (range_cell (j := 0) (H.range 1 rfl) rfl) one35) fun a F => ?_)
          refine ls (lbs F H (e := 35) (vs := [(0, .slice A20 ((a0.getD (x4 : Int).toNat [])).length c21)]) (cs := [.slice A20 ((a0.getD (x4 : Int).toNat [])).length c21]) rfl (fun w => by kernel_rfl) fun g22 w a H F => ?_)
          obtain ⟨c23, k_13⟩ := guardO k_13
          obtain ⟨A24, c25, _, hr, H⟩ := Hp.appendCelL (kd := (kSlice kByte)) (xs := x1) (ys := [(a0.getD (x4 : Int).toNat [])]) (H.f1) (F.ev (x := .tmp 16) rfl) (F.ev (x := .tmp 21) rfl) Try.underlying26 ti35 rfl (by decide) (by decide) rfl ((SayL.cons (kd := (kSlice kByte)) (c1 := [.slice A20 ((a0.getD (x4 : Int).toNat [])).length c21]) (y := (a0.getD (x4 : Int).toNat [])) (fun Z hp => ⟨A20, c21, rfl, pat hp 0 rfl⟩) SayL.nil)) c23
          refine ls (qv F (hr _ _ _ _ _) fun a F => ?_)
          refine as_ F rfl fun a F => ?_
          refine wpList_nil ?_
          try dsimp only at k_13
          cases k_13
          exact ⟨_, _, rfl, A24, c25, F.only [0, 1, 4, 5, 6, 7, 8, 9, 10, 13, 14, 15] rfl, H.px2.px1.px0⟩
        · rw [if_neg c15] at k_13
          rw [decide_eq_false c15] at F
          refine wp_cond_false (F.ev rfl) ?_
          refine wp_skip ?_
          try dsimp only at k_13
          cases k_13
          exact ⟨_, _, rfl, A2, c3, F.only [0, 1, 4, 5, 6, 7, 8, 9, 10, 13, 14, 15] rfl, H⟩
      · rintro a w ⟨x10, x13, rfl, A11, c12, F, H⟩
        try dsimp only at j_7 F H
        refine wp_region_lit ?_
        refine mv F rfl fun a F => ?_
        refine ls (qv F (r_add (F.ev (x := .tmp 11) rfl) (F.ev (x := .const (.int .i64 1)) rfl)) fun a F => ?_)
        refine as_ F rfl fun a F => ?_
        refine wpList_nil ?_
        try dsimp only at j_7
        cases j_7
        exact ⟨_, rfl, A11, c12, F.only [0, 1, 4, 5, 6] rfl, H⟩
    · rw [if_neg c9] at j_7
      rw [decide_eq_false c9] at F
      refine wp_cond_false (F.ev rfl) ?_
      refine wp_exit ?_
      try dsimp only at j_7
      cases j_7
      cases u_7 _ rfl
      repeat (with_reducible refine exT ?_)
      with_reducible refine exB ?_
      exact ⟨_, rfl, A2, c3, F.only [4, 5] rfl, H.px0⟩
  · rintro a w ⟨x5, rfl, A6, c7, F, H⟩
    try dsimp only at h F H
    refine rg ?_
    refine mv F rfl fun a F => ?_
    refine as_ F rfl fun a F => ?_
    refine rgend ?_
    refine wp_ret ?_
    try dsimp only at h
    cases h
    exact RET _ _ (ret1 F rfl rfl ⟨_, rfl, A6, c7, rfl, H⟩)
def ref22_Lan_Many_f (a0 : ref22_Lan) (a1 : Int) : Option (Int) :=
  (if a1 = 0 then some (a0.A.length : Int) else (if a1 = 1 then some (a0.B.length : Int) else some 0))
set_option maxHeartbeats 4000000 in
set_option maxRecDepth 20000 in
theorem ref22_Lan_Many_ok {w0 w : World} {ps : List PF} {fs : List SF} {a0 : ref22_Lan} {g0_ : Nat} {a1 : Int} {r0 : Int} (H : Hp w0 ps (obj_ref22_Lan g0_ a0 :: fs) w) (h : ref22_Lan_Many_f a0 a1 = some r0) :
    Calls Try.prog 17 [.pointer (some ⟨g0_, 0, none⟩), .int .i64 a1].toArray w fun e w' => ∃ v, e = .returned v ∧ v = .int .i64 r0 ∧ Hp w0 ps (obj_ref22_Lan g0_ a0 :: fs) w' := by
  refine enter [.pointer (some ⟨g0_, 0, none⟩), .int .i64 a1] 19 Try.func17 fun Q a NP RET NRM F => ?_
  replace NP : ∀ c a w, ¬ Q (.panic c) a w := fun c a w h => by rcases NP c a w h with h | ⟨w, v, h, _⟩ <;> cases h
  unfold ref22_Lan_Many_f at h
  refine rg ?_
  refine as_ F (v := .int .i64 0) rfl fun a F => ?_
  refine rgend ?_
  refine wp_seq ?_
  refine rg ?_
  refine mv F rfl fun a F => ?_
  refine ls (qv F (r_eq (F.ev (x := .tmp 5) rfl) (F.ev (x := .const (.int .i64 0)) rfl)) fun a F => ?_)
  refine rgend ?_
  by_cases c1 : a1 = 0
  · rw [if_pos c1] at h
    rw [decide_eq_true c1] at F
    refine wp_cond_true (F.ev rfl) ?_
    refine rg ?_
    refine mv F rfl fun a F => ?_
    refine ls (qv F (r_nc (F.ev (x := .tmp 7) rfl)) fun a F => ?_)
    refine ls (qv F (r_fa (off := 0) (F.ev (x := .tmp 8) rfl) fa34_0) fun a F => ?_)
    obtain ⟨A2, c3, A4, c5, H⟩ := Hp.openO_ref22_Lan (H)
    refine ls (qv F (r_ld (F.ev (x := .tmp 9) rfl) (cel_cell (o := 0) (H.cell 0 rfl) rfl) one26) fun a F => ?_)
    refine ls (qv F (r_len (F.ev (x := .tmp 10) rfl) Try.underlying26) fun a F => ?_)
    refine as_ F rfl fun a F => ?_
    refine rgend ?_
    replace F := F.only [4, 0, 1] (l' := [(4, .int .i64 (a0.A.length : Int)), (0, .pointer (some ⟨g0_, 0, none⟩)), (1, .int .i64 a1)]) rfl
    refine wp_ret ?_
    replace H := Hp.closeO_ref22_Lan (x := a0) (H)
    try dsimp only at h
    cases h
    exact RET _ _ (ret1 F rfl rfl ⟨_, rfl, rfl, H⟩)
  · rw [if_neg c1] at h
    rw [decide_eq_false c1] at F
    refine wp_cond_false (F.ev rfl) ?_
    refine wp_skip ?_
    refine wp_seq ?_
    refine rg ?_
    refine mv F rfl fun a F => ?_
    refine ls (qv F (r_eq (F.ev (x := .tmp 12) rfl) (F.ev (x := .const (.int .i64 1)) rfl)) fun a F => ?_)
    refine rgend ?_
    replace F := F.only [13, 4, 0] (l' := [(13, .bool (decide (a1 = 1))), (4, .int .i64 0), (0, .pointer (some ⟨g0_, 0, none⟩))]) rfl
    by_cases c6 : a1 = 1
    · rw [if_pos c6] at h
      rw [decide_eq_true c6] at F
      refine wp_cond_true (F.ev rfl) ?_
      refine rg ?_
      refine mv F rfl fun a F => ?_
      refine ls (qv F (r_nc (F.ev (x := .tmp 14) rfl)) fun a F => ?_)
      refine ls (qv F (r_fa (off := 1) (F.ev (x := .tmp 15) rfl) fa34_1) fun a F => ?_)
      obtain ⟨A7, c8, A9, c10, H⟩ := Hp.openO_ref22_Lan (H)
      refine ls (qv F (r_ld (F.ev (x := .tmp 16) rfl) (cel_cell (o := 1) (H.cell 0 rfl) rfl) one26) fun a F => ?_)
      refine ls (qv F (r_len (F.ev (x := .tmp 17) rfl) Try.underlying26) fun a F => ?_)
      refine as_ F rfl fun a F => ?_
      refine rgend ?_
      replace F := F.only [4] (l' := [(4, .int .i64 (a0.B.length : Int))]) rfl
      refine wp_ret ?_
      replace H := Hp.closeO_ref22_Lan (x := a0) (H)
      try dsimp only at h
      cases h
      exact RET _ _ (ret1 F rfl rfl ⟨_, rfl, rfl, H⟩)
    · rw [if_neg c6] at h
      rw [decide_eq_false c6] at F
      refine wp_cond_false (F.ev rfl) ?_
      refine wp_skip ?_
      refine rg ?_
      refine as_ F (v := .int .i64 0) rfl fun a F => ?_
      refine rgend ?_
      refine wp_ret ?_
      try dsimp only at h
      cases h
      exact RET _ _ (ret1 F rfl rfl ⟨_, rfl, rfl, H⟩)
def ref22_Lan_Copy_f (a0 : ref22_Lan) (a1 : Int) (a2 : Int) : Option ((List Int) × Bool) :=
  (if a2 < 0 then some ([], false) else ((ref22_Lan_Many_f a0 a1).bind fun x2 => (if a2 ≥ x2 then some ([], false) else (if a1 = 0 then (if 0 ≤ a2 ∧ a2 < (a0.A.length : Int) then (if (0 + ((a0.A.getD (a2 : Int).toNat [])).length) * 1 ≤ 140737488355328 then some (((a0.A.getD (a2 : Int).toNat []), true)) else none) else none) else (if 0 ≤ a2 ∧ a2 < (a0.B.length : Int) then (if (0 + ((a0.B.getD (a2 : Int).toNat [])).length) * 1 ≤ 140737488355328 then some (((a0.B.getD (a2 : Int).toNat []), true)) else none) else none)))))
set_option maxHeartbeats 4000000 in
set_option maxRecDepth 20000 in
theorem ref22_Lan_Copy_ok {w0 w : World} {ps : List PF} {fs : List SF} {a0 : ref22_Lan} {g0_ : Nat} {a1 : Int} {a2 : Int} {r0 : List Int} {r1 : Bool} (H : Hp w0 ps (obj_ref22_Lan g0_ a0 :: fs) w) (h : ref22_Lan_Copy_f a0 a1 a2 = some (r0, r1)) :
    Calls Try.prog 13 [.pointer (some ⟨g0_, 0, none⟩), .int .i64 a1, .int .i64 a2].toArray w fun e w' => ∃ v, e = .returned v ∧ ∃ (A0 : Option Addr) (c0 : Nat), v = .tuple #[.slice A0 r0.length c0, .bool r1] ∧ Hp w0 (rd kByte A0 c0 r0 :: ps) (obj_ref22_Lan g0_ a0 :: fs) w' := by
  refine enter [.pointer (some ⟨g0_, 0, none⟩), .int .i64 a1, .int .i64 a2] 37 Try.func13 fun Q a NP RET NRM F => ?_
  replace NP : ∀ c a w, ¬ Q (.panic c) a w := fun c a w h => by rcases NP c a w h with h | ⟨w, v, h, _⟩ <;> cases h
  unfold ref22_Lan_Copy_f at h
  refine rg ?_
  refine as_ F (v := .slice none 0 0) rfl fun a F => ?_
  refine as_ F (v := .bool false) rfl fun a F => ?_
  refine rgend ?_
  refine wp_seq ?_
  refine rg ?_
  refine mv F rfl fun a F => ?_
  refine ls (qv F (r_lt (F.ev (x := .tmp 8) rfl) (F.ev (x := .const (.int .i64 0)) rfl)) fun a F => ?_)
  refine mv F rfl fun a F => ?_
  by_cases c1 : a2 < 0
  · rw [if_pos c1] at h
    rw [decide_eq_true c1] at F
    refine ls (off F fun a F => ?_)
    refine ls (off F fun a F => ?_)
    refine ls (off F fun a F => ?_)
    refine ls (off F fun a F => ?_)
    refine ls (off F fun a F => ?_)
    refine ls (qv F (r_pickT (F.ev (x := .tmp 10) rfl) (F.ev (x := .const (.bool true)) rfl)) fun a F => ?_)
    refine rgend ?_
    replace F := F.only [16, 7, 6, 0, 1, 2] (l' := [(16, .bool true), (7, .bool false), (6, .slice none 0 0), (0, .pointer (some ⟨g0_, 0, none⟩)), (1, .int .i64 a1), (2, .int .i64 a2)]) rfl
    refine wp_cond_true (F.ev rfl) ?_
    refine rg ?_
    refine as_ F (v := .slice none 0 0) rfl fun a F => ?_
    refine as_ F (v := .bool false) rfl fun a F => ?_
    refine rgend ?_
    refine wp_ret ?_
    replace H := H.nilRd kByte
    try dsimp only at h
    cases h
    exact RET _ _ (ret2 F rfl rfl rfl ⟨_, rfl, none, 0, rfl, H⟩)
  · rw [if_neg c1] at h
    rw [decide_eq_false c1] at F
    refine mv F rfl fun a F => ?_
    refine mv F rfl fun a F => ?_
    refine mv F rfl fun a F => ?_
    obtain ⟨x2, e3, h⟩ := Option.bind_eq_some_iff.1 h
    try dsimp only at h
    refine ls (call F Try.func17 (ref22_Lan_Many_ok (H) e3) rfl rfl fun v w hR a F => ?_)
    obtain ⟨rfl, H⟩ := hR
    refine ls (qv F (r_ge (F.ev (x := .tmp 11) rfl) (F.ev (x := .tmp 14) rfl)) fun a F => ?_)
    refine ls (qv F (r_pickF (F.ev (x := .tmp 10) rfl) (F.ev (x := .tmp 15) rfl)) fun a F => ?_)
    refine rgend ?_
    replace F := F.only [16, 7, 6, 0, 1, 2] (l' := [(16, .bool (decide (a2 ≥ x2))), (7, .bool false), (6, .slice none 0 0), (0, .pointer (some ⟨g0_, 0, none⟩)), (1, .int .i64 a1), (2, .int .i64 a2)]) rfl
    by_cases c4 : a2 ≥ x2
    · rw [if_pos c4] at h
      rw [decide_eq_true c4] at F
      refine wp_cond_true (F.ev rfl) ?_
      refine rg ?_
      refine as_ F (v := .slice none 0 0) rfl fun a F => ?_
      refine as_ F (v := .bool false) rfl fun a F => ?_
      refine rgend ?_
      refine wp_ret ?_
      replace H := H.nilRd kByte
      try dsimp only at h
      cases h
      exact RET _ _ (ret2 F rfl rfl rfl ⟨_, rfl, none, 0, rfl, H⟩)
    · rw [if_neg c4] at h
      rw [decide_eq_false c4] at F
      refine wp_cond_false (F.ev rfl) ?_
      refine wp_skip ?_
      refine wp_seq ?_
      refine rg ?_
      refine mv F rfl fun a F => ?_
      refine ls (qv F (r_eq (F.ev (x := .tmp 17) rfl) (F.ev (x := .const (.int .i64 0)) rfl)) fun a F => ?_)
      refine rgend ?_
      by_cases c5 : a1 = 0
      · rw [if_pos c5] at h
        rw [decide_eq_true c5] at F
        refine wp_cond_true (F.ev rfl) ?_
        refine rg ?_
        refine ls (lbs F H (e := 5) (vs := []) (cs := []) rfl (fun w => by kernel_rfl) fun g6 w a H F => ?_)
        refine mv F rfl fun a F => ?_
        refine ls (qv F (r_nc (F.ev (x := .tmp 20) rfl)) fun a F => ?_)
        refine ls (qv F (r_fa (off := 0) (F.ev (x := .tmp 21) rfl) fa34_0) fun a F => ?_)
        obtain ⟨A7, c8, A9, c10, H⟩ := Hp.openO_ref22_Lan (H.f1)
        refine ls (qv F (r_ld (F.ev (x := .tmp 22) rfl) (cel_cell (o := 0) (H.cell 0 rfl) rfl) one26) fun a F => ?_)
        refine mv F rfl fun a F => ?_
        obtain ⟨c11, h⟩ := guardO h
        obtain ⟨g12, s13, hA, hr, hl14, H⟩ := H.ixOwn2 [] 1 rfl (F.ev (x := .tmp 23) rfl) (F.ev (x := .tmp 24) rfl) Try.underlying26 sz35 (by decide) c11.1 c11.2
        cases hA
        obtain ⟨A15, c16, rfl, H⟩ := H.says_slice 0 rfl
        refine ls (qv F (hr _ _ _ _ _ _) fun a F => ?_)
        refine ls (qv F (r_ld (F.ev (x := .tmp 25) rfl) (range_cell (j := 0) hl14 rfl) one35) fun a F => ?_)
        replace H := Hp.litOwn (kd := kByte) (xs := []) (H.f2.f2.f2.f3) (SayL.nil) (Nat.le_of_ble_eq_true rfl)
        obtain ⟨c17, h⟩ := guardO h
        obtain ⟨A18, c19, _, hr, H⟩ := Hp.appendRd (kd := kByte) (xs := []) (ys := (a0.A.getD (a2 : Int).toNat [])) (H) 0 rfl (F.ev (x := .tmp 19) rfl) (F.ev (x := .tmp 26) rfl) Try.underlying35 ti5 rfl (by decide) (by decide) c17
        rw [List.nil_append] at hr H
        refine ls (qv F (hr _ _ _ _ _) fun a F => ?_)
        refine as_ F rfl fun a F => ?_
        refine as_ F (v := .bool true) rfl fun a F => ?_
        refine rgend ?_
        replace F := F.only [7, 6, 0, 2] (l' := [(7, .bool true), (6, .slice A18 ((a0.A.getD (a2 : Int).toNat [])).length c19), (0, .pointer (some ⟨g0_, 0, none⟩)), (2, .int .i64 a2)]) rfl
        refine wp_ret ?_
        replace H := (H).freeze
        replace H := Hp.closeO_ref22_Lan (x := a0) (H)
        try dsimp only at h
        cases h
        exact RET _ _ (ret2 F rfl rfl rfl ⟨_, rfl, A18, c19, rfl, H.px2.px1⟩)
      · rw [if_neg c5] at h
        rw [decide_eq_false c5] at F
        refine wp_cond_false (F.ev rfl) ?_
        refine wp_skip ?_
        refine rg ?_
        refine ls (lbs F H (e := 5) (vs := []) (cs := []) rfl (fun w => by kernel_rfl) fun g20 w a H F => ?_)
        refine mv F rfl fun a F => ?_
        refine ls (qv F (r_nc (F.ev (x := .tmp 29) rfl)) fun a F => ?_)
        refine ls (qv F (r_fa (off := 1) (F.ev (x := .tmp 30) rfl) fa34_1) fun a F => ?_)
        obtain ⟨A21, c22, A23, c24, H⟩ := Hp.openO_ref22_Lan (H.f1)
        refine ls (qv F (r_ld (F.ev (x := .tmp 31) rfl) (cel_cell (o := 1) (H.cell 0 rfl) rfl) one26) fun a F => ?_)
        refine mv F rfl fun a F => ?_
        obtain ⟨c25, h⟩ := guardO h
        obtain ⟨g26, s27, hA, hr, hl28, H⟩ := H.ixOwn2 [] 2 rfl (F.ev (x := .tmp 32) rfl) (F.ev (x := .tmp 33) rfl) Try.underlying26 sz35 (by decide) c25.1 c25.2
        cases hA
        obtain ⟨A29, c30, rfl, H⟩ := H.says_slice 0 rfl
        refine ls (qv F (hr _ _ _ _ _ _) fun a F => ?_)
        refine ls (qv F (r_ld (F.ev (x := .tmp 34) rfl) (range_cell (j := 0) hl28 rfl) one35) fun a F => ?_)
        replace H := Hp.litOwn (kd := kByte) (xs := []) (H.f2.f2.f2.f3) (SayL.nil) (Nat.le_of_ble_eq_true rfl)
        obtain ⟨c31, h⟩ := guardO h
        obtain ⟨A32, c33, _, hr, H⟩ := Hp.appendRd (kd := kByte) (xs := []) (ys := (a0.B.getD (a2 : Int).toNat [])) (H) 0 rfl (F.ev (x := .tmp 28) rfl) (F.ev (x := .tmp 35) rfl) Try.underlying35 ti5 rfl (by decide) (by decide) c31
        rw [List.nil_append] at hr H
        refine ls (qv F (hr _ _ _ _ _) fun a F => ?_)
        refine as_ F rfl fun a F => ?_
        refine as_ F (v := .bool true) rfl fun a F => ?_
        refine rgend ?_
        replace F := F.only [7, 6] (l' := [(7, .bool true), (6, .slice A32 ((a0.B.getD (a2 : Int).toNat [])).length c33)]) rfl
        refine wp_ret ?_
        replace H := (H).freeze
        replace H := Hp.closeO_ref22_Lan (x := a0) (H)
        try dsimp only at h
        cases h
        exact RET _ _ (ret2 F rfl rfl rfl ⟨_, rfl, A32, c33, rfl, H.px2.px1⟩)
def ref22_Lan_Take_f (a0 : ref22_Lan) (a1 : Int) (a2 : Int) : Option ((List Int) × Bool × ref22_Lan) :=
  ((ref22_Lan_Copy_f a0 a1 a2).bind fun (x1, x2) => ((if x2 = true then some (true, decide (a1 = 0)) else some (false, false)).bind fun (x6, x7) => ((if x7 = true then ((ref22_without_f a0.A a2).bind fun x17 => some ((⟨x17, a0.B⟩ : ref22_Lan))) else some a0).bind fun x10 => ((if x6 = true then some (true, decide (a1 = 1)) else some (false, false)).bind fun (x21, x22) => ((if x22 = true then ((ref22_without_f x10.B a2).bind fun x32 => some ((⟨x10.A, x32⟩ : ref22_Lan))) else some x10).bind fun x25 => some (x1, x21, x25))))))
set_option maxHeartbeats 4000000 in
set_option maxRecDepth 20000 in
theorem ref22_Lan_Take_ok {w0 w : World} {ps : List PF} {fs : List SF} {a0 : ref22_Lan} {g0_ : Nat} {a1 : Int} {a2 : Int} {r0 : List Int} {r1 : Bool} {s0 : ref22_Lan} (H : Hp w0 ps (obj_ref22_Lan g0_ a0 :: fs) w) (h : ref22_Lan_Take_f a0 a1 a2 = some (r0, r1, s0)) :
    Calls Try.prog 11 [.pointer (some ⟨g0_, 0, none⟩), .int .i64 a1, .int .i64 a2].toArray w fun e w' => ∃ v, e = .returned v ∧ ∃ (A0 : Option Addr) (c0 : Nat), v = .tuple #[.slice A0 r0.length c0, .bool r1] ∧ Hp w0 (rd kByte A0 c0 r0 :: ps) (obj_ref22_Lan g0_ s0 :: fs) w' := by
  refine enter [.pointer (some ⟨g0_, 0, none⟩), .int .i64 a1, .int .i64 a2] 47 Try.func11 fun Q a NP RET NRM F => ?_
  replace NP : ∀ c a w, ¬ Q (.panic c) a w := fun c a w h => by rcases NP c a w h with h | ⟨w, v, h, _⟩ <;> cases h
  unfold ref22_Lan_Take_f at h
  refine rg ?_
  refine as_ F (v := .slice none 0 0) rfl fun a F => ?_
  refine as_ F (v := .bool false) rfl fun a F => ?_
  refine rgend ?_
  refine rg ?_
  refine mv F rfl fun a F => ?_
  refine mv F rfl fun a F => ?_
  refine mv F rfl fun a F => ?_
  obtain ⟨⟨x1, x2⟩, e3, h⟩ := Option.bind_eq_some_iff.1 h
  try dsimp only at h
  refine ls (call F Try.func13 (ref22_Lan_Copy_ok (H) e3) rfl rfl fun v w hR a F => ?_)
  obtain ⟨A4, c5, rfl, H⟩ := hR
  refine mv F rfl fun a F => ?_
  refine ls (qv F (r_ex (F.ev (x := .tmp 10) rfl) rfl) fun a F => ?_)
  refine ls (qv F (r_ex (F.ev (x := .tmp 10) rfl) rfl) fun a F => ?_)
  refine as_ F rfl fun a F => ?_
  refine as_ F rfl fun a F => ?_
  refine rgend ?_
  replace F := F.only [9, 8, 7, 6, 0, 1, 2] (l' := [(9, .bool x2), (8, .slice A4 x1.length c5), (7, .bool false), (6, .slice none 0 0), (0, .pointer (some ⟨g0_, 0, none⟩)), (1, .int .i64 a1), (2, .int .i64 a2)]) rfl
  refine wp_seq ?_
  refine wp_seq ?_
  obtain ⟨o_7, k_7, h⟩ := Option.bind_eq_some_iff.1 h
  refine cut (fun a w => ∃ (x6 : Bool) (x7 : Bool), (x6, x7) = o_7 ∧ Fr 47 [] [(0, .pointer (some ⟨g0_, 0, none⟩)), (1, .int .i64 a1), (2, .int .i64 a2), (6, .slice none 0 0), (7, .bool false), (8, .slice A4 x1.length c5), (9, .bool x6), (21, .bool x7)] a ∧ Hp w0 (rd kByte A4 c5 x1 :: ps) (obj_ref22_Lan g0_ a0 :: fs) w) ?_ ?_
  · skip
    refine wp_region_lit ?_
    refine mv F rfl fun a F => ?_
    refine mv F rfl fun a F => ?_
    by_cases c9 : x2 = true
    · rw [if_pos c9] at k_7
      rw [c9] at F
      refine mv F rfl fun a F => ?_
      refine ls (qv F (r_eq (F.ev (x := .tmp 19) rfl) (F.ev (x := .const (.int .i64 0)) rfl)) fun a F => ?_)
      refine ls (qv F (r_pickT (F.ev (x := .tmp 18) rfl) (F.ev (x := .tmp 20) rfl)) fun a F => ?_)
      refine wpList_nil ?_
      replace F := F.only [21, 9, 8, 7, 6, 0, 1, 2] (l' := [(21, .bool (decide (a1 = 0))), (9, .bool true), (8, .slice A4 x1.length c5), (7, .bool false), (6, .slice none 0 0), (0, .pointer (some ⟨g0_, 0, none⟩)), (1, .int .i64 a1), (2, .int .i64 a2)]) rfl
      try dsimp only at k_7
      cases k_7
      exact ⟨_, _, rfl, F.only [0, 1, 2, 6, 7, 8, 9, 21] rfl, H⟩
    · rw [if_neg c9] at k_7
      rw [Bool.eq_false_iff.2 c9] at F
      refine ls (off F fun a F => ?_)
      refine ls (off F fun a F => ?_)
      refine ls (qv F (r_pickF (F.ev (x := .tmp 18) rfl) (F.ev (x := .const (.bool false)) rfl)) fun a F => ?_)
      refine wpList_nil ?_
      replace F := F.only [21, 9, 8, 7, 6, 0, 1, 2] (l' := [(21, .bool false), (9, .bool false), (8, .slice A4 x1.length c5), (7, .bool false), (6, .slice none 0 0), (0, .pointer (some ⟨g0_, 0, none⟩)), (1, .int .i64 a1), (2, .int .i64 a2)]) rfl
      try dsimp only at k_7
      cases k_7
      exact ⟨_, _, rfl, F.only [0, 1, 2, 6, 7, 8, 9, 21] rfl, H⟩
  · rintro a w ⟨x6, x7, rfl, F, H⟩
    try dsimp only at h F H
    obtain ⟨o_10, k_10, h⟩ := Option.bind_eq_some_iff.1 h
    refine cut (fun a w => ∃ (x10 : ref22_Lan), x10 = o_10 ∧ Fr 47 [] [(0, .pointer (some ⟨g0_, 0, none⟩)), (1, .int .i64 a1), (2, .int .i64 a2), (6, .slice none 0 0), (7, .bool false), (8, .slice A4 x1.length c5), (9, .bool x6)] a ∧ Hp w0 (rd kByte A4 c5 x1 :: ps) (obj_ref22_Lan g0_ x10 :: fs) w) ?_ ?_
    · skip
      by_cases c12 : x7 = true
      · rw [if_pos c12] at k_10
        rw [c12] at F
        refine wp_cond_true (F.ev rfl) ?_
        refine wp_region_lit ?_
        refine mv F rfl fun a F => ?_
        refine mv F rfl fun a F => ?_
        refine ls (qv F (r_nc (F.ev (x := .tmp 23) rfl)) fun a F => ?_)
        refine ls (qv F (r_fa (off := 0) (F.ev (x := .tmp 24) rfl) fa34_0) fun a F => ?_)
        obtain ⟨A13, c14, A15, c16, H⟩ := Hp.openO_ref22_Lan (H)
        refine ls (qv F (r_ld (F.ev (x := .tmp 25) rfl) (cel_cell (o := 0) (H.cell 0 rfl) rfl) one26) fun a F => ?_)
        refine mv F rfl fun a F => ?_
        replace H := (H.f2.f1.f2).freeze
        obtain ⟨x17, e18, k_10⟩ := Option.bind_eq_some_iff.1 k_10
        try dsimp only at k_10
        refine ls (call F Try.func20 (ref22_without_ok (H.p0) e18) rfl rfl fun v w hR a F => ?_)
        obtain ⟨A19, c20, rfl, H⟩ := hR
        refine ls (qv F (r_nc (F.ev (x := .tmp 22) rfl)) fun a F => ?_)
        refine ls (qv F (r_fa (off := 0) (F.ev (x := .tmp 29) rfl) fa34_0) fun a F => ?_)
        obtain ⟨_, hr, H⟩ := Hp.store (t := 26) (o := 0) (n := 1) (vs := [.slice A19 x17.length c20]) (cs' := [.slice A19 x17.length c20, .slice A15 a0.B.length c16]) (H.f2.f1.f2) (F.ev (x := .tmp 30) rfl) (F.ev (x := .tmp 28) rfl) rfl sz26 rfl (Nat.le_of_ble_eq_true rfl) rfl rfl
        refine ls (qn F (.inl rfl) (hr _ _ _ _) fun a F => ?_)
        refine wpList_nil ?_
        replace F := F.only [0, 1, 2, 6, 7, 8, 9] (l' := [(0, .pointer (some ⟨g0_, 0, none⟩)), (1, .int .i64 a1), (2, .int .i64 a2), (6, .slice none 0 0), (7, .bool false), (8, .slice A4 x1.length c5), (9, .bool x6)]) rfl
        replace H := Hp.closeO_ref22_Lan (x := (⟨x17, a0.B⟩ : ref22_Lan)) (H)
        try dsimp only at k_10
        cases k_10
        exact ⟨_, rfl, F.only [0, 1, 2, 6, 7, 8, 9] rfl, H.px0⟩
      · rw [if_neg c12] at k_10
        rw [Bool.eq_false_iff.2 c12] at F
        refine wp_cond_false (F.ev rfl) ?_
        refine wp_skip ?_
        try dsimp only at k_10
        cases k_10
        exact ⟨_, rfl, F.only [0, 1, 2, 6, 7, 8, 9] rfl, H⟩
    · rintro a w ⟨x10, rfl, F, H⟩
      try dsimp only at h F H
      refine wp_seq ?_
      refine wp_seq ?_
      obtain ⟨o_22, k_22, h⟩ := Option.bind_eq_some_iff.1 h
      refine cut (fun a w => ∃ (x21 : Bool) (x22 : Bool), (x21, x22) = o_22 ∧ Fr 47 [] [(0, .pointer (some ⟨g0_, 0, none⟩)), (2, .int .i64 a2), (6, .slice none 0 0), (7, .bool false), (8, .slice A4 x1.length c5), (9, .bool x21), (35, .bool x22)] a ∧ Hp w0 (rd kByte A4 c5 x1 :: ps) (obj_ref22_Lan g0_ x10 :: fs) w) ?_ ?_
      · skip
        refine wp_region_lit ?_
        refine mv F rfl fun a F => ?_
        refine mv F rfl fun a F => ?_
        by_cases c24 : x6 = true
        · rw [if_pos c24] at k_22
          rw [c24] at F
          refine mv F rfl fun a F => ?_
          refine ls (qv F (r_eq (F.ev (x := .tmp 33) rfl) (F.ev (x := .const (.int .i64 1)) rfl)) fun a F => ?_)
          refine ls (qv F (r_pickT (F.ev (x := .tmp 32) rfl) (F.ev (x := .tmp 34) rfl)) fun a F => ?_)
          refine wpList_nil ?_
          replace F := F.only [35, 0, 2, 6, 7, 8, 9] (l' := [(35, .bool (decide (a1 = 1))), (0, .pointer (some ⟨g0_, 0, none⟩)), (2, .int .i64 a2), (6, .slice none 0 0), (7, .bool false), (8, .slice A4 x1.length c5), (9, .bool true)]) rfl
          try dsimp only at k_22
          cases k_22
          exact ⟨_, _, rfl, F.only [0, 2, 6, 7, 8, 9, 35] rfl, H⟩
        · rw [if_neg c24] at k_22
          rw [Bool.eq_false_iff.2 c24] at F
          refine ls (off F fun a F => ?_)
          refine ls (off F fun a F => ?_)
          refine ls (qv F (r_pickF (F.ev (x := .tmp 32) rfl) (F.ev (x := .const (.bool false)) rfl)) fun a F => ?_)
          refine wpList_nil ?_
          replace F := F.only [35, 0, 2, 6, 7, 8, 9] (l' := [(35, .bool false), (0, .pointer (some ⟨g0_, 0, none⟩)), (2, .int .i64 a2), (6, .slice none 0 0), (7, .bool false), (8, .slice A4 x1.length c5), (9, .bool false)]) rfl
          try dsimp only at k_22
          cases k_22
          exact ⟨_, _, rfl, F.only [0, 2, 6, 7, 8, 9, 35] rfl, H⟩
      · rintro a w ⟨x21, x22, rfl, F, H⟩
        try dsimp only at h F H
        obtain ⟨o_25, k_25, h⟩ := Option.bind_eq_some_iff.1 h
        refine cut (fun a w => ∃ (x25 : ref22_Lan), x25 = o_25 ∧ Fr 47 [] [(6, .slice none 0 0), (7, .bool false), (8, .slice A4 x1.length c5), (9, .bool x21)] a ∧ Hp w0 (rd kByte A4 c5 x1 :: ps) (obj_ref22_Lan g0_ x25 :: fs) w) ?_ ?_
        · skip
          by_cases c27 : x22 = true
          · rw [if_pos c27] at k_25
            rw [c27] at F
            refine wp_cond_true (F.ev rfl) ?_
            refine wp_region_lit ?_
            refine mv F rfl fun a F => ?_
            refine mv F rfl fun a F => ?_
            refine ls (qv F (r_nc (F.ev (x := .tmp 37) rfl)) fun a F => ?_)
            refine ls (qv F (r_fa (off := 1) (F.ev (x := .tmp 38) rfl) fa34_1) fun a F => ?_)
            obtain ⟨A28, c29, A30, c31, H⟩ := Hp.openO_ref22_Lan (H)
            refine ls (qv F (r_ld (F.ev (x := .tmp 39) rfl) (cel_cell (o := 1) (H.cell 0 rfl) rfl) one26) fun a F => ?_)
            refine mv F rfl fun a F => ?_
            replace H := (H.f1.f1.f2).freeze
            obtain ⟨x32, e33, k_25⟩ := Option.bind_eq_some_iff.1 k_25
            try dsimp only at k_25
            refine ls (call F Try.func20 (ref22_without_ok (H.p0) e33) rfl rfl fun v w hR a F => ?_)
            obtain ⟨A34, c35, rfl, H⟩ := hR
            refine ls (qv F (r_nc (F.ev (x := .tmp 36) rfl)) fun a F => ?_)
            refine ls (qv F (r_fa (off := 1) (F.ev (x := .tmp 43) rfl) fa34_1) fun a F => ?_)
            obtain ⟨_, hr, H⟩ := Hp.store (t := 26) (o := 1) (n := 1) (vs := [.slice A34 x32.length c35]) (cs' := [.slice A28 x10.A.length c29, .slice A34 x32.length c35]) (H.f2.f1.f2) (F.ev (x := .tmp 44) rfl) (F.ev (x := .tmp 42) rfl) rfl sz26 rfl (Nat.le_of_ble_eq_true rfl) rfl rfl
            refine ls (qn F (.inl rfl) (hr _ _ _ _) fun a F => ?_)
            refine wpList_nil ?_
            replace F := F.only [6, 7, 8, 9] (l' := [(6, .slice none 0 0), (7, .bool false), (8, .slice A4 x1.length c5), (9, .bool x21)]) rfl
            replace H := Hp.closeO_ref22_Lan (x := (⟨x10.A, x32⟩ : ref22_Lan)) (H.f1.f2.f2)
            try dsimp only at k_25
            cases k_25
            exact ⟨_, rfl, F.only [6, 7, 8, 9] rfl, H.px0⟩
          · rw [if_neg c27] at k_25
            rw [Bool.eq_false_iff.2 c27] at F
            refine wp_cond_false (F.ev rfl) ?_
            refine wp_skip ?_
            try dsimp only at k_25
            cases k_25
            exact ⟨_, rfl, F.only [6, 7, 8, 9] rfl, H⟩
        · rintro a w ⟨x25, rfl, F, H⟩
          try dsimp only at h F H
          refine rg ?_
          refine mv F rfl fun a F => ?_
          refine mv F rfl fun a F => ?_
          refine as_ F rfl fun a F => ?_
          refine as_ F rfl fun a F => ?_
          refine rgend ?_
          replace F := F.only [7, 6] (l' := [(7, .bool x21), (6, .slice A4 x1.length c5)]) rfl
          refine wp_ret ?_
          try dsimp only at h
          cases h
          exact RET _ _ (ret2 F rfl rfl rfl ⟨_, rfl, A4, c5, rfl, H⟩)
def ref22_Lan_Put_f (a0 : ref22_Lan) (a1 : Int) (a2 : List Int) : Option (Bool × ref22_Lan) :=
  ((if a1 = 0 then some ((decide ((a0.A.length : Int) < 2048))) else some false).bind fun x1 => (if x1 = true then (if (0 + a2.length) * 1 ≤ 140737488355328 then (if (a0.A.length + 1) * 24 ≤ 140737488355328 then some ((true, (⟨(a0.A ++ ([a2])), a0.B⟩ : ref22_Lan))) else none) else none) else ((if a1 = 1 then some ((decide ((a0.B.length : Int) < 2048))) else some false).bind fun x21 => (if x21 = true then (if (0 + a2.length) * 1 ≤ 140737488355328 then (if (a0.B.length + 1) * 24 ≤ 140737488355328 then some ((true, (⟨a0.A, (a0.B ++ ([a2]))⟩ : ref22_Lan))) else none) else none) else some (false, a0)))))
set_option maxHeartbeats 4000000 in
set_option maxRecDepth 20000 in
theorem ref22_Lan_Put_ok {w0 w : World} {ps : List PF} {fs : List SF} {a0 : ref22_Lan} {g0_ : Nat} {a1 : Int} {a2 : List Int} {A2_ : Option Addr} {c2_ : Nat} {r0 : Bool} {s0 : ref22_Lan} (H : Hp w0 (rd kByte A2_ c2_ a2 :: ps) (obj_ref22_Lan g0_ a0 :: fs) w) (h : ref22_Lan_Put_f a0 a1 a2 = some (r0, s0)) :
    Calls Try.prog 15 [.pointer (some ⟨g0_, 0, none⟩), .int .i64 a1, .slice A2_ a2.length c2_].toArray w fun e w' => ∃ v, e = .returned v ∧ v = .bool r0 ∧ Hp w0 ps (obj_ref22_Lan g0_ s0 :: fs) w' := by
  refine enter [.pointer (some ⟨g0_, 0, none⟩), .int .i64 a1, .slice A2_ a2.length c2_] 51 Try.func15 fun Q a NP RET NRM F => ?_
  replace NP : ∀ c a w, ¬ Q (.panic c) a w := fun c a w h => by rcases NP c a w h with h | ⟨w, v, h, _⟩ <;> cases h
  unfold ref22_Lan_Put_f at h
  refine rg ?_
  refine as_ F (v := .bool false) rfl fun a F => ?_
  refine rgend ?_
  refine wp_seq ?_
  refine wp_seq ?_
  obtain ⟨o_1, k_1, h⟩ := Option.bind_eq_some_iff.1 h
  refine cut (fun a w => ∃ (x1 : Bool), x1 = o_1 ∧ Fr 51 [] [(0, .pointer (some ⟨g0_, 0, none⟩)), (1, .int .i64 a1), (2, .slice A2_ a2.length c2_), (6, .bool false), (16, .bool x1)] a ∧ Hp w0 (rd kByte A2_ c2_ a2 :: ps) (obj_ref22_Lan g0_ a0 :: fs) w) ?_ ?_
  · skip
    refine wp_region_lit ?_
    refine mv F rfl fun a F => ?_
    refine ls (qv F (r_eq (F.ev (x := .tmp 7) rfl) (F.ev (x := .const (.int .i64 0)) rfl)) fun a F => ?_)
    refine mv F rfl fun a F => ?_
    by_cases c3 : a1 = 0
    · rw [if_pos c3] at k_1
      rw [decide_eq_true c3] at F
      refine mv F rfl fun a F => ?_
      refine ls (qv F (r_nc (F.ev (x := .tmp 10) rfl)) fun a F => ?_)
      refine ls (qv F (r_fa (off := 0) (F.ev (x := .tmp 11) rfl) fa34_0) fun a F => ?_)
      obtain ⟨A4, c5, A6, c7, H⟩ := Hp.openO_ref22_Lan (H)
      refine ls (qv F (r_ld (F.ev (x := .tmp 12) rfl) (cel_cell (o := 0) (H.cell 0 rfl) rfl) one26) fun a F => ?_)
      refine ls (qv F (r_len (F.ev (x := .tmp 13) rfl) Try.underlying26) fun a F => ?_)
      refine ls (qv F (r_lt (F.ev (x := .tmp 14) rfl) (F.ev (x := .const (.int .i64 2048)) rfl)) fun a F => ?_)
      refine ls (qv F (r_pickT (F.ev (x := .tmp 9) rfl) (F.ev (x := .tmp 15) rfl)) fun a F => ?_)
      refine wpList_nil ?_
      replace F := F.only [16, 6, 0, 1, 2] (l' := [(16, .bool (decide ((a0.A.length : Int) < 2048))), (6, .bool false), (0, .pointer (some ⟨g0_, 0, none⟩)), (1, .int .i64 a1), (2, .slice A2_ a2.length c2_)]) rfl
      replace H := Hp.closeO_ref22_Lan (x := a0) (H)
      try dsimp only at k_1
      cases k_1
      exact ⟨_, rfl, F.only [0, 1, 2, 6, 16] rfl, H⟩
    · rw [if_neg c3] at k_1
      rw [decide_eq_false c3] at F
      refine ls (off F fun a F => ?_)
      refine ls (off F fun a F => ?_)
      refine ls (off F fun a F => ?_)
      refine ls (off F fun a F => ?_)
      refine ls (off F fun a F => ?_)
      refine ls (off F fun a F => ?_)
      refine ls (qv F (r_pickF (F.ev (x := .tmp 9) rfl) (F.ev (x := .const (.bool false)) rfl)) fun a F => ?_)
      refine wpList_nil ?_
      replace F := F.only [16, 6, 0, 1, 2] (l' := [(16, .bool false), (6, .bool false), (0, .pointer (some ⟨g0_, 0, none⟩)), (1, .int .i64 a1), (2, .slice A2_ a2.length c2_)]) rfl
      try dsimp only at k_1
      cases k_1
      exact ⟨_, rfl, F.only [0, 1, 2, 6, 16] rfl, H⟩
  · rintro a w ⟨x1, rfl, F, H⟩
    try dsimp only at h F H
    by_cases c8 : x1 = true
    · rw [if_pos c8] at h
      rw [c8] at F
      refine wp_cond_true (F.ev rfl) ?_
      refine wp_seq ?_
      obtain ⟨A9, c10, A11, c12, H⟩ := Hp.openO_ref22_Lan (H)
      replace H := H.drew
      have HS := H.fx2.fx1
      refine dr (fun w => Hp w0 (rd kByte A2_ c2_ a2 :: ps) (cel g0_ [.slice A9 a0.A.length c10, .slice A11 a0.B.length c12] 34 :: fs) w) _ (by kernel_rfl) ?_ (n := 13)
      refine dq 0 F rfl (by kernel_rfl) NP HS (fun w S => (r_mv (F.ev (x := .tmp 0) rfl))) fun a F => ?_
      refine dq 1 F rfl (by kernel_rfl) NP HS (fun w S => (r_mv (F.ev (x := .tmp 0) rfl))) fun a F => ?_
      refine dq 2 F rfl (by kernel_rfl) NP HS (fun w S => (r_nc (F.ev (x := .tmp 18) rfl))) fun a F => ?_
      refine dq 3 F rfl (by kernel_rfl) NP HS (fun w S => (r_fa (off := 0) (F.ev (x := .tmp 19) rfl) fa34_0)) fun a F => ?_
      refine dq 4 F rfl (by kernel_rfl) NP HS (fun w S => (r_ld (F.ev (x := .tmp 20) rfl) (cel_cell (o := 0) (S.cell 0 rfl) rfl) one26)) fun a F => ?_
      refine dq 6 F rfl (by kernel_rfl) NP HS (fun w S => (r_mv (F.ev (x := .tmp 2) rfl))) fun a F => ?_
      refine d1 5 rfl (by kernel_rfl) (lbs F H (e := 5) (vs := []) (cs := []) rfl (fun w => by kernel_rfl) fun g13 w a H F => ?_)
      have HS := H.fx3.fx2.fx0
      refine kg _ HS (fun w S => S) ?_
      replace H := Hp.litOwn (kd := kByte) (xs := []) (H) (SayL.nil) (Nat.le_of_ble_eq_true rfl)
      obtain ⟨c14, h⟩ := guardO h
      obtain ⟨A15, c16, _, hr, H⟩ := Hp.appendRd (kd := kByte) (xs := []) (ys := a2) (H) 0 rfl (F.ev (x := .tmp 22) rfl) (F.ev (x := .tmp 23) rfl) Try.underlying35 ti5 rfl (by decide) (by decide) c14
      rw [List.nil_append] at hr H
      refine d1 7 rfl (by kernel_rfl) (qv F (hr _ _ _ _ _) fun a F => ?_)
      have HS := H.fx3.fx2.fx0
      refine kg _ HS (fun w S => S) ?_
      replace H := (H).freeze
      have HS := H.fx2.fx1
      refine dmoreH HS (fun w S => S.px0) ?_
      refine d1 8 rfl (by kernel_rfl) (lbs F H (e := 35) (vs := [(0, .slice A15 a2.length c16)]) (cs := [.slice A15 a2.length c16]) rfl (fun w => by kernel_rfl) fun g17 w a H F => ?_)
      have HS := H.fx3.fx2.fx0
      refine kg _ HS (fun w S => S) ?_
      obtain ⟨c18, h⟩ := guardO h
      obtain ⟨A19, c20, _, hr, H⟩ := Hp.appendCelL (kd := (kSlice kByte)) (xs := a0.A) (ys := [a2]) (H.f3.f2.f2.f3) (F.ev (x := .tmp 21) rfl) (F.ev (x := .tmp 25) rfl) Try.underlying26 ti35 rfl (by decide) (by decide) rfl ((SayL.cons (kd := (kSlice kByte)) (c1 := [.slice A15 a2.length c16]) (y := a2) (fun Z hp => ⟨A15, c16, rfl, pat hp 0 rfl⟩) SayL.nil)) c18
      refine d1 9 rfl (by kernel_rfl) (qv F (hr _ _ _ _ _) fun a F => ?_)
      have HS := H.fx2.fx0
      refine kg _ HS (fun w S => S) ?_
      refine dq 10 F rfl (by kernel_rfl) NP HS (fun w S => (r_nc (F.ev (x := .tmp 17) rfl))) fun a F => ?_
      refine dq 11 F rfl (by kernel_rfl) NP HS (fun w S => (r_fa (off := 0) (F.ev (x := .tmp 27) rfl) fa34_0)) fun a F => ?_
      obtain ⟨_, hr, H⟩ := Hp.store (t := 26) (o := 0) (n := 1) (vs := [.slice A19 ((a0.A ++ ([a2]))).length c20]) (cs' := [.slice A19 ((a0.A ++ ([a2]))).length c20, .slice A11 a0.B.length c12]) (H.f2.f1.f2) (F.ev (x := .tmp 28) rfl) (F.ev (x := .tmp 26) rfl) rfl sz26 rfl (Nat.le_of_ble_eq_true rfl) rfl rfl
      refine d1 12 rfl (by kernel_rfl) (qn F (.inl rfl) (hr _ _ _ _) fun a F => ?_)
      have HS := H.fx2.fx1
      refine kga (by kernel_rfl) HS ?_
      refine ddone (by kernel_rfl) ?_
      replace F := F.only [0, 1, 2, 6] (l' := [(0, .pointer (some ⟨g0_, 0, none⟩)), (1, .int .i64 a1), (2, .slice A2_ a2.length c2_), (6, .bool false)]) rfl
      refine rg ?_
      refine as_ F (v := .bool true) rfl fun a F => ?_
      refine rgend ?_
      refine wp_ret ?_
      replace H := Hp.closeO_ref22_Lan (x := (⟨(a0.A ++ ([a2])), a0.B⟩ : ref22_Lan)) (H)
      try dsimp only at h
      cases h
      exact RET _ _ (ret1 F rfl rfl ⟨_, rfl, rfl, H.px1.px0⟩)
    · rw [if_neg c8] at h
      rw [Bool.eq_false_iff.2 c8] at F
      refine wp_cond_false (F.ev rfl) ?_
      refine wp_skip ?_
      refine wp_seq ?_
      refine wp_seq ?_
      obtain ⟨o_21, k_21, h⟩ := Option.bind_eq_some_iff.1 h
      refine cut (fun a w => ∃ (x21 : Bool), x21 = o_21 ∧ Fr 51 [] [(0, .pointer (some ⟨g0_, 0, none⟩)), (2, .slice A2_ a2.length c2_), (6, .bool false), (38, .bool x21)] a ∧ Hp w0 (rd kByte A2_ c2_ a2 :: ps) (obj_ref22_Lan g0_ a0 :: fs) w) ?_ ?_
      · skip
        refine wp_region_lit ?_
        refine mv F rfl fun a F => ?_
        refine ls (qv F (r_eq (F.ev (x := .tmp 29) rfl) (F.ev (x := .const (.int .i64 1)) rfl)) fun a F => ?_)
        refine mv F rfl fun a F => ?_
        by_cases c23 : a1 = 1
        · rw [if_pos c23] at k_21
          rw [decide_eq_true c23] at F
          refine mv F rfl fun a F => ?_
          refine ls (qv F (r_nc (F.ev (x := .tmp 32) rfl)) fun a F => ?_)
          refine ls (qv F (r_fa (off := 1) (F.ev (x := .tmp 33) rfl) fa34_1) fun a F => ?_)
          obtain ⟨A24, c25, A26, c27, H⟩ := Hp.openO_ref22_Lan (H)
          refine ls (qv F (r_ld (F.ev (x := .tmp 34) rfl) (cel_cell (o := 1) (H.cell 0 rfl) rfl) one26) fun a F => ?_)
          refine ls (qv F (r_len (F.ev (x := .tmp 35) rfl) Try.underlying26) fun a F => ?_)
          refine ls (qv F (r_lt (F.ev (x := .tmp 36) rfl) (F.ev (x := .const (.int .i64 2048)) rfl)) fun a F => ?_)
          refine ls (qv F (r_pickT (F.ev (x := .tmp 31) rfl) (F.ev (x := .tmp 37) rfl)) fun a F => ?_)
          refine wpList_nil ?_
          replace F := F.only [38, 0, 2, 6] (l' := [(38, .bool (decide ((a0.B.length : Int) < 2048))), (0, .pointer (some ⟨g0_, 0, none⟩)), (2, .slice A2_ a2.length c2_), (6, .bool false)]) rfl
          replace H := Hp.closeO_ref22_Lan (x := a0) (H)
          try dsimp only at k_21
          cases k_21
          exact ⟨_, rfl, F.only [0, 2, 6, 38] rfl, H⟩
        · rw [if_neg c23] at k_21
          rw [decide_eq_false c23] at F
          refine ls (off F fun a F => ?_)
          refine ls (off F fun a F => ?_)
          refine ls (off F fun a F => ?_)
          refine ls (off F fun a F => ?_)
          refine ls (off F fun a F => ?_)
          refine ls (off F fun a F => ?_)
          refine ls (qv F (r_pickF (F.ev (x := .tmp 31) rfl) (F.ev (x := .const (.bool false)) rfl)) fun a F => ?_)
          refine wpList_nil ?_
          replace F := F.only [38, 0, 2, 6] (l' := [(38, .bool false), (0, .pointer (some ⟨g0_, 0, none⟩)), (2, .slice A2_ a2.length c2_), (6, .bool false)]) rfl
          try dsimp only at k_21
          cases k_21
          exact ⟨_, rfl, F.only [0, 2, 6, 38] rfl, H⟩
      · rintro a w ⟨x21, rfl, F, H⟩
        try dsimp only at h F H
        by_cases c28 : x21 = true
        · rw [if_pos c28] at h
          rw [c28] at F
          refine wp_cond_true (F.ev rfl) ?_
          refine wp_seq ?_
          obtain ⟨A29, c30, A31, c32, H⟩ := Hp.openO_ref22_Lan (H)
          replace H := H.drew
          have HS := H.fx2.fx1
          refine dr (fun w => Hp w0 (rd kByte A2_ c2_ a2 :: ps) (cel g0_ [.slice A29 a0.A.length c30, .slice A31 a0.B.length c32] 34 :: fs) w) _ (by kernel_rfl) ?_ (n := 13)
          refine dq 0 F rfl (by kernel_rfl) NP HS (fun w S => (r_mv (F.ev (x := .tmp 0) rfl))) fun a F => ?_
          refine dq 1 F rfl (by kernel_rfl) NP HS (fun w S => (r_mv (F.ev (x := .tmp 0) rfl))) fun a F => ?_
          refine dq 2 F rfl (by kernel_rfl) NP HS (fun w S => (r_nc (F.ev (x := .tmp 40) rfl))) fun a F => ?_
          refine dq 3 F rfl (by kernel_rfl) NP HS (fun w S => (r_fa (off := 1) (F.ev (x := .tmp 41) rfl) fa34_1)) fun a F => ?_
          refine dq 4 F rfl (by kernel_rfl) NP HS (fun w S => (r_ld (F.ev (x := .tmp 42) rfl) (cel_cell (o := 1) (S.cell 0 rfl) rfl) one26)) fun a F => ?_
          refine dq 6 F rfl (by kernel_rfl) NP HS (fun w S => (r_mv (F.ev (x := .tmp 2) rfl))) fun a F => ?_
          refine d1 5 rfl (by kernel_rfl) (lbs F H (e := 5) (vs := []) (cs := []) rfl (fun w => by kernel_rfl) fun g33 w a H F => ?_)
          have HS := H.fx3.fx2.fx0
          refine kg _ HS (fun w S => S) ?_
          replace H := Hp.litOwn (kd := kByte) (xs := []) (H) (SayL.nil) (Nat.le_of_ble_eq_true rfl)
          obtain ⟨c34, h⟩ := guardO h
          obtain ⟨A35, c36, _, hr, H⟩ := Hp.appendRd (kd := kByte) (xs := []) (ys := a2) (H) 0 rfl (F.ev (x := .tmp 44) rfl) (F.ev (x := .tmp 45) rfl) Try.underlying35 ti5 rfl (by decide) (by decide) c34
          rw [List.nil_append] at hr H
          refine d1 7 rfl (by kernel_rfl) (qv F (hr _ _ _ _ _) fun a F => ?_)
          have HS := H.fx3.fx2.fx0
          refine kg _ HS (fun w S => S) ?_
          replace H := (H).freeze
          have HS := H.fx2.fx1
          refine dmoreH HS (fun w S => S.px0) ?_
          refine d1 8 rfl (by kernel_rfl) (lbs F H (e := 35) (vs := [(0, .slice A35 a2.length c36)]) (cs := [.slice A35 a2.length c36]) rfl (fun w => by kernel_rfl) fun g37 w a H F => ?_)
          have HS := H.fx3.fx2.fx0
          refine kg _ HS (fun w S => S) ?_
          obtain ⟨c38, h⟩ := guardO h
          obtain ⟨A39, c40, _, hr, H⟩ := Hp.appendCelL (kd := (kSlice kByte)) (xs := a0.B) (ys := [a2]) (H.f2.f2.f2.f3) (F.ev (x := .tmp 43) rfl) (F.ev (x := .tmp 47) rfl) Try.underlying26 ti35 rfl (by decide) (by decide) rfl ((SayL.cons (kd := (kSlice kByte)) (c1 := [.slice A35 a2.length c36]) (y := a2) (fun Z hp => ⟨A35, c36, rfl, pat hp 0 rfl⟩) SayL.nil)) c38
          refine d1 9 rfl (by kernel_rfl) (qv F (hr _ _ _ _ _) fun a F => ?_)
          have HS := H.fx2.fx0
          refine kg _ HS (fun w S => S) ?_
          refine dq 10 F rfl (by kernel_rfl) NP HS (fun w S => (r_nc (F.ev (x := .tmp 39) rfl))) fun a F => ?_
          refine dq 11 F rfl (by kernel_rfl) NP HS (fun w S => (r_fa (off := 1) (F.ev (x := .tmp 49) rfl) fa34_1)) fun a F => ?_
          obtain ⟨_, hr, H⟩ := Hp.store (t := 26) (o := 1) (n := 1) (vs := [.slice A39 ((a0.B ++ ([a2]))).length c40]) (cs' := [.slice A29 a0.A.length c30, .slice A39 ((a0.B ++ ([a2]))).length c40]) (H.f2.f1.f2) (F.ev (x := .tmp 50) rfl) (F.ev (x := .tmp 48) rfl) rfl sz26 rfl (Nat.le_of_ble_eq_true rfl) rfl rfl
          refine d1 12 rfl (by kernel_rfl) (qn F (.inl rfl) (hr _ _ _ _) fun a F => ?_)
          have HS := H.fx2.fx1
          refine kga (by kernel_rfl) HS ?_
          refine ddone (by kernel_rfl) ?_
          replace F := F.only [6] (l' := [(6, .bool false)]) rfl
          refine rg ?_
          refine as_ F (v := .bool true) rfl fun a F => ?_
          refine rgend ?_
          refine wp_ret ?_
          replace H := Hp.closeO_ref22_Lan (x := (⟨a0.A, (a0.B ++ ([a2]))⟩ : ref22_Lan)) (H.f1.f2.f2)
          try dsimp only at h
          cases h
          exact RET _ _ (ret1 F rfl rfl ⟨_, rfl, rfl, H.px1.px0⟩)
        · rw [if_neg c28] at h
          rw [Bool.eq_false_iff.2 c28] at F
          refine wp_cond_false (F.ev rfl) ?_
          refine wp_skip ?_
          refine rg ?_
          refine as_ F (v := .bool false) rfl fun a F => ?_
          refine rgend ?_
          replace F := F.only [6] (l' := [(6, .bool false)]) rfl
          refine wp_ret ?_
          try dsimp only at h
          cases h
          exact RET _ _ (ret1 F rfl rfl ⟨_, rfl, rfl, H.px0⟩)
def ref17_SameRows_b0 (a0 : List (List Int)) (a1 : List (List Int)) : Int → Option (Int ⊕ (Unit ⊕ Bool))
  | x2 => (if x2 < (a0.length : Int) then (if 0 ≤ x2 ∧ x2 < (a0.length : Int) then (if 0 ≤ x2 ∧ x2 < (a1.length : Int) then (if (a0.getD (x2 : Int).toNat []) ≠ (a1.getD (x2 : Int).toNat []) then some (.inr (.inr false)) else some (.inl (IntKind.i64.wrap (x2 + 1)))) else none) else none) else some (.inr (.inl ())))
def ref17_SameRows_f (a0 : List (List Int)) (a1 : List (List Int)) : Option (Bool) :=
  (if (a0.length : Int) ≠ (a1.length : Int) then some false else ((lp (ref17_SameRows_b0 a0 a1) 0).bind fun q => match q with | .inl _ => some true | .inr r => some r))
set_option maxHeartbeats 4000000 in
set_option maxRecDepth 20000 in
theorem ref17_SameRows_ok {w0 w : World} {ps : List PF} {fs : List SF} {a0 : List (List Int)} {A0_ : Option Addr} {c0_ : Nat} {a1 : List (List Int)} {A1_ : Option Addr} {c1_ : Nat} {r0 : Bool} (H : Hp w0 (rd (kSlice kByte) A0_ c0_ a0 :: rd (kSlice kByte) A1_ c1_ a1 :: ps) fs w) (h : ref17_SameRows_f a0 a1 = some r0) :
    Calls Try.prog 18 [.slice A0_ a0.length c0_, .slice A1_ a1.length c1_].toArray w fun e w' => ∃ v, e = .returned v ∧ v = .bool r0 ∧ Hp w0 ps fs w' := by
  refine enter [.slice A0_ a0.length c0_, .slice A1_ a1.length c1_] 28 Try.func18 fun Q a NP RET NRM F => ?_
  replace NP : ∀ c a w, ¬ Q (.panic c) a w := fun c a w h => by rcases NP c a w h with h | ⟨w, v, h, _⟩ <;> cases h
  unfold ref17_SameRows_f at h
  refine rg ?_
  refine as_ F (v := .bool false) rfl fun a F => ?_
  refine rgend ?_
  refine wp_seq ?_
  refine rg ?_
  refine mv F rfl fun a F => ?_
  refine ls (qv F (r_len (F.ev (x := .tmp 6) rfl) Try.underlying26) fun a F => ?_)
  refine mv F rfl fun a F => ?_
  refine ls (qv F (r_len (F.ev (x := .tmp 8) rfl) Try.underlying26) fun a F => ?_)
  refine ls (qv F (r_ne (F.ev (x := .tmp 7) rfl) (F.ev (x := .tmp 9) rfl)) fun a F => ?_)
  refine rgend ?_
  replace F := F.only [10, 4, 0, 1] (l' := [(10, .bool (decide ((a0.length : Int) ≠ (a1.length : Int)))), (4, .bool false), (0, .slice A0_ a0.length c0_), (1, .slice A1_ a1.length c1_)]) rfl
  by_cases c1 : (a0.length : Int) ≠ (a1.length : Int)
  · rw [if_pos c1] at h
    rw [decide_eq_true c1] at F
    refine wp_cond_true (F.ev rfl) ?_
    refine rg ?_
    refine as_ F (v := .bool false) rfl fun a F => ?_
    refine rgend ?_
    refine wp_ret ?_
    try dsimp only at h
    cases h
    exact RET _ _ (ret1 F rfl rfl ⟨_, rfl, rfl, H.px1.px0⟩)
  · rw [if_neg c1] at h
    rw [decide_eq_false c1] at F
    refine wp_cond_false (F.ev rfl) ?_
    refine wp_skip ?_
    refine wp_seq ?_
    refine rg ?_
    refine as_ F (v := .int .i64 0) rfl fun a F => ?_
    refine rgend ?_
    obtain ⟨o_2, k_2, h⟩ := Option.bind_eq_some_iff.1 h
    refine cut (fun a w => Sum.inl () = o_2 ∧ Fr 28 [] [(4, .bool false)] a ∧ Hp w0 ps fs w) (wp_block ?_) ?_
    · refine wloop (ref17_SameRows_b0 a0 a1) (fun (s : Int) a w => Fr 28 [] [(0, .slice A0_ a0.length c0_), (1, .slice A1_ a1.length c1_), (4, .bool false), (5, .int .i64 s)] a ∧ Hp w0 (rd (kSlice kByte) A0_ c0_ a0 :: rd (kSlice kByte) A1_ c1_ a1 :: ps) fs w) k_2 ⟨F.only [0, 1, 4, 5] rfl, H⟩ ?_
      rintro x2 a w q_2 j_2 u_2 ⟨F, H⟩
      unfold ref17_SameRows_b0 at j_2
      try dsimp only at j_2 F H
      refine wp_seq ?_
      refine rg ?_
      refine mv F rfl fun a F => ?_
      refine mv F rfl fun a F => ?_
      refine ls (qv F (r_len (F.ev (x := .tmp 12) rfl) Try.underlying26) fun a F => ?_)
      refine ls (qv F (r_lt (F.ev (x := .tmp 11) rfl) (F.ev (x := .tmp 13) rfl)) fun a F => ?_)
      refine rgend ?_
      by_cases c4 : x2 < (a0.length : Int)
      · rw [if_pos c4] at j_2
        rw [decide_eq_true c4] at F
        refine wp_cond_true (F.ev rfl) ?_
        refine wp_skip ?_
        refine wp_seq ?_
        refine wp_block ?_
        refine wp_seq ?_
        replace H := H.drew
        have HS := H
        refine dr (fun w => Hp w0 (rd (kSlice kByte) A0_ c0_ a0 :: rd (kSlice kByte) A1_ c1_ a1 :: ps) fs w) _ (by kernel_rfl) ?_ (n := 11)
        refine dq 0 F rfl (by kernel_rfl) NP HS (fun w S => (r_mv (F.ev (x := .tmp 0) rfl))) fun a F => ?_
        refine dq 1 F rfl (by kernel_rfl) NP HS (fun w S => (r_mv (F.ev (x := .tmp 5) rfl))) fun a F => ?_
        obtain ⟨c5, j_2⟩ := guardO j_2
        obtain ⟨g6, o7, s8, hr, H⟩ := H.ix [] 0 rfl (F.ev (x := .tmp 17) rfl) (F.ev (x := .tmp 18) rfl) Try.underlying26 sz35 (by decide) c5.1 c5.2
        obtain ⟨A9, c10, rfl, H⟩ := H.says_slice 1 rfl
        have HS := H
        refine dmoreH HS (fun w S => S.px2.px1.px0) ?_
        refine dq 2 F rfl (by kernel_rfl) NP HS (fun w S => (hr _ _ _ _ _ _)) fun a F => ?_
        refine dq 3 F rfl (by kernel_rfl) NP HS (fun w S => (r_ld (F.ev (x := .tmp 19) rfl) (range_cell (j := 0) (S.range 1 rfl) rfl) one35)) fun a F => ?_
        have hb11 := H.bytes 0 rfl
        refine dq 4 F rfl (by kernel_rfl) NP HS (fun w S => (S.str 0 rfl (F.ev (x := .tmp 20) rfl) Try.underlying35 Try.underlying5 Try.underlying9)) fun a F => ?_
        refine dq 5 F rfl (by kernel_rfl) NP HS (fun w S => (r_mv (F.ev (x := .tmp 1) rfl))) fun a F => ?_
        refine dq 6 F rfl (by kernel_rfl) NP HS (fun w S => (r_mv (F.ev (x := .tmp 5) rfl))) fun a F => ?_
        obtain ⟨c12, j_2⟩ := guardO j_2
        obtain ⟨g13, o14, s15, hr, H⟩ := H.ix [] 4 rfl (F.ev (x := .tmp 22) rfl) (F.ev (x := .tmp 23) rfl) Try.underlying26 sz35 (by decide) c12.1 c12.2
        obtain ⟨A16, c17, rfl, H⟩ := H.says_slice 1 rfl
        have HS := H
        refine dmoreH HS (fun w S => S.px2.px1.px0) ?_
        refine dq 7 F rfl (by kernel_rfl) NP HS (fun w S => (hr _ _ _ _ _ _)) fun a F => ?_
        refine dq 8 F rfl (by kernel_rfl) NP HS (fun w S => (r_ld (F.ev (x := .tmp 24) rfl) (range_cell (j := 0) (S.range 1 rfl) rfl) one35)) fun a F => ?_
        have hb18 := H.bytes 0 rfl
        refine dq 9 F rfl (by kernel_rfl) NP HS (fun w S => (S.str 0 rfl (F.ev (x := .tmp 25) rfl) Try.underlying35 Try.underlying5 Try.underlying9)) fun a F => ?_
        refine dq 10 F rfl (by kernel_rfl) NP HS (fun w S => (r_sne (F.ev (x := .tmp 21) rfl) (F.ev (x := .tmp 26) rfl) hb11 hb18)) fun a F => ?_
        refine ddone (by kernel_rfl) ?_
        by_cases c19 : (a0.getD (x2 : Int).toNat []) ≠ (a1.getD (x2 : Int).toNat [])
        · rw [if_pos c19] at j_2
          rw [decide_eq_true c19] at F
          refine wp_cond_true (F.ev rfl) ?_
          refine rg ?_
          refine as_ F (v := .bool false) rfl fun a F => ?_
          refine rgend ?_
          refine wp_ret ?_
          try dsimp only at j_2
          cases j_2
          cases u_2 _ rfl
          try dsimp only at h
          cases h
          exact RET _ _ (ret1 F rfl rfl ⟨_, rfl, rfl, H.px7.px6.px5.px4.px3.px2.px1.px0⟩)
        · rw [if_neg c19] at j_2
          rw [decide_eq_false c19] at F
          refine wp_cond_false (F.ev rfl) ?_
          refine wp_skip ?_
          refine wp_region_lit ?_
          refine mv F rfl fun a F => ?_
          refine ls (qv F (r_add (F.ev (x := .tmp 15) rfl) (F.ev (x := .const (.int .i64 1)) rfl)) fun a F => ?_)
          refine as_ F rfl fun a F => ?_
          refine wpList_nil ?_
          try dsimp only at j_2
          cases j_2
          exact ⟨_, rfl, F.only [0, 1, 4, 5] rfl, H.px5.px4.px3.px2.px1.px0⟩
      · rw [if_neg c4] at j_2
        rw [decide_eq_false c4] at F
        refine wp_cond_false (F.ev rfl) ?_
        refine wp_exit ?_
        try dsimp only at j_2
        cases j_2
        cases u_2 _ rfl
        repeat (with_reducible refine exT ?_)
        with_reducible refine exB ?_
        exact ⟨rfl, F.only [4] rfl, H.px1.px0⟩
    · rintro a w ⟨rfl, F, H⟩
      try dsimp only at h F H
      refine rg ?_
      refine as_ F (v := .bool true) rfl fun a F => ?_
      refine rgend ?_
      refine wp_ret ?_
      try dsimp only at h
      cases h
      exact RET _ _ (ret1 F rfl rfl ⟨_, rfl, rfl, H⟩)
def law22_great_b0 (a0 : List law22_Op) : (Int × Int) → Option (Int × Int ⊕ Int)
  | (x1, x2) => ((if x2 < (a0.length : Int) then some (true, decide (x1 < 9000)) else some (false, false)).bind fun (x5, x6) => (if x6 = true then (if 0 ≤ x2 ∧ x2 < (a0.length : Int) then some (.inl (IntKind.i64.wrap (x1 + (min (((a0.getD (x2 : Int).toNat (⟨0, 0, 0, []⟩ : law22_Op)).B).length : Int) 9000)), IntKind.i64.wrap (x2 + 1))) else none) else some (.inr x1)))
def law22_great_f (a0 : List law22_Op) : Option (Bool) :=
  ((lp (law22_great_b0 a0) ((a0.length : Int), 0)).bind fun x3 => ((if x3 ≥ 9000 then some true else some ((decide ((a0.length : Int) > 200)))).bind fun x16 => some x16))
set_option maxHeartbeats 4000000 in
set_option maxRecDepth 20000 in
theorem law22_great_ok {w0 w : World} {ps : List PF} {fs : List SF} {a0 : List law22_Op} {A0_ : Option Addr} {c0_ : Nat} {r0 : Bool} (H : Hp w0 (rd k_law22_Op A0_ c0_ a0 :: ps) fs w) (h : law22_great_f a0 = some r0) :
    Calls Try.prog 9 [.slice A0_ a0.length c0_].toArray w fun e w' => ∃ v, e = .returned v ∧ v = .bool r0 ∧ Hp w0 ps fs w' := by
  refine enter [.slice A0_ a0.length c0_] 33 Try.func9 fun Q a NP RET NRM F => ?_
  replace NP : ∀ c a w, ¬ Q (.panic c) a w := fun c a w h => by rcases NP c a w h with h | ⟨w, v, h, _⟩ <;> cases h
  unfold law22_great_f at h
  refine rg ?_
  refine as_ F (v := .bool false) rfl fun a F => ?_
  refine rgend ?_
  refine rg ?_
  refine mv F rfl fun a F => ?_
  refine ls (qv F (r_len (F.ev (x := .tmp 5) rfl) Try.underlying22) fun a F => ?_)
  refine as_ F rfl fun a F => ?_
  refine rgend ?_
  refine wp_seq ?_
  refine rg ?_
  refine as_ F (v := .int .i64 0) rfl fun a F => ?_
  refine rgend ?_
  obtain ⟨o_3, k_3, h⟩ := Option.bind_eq_some_iff.1 h
  refine cut (fun a w => ∃ (x3 : Int), x3 = o_3 ∧ Fr 33 [] [(0, .slice A0_ a0.length c0_), (2, .bool false), (3, .int .i64 x3)] a ∧ Hp w0 (rd k_law22_Op A0_ c0_ a0 :: ps) fs w) (wp_block ?_) ?_
  · refine wloop (law22_great_b0 a0) (fun (s : Int × Int) a w => Fr 33 [] [(0, .slice A0_ a0.length c0_), (2, .bool false), (3, .int .i64 s.1), (4, .int .i64 s.2)] a ∧ Hp w0 (rd k_law22_Op A0_ c0_ a0 :: ps) fs w) k_3 ⟨F.only [0, 2, 3, 4] rfl, H⟩ ?_
    rintro ⟨x1, x2⟩ a w q_3 j_3 u_3 ⟨F, H⟩
    unfold law22_great_b0 at j_3
    try dsimp only at j_3 F H
    refine wp_seq ?_
    refine wp_seq ?_
    obtain ⟨o_6, k_6, j_3⟩ := Option.bind_eq_some_iff.1 j_3
    refine cut (fun a w => ∃ (x5 : Bool) (x6 : Bool), (x5, x6) = o_6 ∧ Fr 33 [] [(0, .slice A0_ a0.length c0_), (2, .bool false), (3, .int .i64 x1), (4, .int .i64 x2), (7, .int .i64 x2), (8, .slice A0_ a0.length c0_), (9, .int .i64 (a0.length : Int)), (10, .bool x5), (11, .bool x5), (14, .bool x6)] a ∧ Hp w0 (rd k_law22_Op A0_ c0_ a0 :: ps) fs w) ?_ ?_
    · skip
      refine wp_region_lit ?_
      refine mv F rfl fun a F => ?_
      refine mv F rfl fun a F => ?_
      refine ls (qv F (r_len (F.ev (x := .tmp 8) rfl) Try.underlying22) fun a F => ?_)
      refine ls (qv F (r_lt (F.ev (x := .tmp 7) rfl) (F.ev (x := .tmp 9) rfl)) fun a F => ?_)
      refine mv F rfl fun a F => ?_
      by_cases c8 : x2 < (a0.length : Int)
      · rw [if_pos c8] at k_6
        rw [decide_eq_true c8] at F
        refine mv F rfl fun a F => ?_
        refine ls (qv F (r_lt (F.ev (x := .tmp 12) rfl) (F.ev (x := .const (.int .i64 9000)) rfl)) fun a F => ?_)
        refine ls (qv F (r_pickT (F.ev (x := .tmp 11) rfl) (F.ev (x := .tmp 13) rfl)) fun a F => ?_)
        refine wpList_nil ?_
        try dsimp only at k_6
        cases k_6
        exact ⟨_, _, rfl, F.only [0, 2, 3, 4, 7, 8, 9, 10, 11, 14] rfl, H⟩
      · rw [if_neg c8] at k_6
        rw [decide_eq_false c8] at F
        refine ls (off F fun a F => ?_)
        refine ls (off F fun a F => ?_)
        refine ls (qv F (r_pickF (F.ev (x := .tmp 11) rfl) (F.ev (x := .const (.bool false)) rfl)) fun a F => ?_)
        refine wpList_nil ?_
        try dsimp only at k_6
        cases k_6
        exact ⟨_, _, rfl, F.only [0, 2, 3, 4, 7, 8, 9, 10, 11, 14] rfl, H⟩
    · rintro a w ⟨x5, x6, rfl, F, H⟩
      try dsimp only at j_3 F H
      by_cases c9 : x6 = true
      · rw [if_pos c9] at j_3
        rw [c9] at F
        refine wp_cond_true (F.ev rfl) ?_
        refine wp_skip ?_
        refine wp_seq ?_
        refine wp_block ?_
        refine wp_region_lit ?_
        refine mv F rfl fun a F => ?_
        refine mv F rfl fun a F => ?_
        refine mv F rfl fun a F => ?_
        obtain ⟨c10, j_3⟩ := guardO j_3
        obtain ⟨g11, o12, s13, hr, H⟩ := H.ix (⟨0, 0, 0, []⟩ : law22_Op) 0 rfl (F.ev (x := .tmp 18) rfl) (F.ev (x := .tmp 19) rfl) Try.underlying22 sz37 (by decide) c10.1 c10.2
        obtain ⟨A14, c15, rfl, H⟩ := H.open_law22_Op 1 rfl
        refine ls (qv F (hr _ _ _ _ _ _) fun a F => ?_)
        refine ls (qv F (r_fa (off := 3) (F.ev (x := .tmp 20) rfl) fa37_3) fun a F => ?_)
        refine ls (qv F (r_ld (F.ev (x := .tmp 21) rfl) (range_cell (j := 3) (H.range 1 rfl) rfl) one35) fun a F => ?_)
        refine ls (qv F (r_len (F.ev (x := .tmp 22) rfl) Try.underlying35) fun a F => ?_)
        refine ls (qv F (r_min (F.ev (x := .tmp 23) rfl) (F.ev (x := .const (.int .i64 9000)) rfl)) fun a F => ?_)
        refine ls (qv F (r_add (F.ev (x := .tmp 17) rfl) (F.ev (x := .tmp 24) rfl)) fun a F => ?_)
        refine as_ F rfl fun a F => ?_
        refine wpList_nil ?_
        refine wp_region_lit ?_
        refine mv F rfl fun a F => ?_
        refine ls (qv F (r_add (F.ev (x := .tmp 15) rfl) (F.ev (x := .const (.int .i64 1)) rfl)) fun a F => ?_)
        refine as_ F rfl fun a F => ?_
        refine wpList_nil ?_
        try dsimp only at j_3
        cases j_3
        exact ⟨_, rfl, F.only [0, 2, 3, 4] rfl, H.px2.px1.px0⟩
      · rw [if_neg c9] at j_3
        rw [Bool.eq_false_iff.2 c9] at F
        refine wp_cond_false (F.ev rfl) ?_
        refine wp_exit ?_
        try dsimp only at j_3
        cases j_3
        cases u_3 _ rfl
        repeat (with_reducible refine exT ?_)
        with_reducible refine exB ?_
        exact ⟨_, rfl, F.only [0, 2, 3] rfl, H⟩
  · rintro a w ⟨x3, rfl, F, H⟩
    try dsimp only at h F H
    refine wp_seq ?_
    obtain ⟨o_16, k_16, h⟩ := Option.bind_eq_some_iff.1 h
    refine cut (fun a w => ∃ (x16 : Bool), x16 = o_16 ∧ Fr 33 [] [(2, .bool x16)] a ∧ Hp w0 ps fs w) ?_ ?_
    · skip
      refine wp_region_lit ?_
      refine mv F rfl fun a F => ?_
      refine ls (qv F (r_ge (F.ev (x := .tmp 26) rfl) (F.ev (x := .const (.int .i64 9000)) rfl)) fun a F => ?_)
      refine mv F rfl fun a F => ?_
      by_cases c18 : x3 ≥ 9000
      · rw [if_pos c18] at k_16
        rw [decide_eq_true c18] at F
        refine ls (off F fun a F => ?_)
        refine ls (off F fun a F => ?_)
        refine ls (off F fun a F => ?_)
        refine ls (qv F (r_pickT (F.ev (x := .tmp 28) rfl) (F.ev (x := .const (.bool true)) rfl)) fun a F => ?_)
        refine as_ F rfl fun a F => ?_
        refine wpList_nil ?_
        replace F := F.only [2] (l' := [(2, .bool true)]) rfl
        try dsimp only at k_16
        cases k_16
        exact ⟨_, rfl, F.only [2] rfl, H.px0⟩
      · rw [if_neg c18] at k_16
        rw [decide_eq_false c18] at F
        refine mv F rfl fun a F => ?_
        refine ls (qv F (r_len (F.ev (x := .tmp 29) rfl) Try.underlying22) fun a F => ?_)
        refine ls (qv F (r_gt (F.ev (x := .tmp 30) rfl) (F.ev (x := .const (.int .i64 200)) rfl)) fun a F => ?_)
        refine ls (qv F (r_pickF (F.ev (x := .tmp 28) rfl) (F.ev (x := .tmp 31) rfl)) fun a F => ?_)
        refine as_ F rfl fun a F => ?_
        refine wpList_nil ?_
        replace F := F.only [2] (l' := [(2, .bool (decide ((a0.length : Int) > 200)))]) rfl
        try dsimp only at k_16
        cases k_16
        exact ⟨_, rfl, F.only [2] rfl, H.px0⟩
    · rintro a w ⟨x16, rfl, F, H⟩
      try dsimp only at h F H
      refine wp_ret ?_
      try dsimp only at h
      cases h
      exact RET _ _ (ret1 F rfl rfl ⟨_, rfl, rfl, H⟩)
def lan_Lan_way_f (a0 : lan_Lan) (a1 : Int) : Option (Option Nat) :=
  (if a1 < 0 then some none else (if a1 ≥ 2 then some none else (if a1 = 0 then some (some 0) else (if a1 = 1 then some (some 1) else none))))
set_option maxHeartbeats 4000000 in
set_option maxRecDepth 20000 in
theorem lan_Lan_way_ok {w0 w : World} {ps : List PF} {fs : List SF} {a0 : lan_Lan} {g0_ : Nat} {a1 : Int} {r0 : Option Nat} (H : Hp w0 ps (obj_lan_Lan g0_ a0 :: fs) w) (h : lan_Lan_way_f a0 a1 = some r0) :
    Calls Try.prog 21 [.pointer (some ⟨g0_, 0, none⟩), .int .i64 a1].toArray w fun e w' => ∃ v, e = .returned v ∧ (match r0 with | none => v = .pointer none ∧ Hp w0 ps (obj_lan_Lan g0_ a0 :: fs) w' | some j => v = .pointer (some ⟨g0_, j, none⟩) ∧ Hp w0 ps (obj_lan_Lan g0_ a0 :: fs) w') := by
  refine enter [.pointer (some ⟨g0_, 0, none⟩), .int .i64 a1] 16 Try.func21 fun Q a NP RET NRM F => ?_
  replace NP : ∀ c a w, ¬ Q (.panic c) a w := fun c a w h => by rcases NP c a w h with h | ⟨w, v, h, _⟩ <;> cases h
  unfold lan_Lan_way_f at h
  refine rg ?_
  refine as_ F (v := .pointer none) rfl fun a F => ?_
  refine rgend ?_
  refine wp_seq ?_
  refine rg ?_
  refine mv F rfl fun a F => ?_
  refine ls (qv F (r_lt (F.ev (x := .tmp 5) rfl) (F.ev (x := .const (.int .i64 0)) rfl)) fun a F => ?_)
  refine mv F rfl fun a F => ?_
  by_cases c1 : a1 < 0
  · rw [if_pos c1] at h
    rw [decide_eq_true c1] at F
    refine ls (off F fun a F => ?_)
    refine ls (off F fun a F => ?_)
    refine ls (qv F (r_pickT (F.ev (x := .tmp 7) rfl) (F.ev (x := .const (.bool true)) rfl)) fun a F => ?_)
    refine rgend ?_
    replace F := F.only [10, 4, 0, 1] (l' := [(10, .bool true), (4, .pointer none), (0, .pointer (some ⟨g0_, 0, none⟩)), (1, .int .i64 a1)]) rfl
    refine wp_cond_true (F.ev rfl) ?_
    refine rg ?_
    refine as_ F (v := .pointer none) rfl fun a F => ?_
    refine rgend ?_
    refine wp_ret ?_
    try dsimp only at h
    cases h
    exact RET _ _ (ret1 F rfl rfl ⟨_, rfl, rfl, H⟩)
  · rw [if_neg c1] at h
    rw [decide_eq_false c1] at F
    refine mv F rfl fun a F => ?_
    refine ls (qv F (r_ge (F.ev (x := .tmp 8) rfl) (F.ev (x := .const (.int .i64 2)) rfl)) fun a F => ?_)
    refine ls (qv F (r_pickF (F.ev (x := .tmp 7) rfl) (F.ev (x := .tmp 9) rfl)) fun a F => ?_)
    refine rgend ?_
    replace F := F.only [10, 4, 0, 1] (l' := [(10, .bool (decide (a1 ≥ 2))), (4, .pointer none), (0, .pointer (some ⟨g0_, 0, none⟩)), (1, .int .i64 a1)]) rfl
    by_cases c2 : a1 ≥ 2
    · rw [if_pos c2] at h
      rw [decide_eq_true c2] at F
      refine wp_cond_true (F.ev rfl) ?_
      refine rg ?_
      refine as_ F (v := .pointer none) rfl fun a F => ?_
      refine rgend ?_
      refine wp_ret ?_
      try dsimp only at h
      cases h
      exact RET _ _ (ret1 F rfl rfl ⟨_, rfl, rfl, H⟩)
    · rw [if_neg c2] at h
      rw [decide_eq_false c2] at F
      refine wp_cond_false (F.ev rfl) ?_
      refine wp_skip ?_
      refine rg ?_
      refine mv F rfl fun a F => ?_
      refine mv F rfl fun a F => ?_
      refine ls (qv F (r_nc (F.ev (x := .tmp 11) rfl)) fun a F => ?_)
      refine ls (qv F (r_fa (off := 0) (F.ev (x := .tmp 13) rfl) fa31_0) fun a F => ?_)
      by_cases c3 : a1 = 0
      · rw [if_pos c3] at h
        rw [c3] at F
        refine ls (qv F (r_ixa (F.ev (x := .tmp 14) rfl) (F.ev (x := .tmp 12) rfl) Try.underlying29 sz28 (by decide) (by decide)) fun a F => ?_)
        refine as_ F rfl fun a F => ?_
        refine rgend ?_
        replace F := F.only [4] (l' := [(4, .pointer (some ⟨g0_, 0, none⟩))]) rfl
        refine wp_ret ?_
        try dsimp only at h
        cases h
        exact RET _ _ (ret1 F rfl rfl ⟨_, rfl, rfl, H⟩)
      rw [if_neg c3] at h
      by_cases c4 : a1 = 1
      · rw [if_pos c4] at h
        rw [c4] at F
        refine ls (qv F (r_ixa (F.ev (x := .tmp 14) rfl) (F.ev (x := .tmp 12) rfl) Try.underlying29 sz28 (by decide) (by decide)) fun a F => ?_)
        refine as_ F rfl fun a F => ?_
        refine rgend ?_
        replace F := F.only [4] (l' := [(4, .pointer (some ⟨g0_, 1, none⟩))]) rfl
        refine wp_ret ?_
        try dsimp only at h
        cases h
        exact RET _ _ (ret1 F rfl rfl ⟨_, rfl, rfl, H⟩)
      rw [if_neg c4] at h
      cases h
def slices_Clone_f (a0 : List Int) : Option (List Int) :=
  (if (0 + a0.length) * 1 ≤ 140737488355328 then some a0 else none)
set_option maxHeartbeats 4000000 in
set_option maxRecDepth 20000 in
theorem slices_Clone_ok {w0 w : World} {ps : List PF} {fs : List SF} {a0 : List Int} {A0_ : Option Addr} {c0_ : Nat} {r0 : List Int} (H : Hp w0 (rd kByte A0_ c0_ a0 :: ps) fs w) (h : slices_Clone_f a0 = some r0) :
    Calls Try.prog 23 [.slice A0_ a0.length c0_].toArray w fun e w' => ∃ v, e = .returned v ∧ ∃ (A0 : Option Addr) (c0 : Nat), v = .slice A0 r0.length c0 ∧ Hp w0 ps (own kByte 5 A0 c0 r0 :: fs) w' := by
  refine enter [.slice A0_ a0.length c0_] 8 Try.func23 fun Q a NP RET NRM F => ?_
  replace NP : ∀ c a w, ¬ Q (.panic c) a w := fun c a w h => by rcases NP c a w h with h | ⟨w, v, h, _⟩ <;> cases h
  unfold slices_Clone_f at h
  refine rg ?_
  refine as_ F (v := .slice none 0 0) rfl fun a F => ?_
  refine rgend ?_
  refine wp_seq ?_
  refine rg ?_
  refine mv F rfl fun a F => ?_
  rcases A0_ with _ | A1
  · skip
    obtain rfl := H.rdnil 0 rfl
    try (obtain ⟨_, h⟩ := guardO h)
    refine ls (qv F (r_snil (F.ev (x := .tmp 3) rfl) (F.ev (x := .const (.slice none 0 0)) rfl) Try.underlying35) fun a F => ?_)
    refine rgend ?_
    refine wp_cond_true (F.ev rfl) ?_
    refine rg ?_
    refine as_ F (v := .slice none 0 0) rfl fun a F => ?_
    refine rgend ?_
    refine wp_ret ?_
    replace H := H.nilOwn kByte 5
    try dsimp only at h
    cases h
    exact RET _ _ (ret1 F rfl rfl ⟨_, rfl, none, 0, rfl, H.px0⟩)
  · skip
    refine ls (qv F (r_snil (F.ev (x := .tmp 3) rfl) (F.ev (x := .const (.slice none 0 0)) rfl) Try.underlying35) fun a F => ?_)
    refine rgend ?_
    refine wp_cond_false (F.ev rfl) ?_
    refine wp_skip ?_
    refine rg ?_
    refine ls (lbs F H (e := 5) (vs := []) (cs := []) rfl (fun w => by kernel_rfl) fun g2 w a H F => ?_)
    refine mv F rfl fun a F => ?_
    replace H := Hp.litOwn (kd := kByte) (xs := []) (H) (SayL.nil) (Nat.le_of_ble_eq_true rfl)
    obtain ⟨c3, h⟩ := guardO h
    obtain ⟨A4, c5, _, hr, H⟩ := Hp.appendRd (kd := kByte) (xs := []) (ys := a0) (H) 0 rfl (F.ev (x := .tmp 5) rfl) (F.ev (x := .tmp 6) rfl) Try.underlying35 ti5 rfl (by decide) (by decide) c3
    rw [List.nil_append] at hr H
    refine ls (qv F (hr _ _ _ _ _) fun a F => ?_)
    refine as_ F rfl fun a F => ?_
    refine rgend ?_
    replace F := F.only [2] (l' := [(2, .slice A4 a0.length c5)]) rfl
    refine wp_ret ?_
    try dsimp only at h
    cases h
    exact RET _ _ (ret1 F rfl rfl ⟨_, rfl, A4, c5, rfl, H.px0⟩)
def slices_Clone_bor_f (a0 : List Int) : Option (List Int) :=
  (if (0 + a0.length) * 1 ≤ 140737488355328 then some a0 else none)
set_option maxHeartbeats 4000000 in
set_option maxRecDepth 20000 in
theorem slices_Clone_bor_ok {w0 w : World} {ps : List PF} {fs : List SF} {a0 : List Int} {A0_ : Option Addr} {c0_ : Nat} {r0 : List Int} (H : Hp w0 ps (own kByte 5 A0_ c0_ a0 :: fs) w) (h : slices_Clone_bor_f a0 = some r0) :
    Calls Try.prog 23 [.slice A0_ a0.length c0_].toArray w fun e w' => ∃ v, e = .returned v ∧ ∃ (A0 : Option Addr) (c0 : Nat), v = .slice A0 r0.length c0 ∧ Hp w0 ps (own kByte 5 A0 c0 r0 :: own kByte 5 A0_ c0_ a0 :: fs) w' := by
  refine enter [.slice A0_ a0.length c0_] 8 Try.func23 fun Q a NP RET NRM F => ?_
  replace NP : ∀ c a w, ¬ Q (.panic c) a w := fun c a w h => by rcases NP c a w h with h | ⟨w, v, h, _⟩ <;> cases h
  unfold slices_Clone_bor_f at h
  refine rg ?_
  refine as_ F (v := .slice none 0 0) rfl fun a F => ?_
  refine rgend ?_
  refine wp_seq ?_
  refine rg ?_
  refine mv F rfl fun a F => ?_
  rcases A0_ with _ | A1
  · skip
    obtain rfl := H.ownnil 0 rfl
    try (obtain ⟨_, h⟩ := guardO h)
    refine ls (qv F (r_snil (F.ev (x := .tmp 3) rfl) (F.ev (x := .const (.slice none 0 0)) rfl) Try.underlying35) fun a F => ?_)
    refine rgend ?_
    refine wp_cond_true (F.ev rfl) ?_
    refine rg ?_
    refine as_ F (v := .slice none 0 0) rfl fun a F => ?_
    refine rgend ?_
    refine wp_ret ?_
    replace H := H.nilOwn kByte 5
    try dsimp only at h
    cases h
    exact RET _ _ (ret1 F rfl rfl ⟨_, rfl, none, 0, rfl, H⟩)
  · skip
    refine ls (qv F (r_snil (F.ev (x := .tmp 3) rfl) (F.ev (x := .const (.slice none 0 0)) rfl) Try.underlying35) fun a F => ?_)
    refine rgend ?_
    refine wp_cond_false (F.ev rfl) ?_
    refine wp_skip ?_
    refine rg ?_
    refine ls (lbs F H (e := 5) (vs := []) (cs := []) rfl (fun w => by kernel_rfl) fun g2 w a H F => ?_)
    refine mv F rfl fun a F => ?_
    replace H := Hp.litOwn (kd := kByte) (xs := []) (H) (SayL.nil) (Nat.le_of_ble_eq_true rfl)
    obtain ⟨c3, h⟩ := guardO h
    obtain ⟨A4, c5, _, hr, H⟩ := Hp.appendOwn (xs := []) (ys := a0) (H) (F.ev (x := .tmp 5) rfl) (F.ev (x := .tmp 6) rfl) Try.underlying35 ti5 rfl (by decide) c3
    rw [List.nil_append] at hr H
    refine ls (qv F (hr _ _ _ _ _) fun a F => ?_)
    refine as_ F rfl fun a F => ?_
    refine rgend ?_
    replace F := F.only [2] (l' := [(2, .slice A4 a0.length c5)]) rfl
    refine wp_ret ?_
    try dsimp only at h
    cases h
    exact RET _ _ (ret1 F rfl rfl ⟨_, rfl, A4, c5, rfl, H⟩)
def lan_row_put_0_f (a0 : lan_Lan) (a1 : List Int) : Option (Bool × lan_Lan) :=
  (if (a0.ways.1.l.length : Int) ≥ 2048 then some (false, a0) else (if (a0.ways.1.l.length + 1) * 24 ≤ 140737488355328 then some ((true, (⟨(⟨(a0.ways.1.l ++ ([a1]))⟩, a0.ways.2)⟩ : lan_Lan))) else none))
set_option maxHeartbeats 4000000 in
set_option maxRecDepth 20000 in
theorem lan_row_put_0_ok {w0 w : World} {ps : List PF} {fs : List SF} {a0 : lan_Lan} {g0_ : Nat} {a1 : List Int} {A1_ : Option Addr} {c1_ : Nat} {r0 : Bool} {s0 : lan_Lan} (H : Hp w0 (rd kByte A1_ c1_ a1 :: ps) (obj_lan_Lan g0_ a0 :: fs) w) (h : lan_row_put_0_f a0 a1 = some (r0, s0)) :
    Calls Try.prog 22 [.pointer (some ⟨g0_, 0, none⟩), .slice A1_ a1.length c1_].toArray w fun e w' => ∃ v, e = .returned v ∧ v = .bool r0 ∧ Hp w0 ps (obj_lan_Lan g0_ s0 :: fs) w' := by
  refine enter [.pointer (some ⟨g0_, 0, none⟩), .slice A1_ a1.length c1_] 21 Try.func22 fun Q a NP RET NRM F => ?_
  replace NP : ∀ c a w, ¬ Q (.panic c) a w := fun c a w h => by rcases NP c a w h with h | ⟨w, v, h, _⟩ <;> cases h
  unfold lan_row_put_0_f at h
  refine rg ?_
  refine as_ F (v := .bool false) rfl fun a F => ?_
  refine rgend ?_
  refine wp_seq ?_
  refine rg ?_
  refine mv F rfl fun a F => ?_
  refine ls (qv F (r_nc (F.ev (x := .tmp 5) rfl)) fun a F => ?_)
  refine ls (qv F (r_fa (off := 0) (F.ev (x := .tmp 6) rfl) fa28_0) fun a F => ?_)
  obtain ⟨A1, c2, A3, c4, H⟩ := Hp.openO_lan_Lan (H)
  refine ls (qv F (r_ld (F.ev (x := .tmp 7) rfl) (cel_cell (o := 0) (H.cell 0 rfl) rfl) one26) fun a F => ?_)
  refine ls (qv F (r_len (F.ev (x := .tmp 8) rfl) Try.underlying26) fun a F => ?_)
  refine ls (qv F (r_ge (F.ev (x := .tmp 9) rfl) (F.ev (x := .const (.int .i64 2048)) rfl)) fun a F => ?_)
  refine rgend ?_
  replace F := F.only [10, 4, 0, 1] (l' := [(10, .bool (decide ((a0.ways.1.l.length : Int) ≥ 2048))), (4, .bool false), (0, .pointer (some ⟨g0_, 0, none⟩)), (1, .slice A1_ a1.length c1_)]) rfl
  by_cases c5 : (a0.ways.1.l.length : Int) ≥ 2048
  · rw [if_pos c5] at h
    rw [decide_eq_true c5] at F
    refine wp_cond_true (F.ev rfl) ?_
    refine rg ?_
    refine as_ F (v := .bool false) rfl fun a F => ?_
    refine rgend ?_
    refine wp_ret ?_
    replace H := Hp.closeO_lan_Lan (x := a0) (H)
    try dsimp only at h
    cases h
    exact RET _ _ (ret1 F rfl rfl ⟨_, rfl, rfl, H.px0⟩)
  · rw [if_neg c5] at h
    rw [decide_eq_false c5] at F
    refine wp_cond_false (F.ev rfl) ?_
    refine wp_skip ?_
    refine rg ?_
    refine mv F rfl fun a F => ?_
    refine mv F rfl fun a F => ?_
    refine ls (qv F (r_nc (F.ev (x := .tmp 12) rfl)) fun a F => ?_)
    refine ls (qv F (r_fa (off := 0) (F.ev (x := .tmp 13) rfl) fa28_0) fun a F => ?_)
    refine ls (qv F (r_ld (F.ev (x := .tmp 14) rfl) (cel_cell (o := 0) (H.cell 0 rfl) rfl) one26) fun a F => ?_)
    refine mv F rfl fun a F => ?_
    refine ls (lbs F H (e := 35) (vs := [(0, .slice A1_ a1.length c1_)]) (cs := [.slice A1_ a1.length c1_]) rfl (fun w => by kernel_rfl) fun g6 w a H F => ?_)
    obtain ⟨c7, h⟩ := guardO h
    obtain ⟨A8, c9, _, hr, H⟩ := Hp.appendCelL (kd := (kSlice kByte)) (xs := a0.ways.1.l) (ys := [a1]) (H.f3.f2.f2.f3) (F.ev (x := .tmp 15) rfl) (F.ev (x := .tmp 17) rfl) Try.underlying26 ti35 rfl (by decide) (by decide) rfl ((SayL.cons (kd := (kSlice kByte)) (c1 := [.slice A1_ a1.length c1_]) (y := a1) (fun Z hp => ⟨A1_, c1_, rfl, pat hp 0 rfl⟩) SayL.nil)) c7
    refine ls (qv F (hr _ _ _ _ _) fun a F => ?_)
    refine ls (qv F (r_nc (F.ev (x := .tmp 11) rfl)) fun a F => ?_)
    refine ls (qv F (r_fa (off := 0) (F.ev (x := .tmp 19) rfl) fa28_0) fun a F => ?_)
    obtain ⟨_, hr, H⟩ := Hp.store (t := 26) (o := 0) (n := 1) (vs := [.slice A8 ((a0.ways.1.l ++ ([a1]))).length c9]) (cs' := [.slice A8 ((a0.ways.1.l ++ ([a1]))).length c9, .slice A3 a0.ways.2.l.length c4]) (H.f2.f1.f2) (F.ev (x := .tmp 20) rfl) (F.ev (x := .tmp 18) rfl) rfl sz26 rfl (Nat.le_of_ble_eq_true rfl) rfl rfl
    refine ls (qn F (.inl rfl) (hr _ _ _ _) fun a F => ?_)
    refine rgend ?_
    replace F := F.only [4] (l' := [(4, .bool false)]) rfl
    refine rg ?_
    refine as_ F (v := .bool true) rfl fun a F => ?_
    refine rgend ?_
    refine wp_ret ?_
    replace H := Hp.closeO_lan_Lan (x := (⟨(⟨(a0.ways.1.l ++ ([a1]))⟩, a0.ways.2)⟩ : lan_Lan)) (H)
    try dsimp only at h
    cases h
    exact RET _ _ (ret1 F rfl rfl ⟨_, rfl, rfl, H.px0⟩)
def lan_row_put_1_f (a0 : lan_Lan) (a1 : List Int) : Option (Bool × lan_Lan) :=
  (if (a0.ways.2.l.length : Int) ≥ 2048 then some (false, a0) else (if (a0.ways.2.l.length + 1) * 24 ≤ 140737488355328 then some ((true, (⟨(a0.ways.1, ⟨(a0.ways.2.l ++ ([a1]))⟩)⟩ : lan_Lan))) else none))
set_option maxHeartbeats 4000000 in
set_option maxRecDepth 20000 in
theorem lan_row_put_1_ok {w0 w : World} {ps : List PF} {fs : List SF} {a0 : lan_Lan} {g0_ : Nat} {a1 : List Int} {A1_ : Option Addr} {c1_ : Nat} {r0 : Bool} {s0 : lan_Lan} (H : Hp w0 (rd kByte A1_ c1_ a1 :: ps) (obj_lan_Lan g0_ a0 :: fs) w) (h : lan_row_put_1_f a0 a1 = some (r0, s0)) :
    Calls Try.prog 22 [.pointer (some ⟨g0_, 1, none⟩), .slice A1_ a1.length c1_].toArray w fun e w' => ∃ v, e = .returned v ∧ v = .bool r0 ∧ Hp w0 ps (obj_lan_Lan g0_ s0 :: fs) w' := by
  refine enter [.pointer (some ⟨g0_, 1, none⟩), .slice A1_ a1.length c1_] 21 Try.func22 fun Q a NP RET NRM F => ?_
  replace NP : ∀ c a w, ¬ Q (.panic c) a w := fun c a w h => by rcases NP c a w h with h | ⟨w, v, h, _⟩ <;> cases h
  unfold lan_row_put_1_f at h
  refine rg ?_
  refine as_ F (v := .bool false) rfl fun a F => ?_
  refine rgend ?_
  refine wp_seq ?_
  refine rg ?_
  refine mv F rfl fun a F => ?_
  refine ls (qv F (r_nc (F.ev (x := .tmp 5) rfl)) fun a F => ?_)
  refine ls (qv F (r_fa (off := 0) (F.ev (x := .tmp 6) rfl) fa28_0) fun a F => ?_)
  obtain ⟨A1, c2, A3, c4, H⟩ := Hp.openO_lan_Lan (H)
  refine ls (qv F (r_ld (F.ev (x := .tmp 7) rfl) (cel_cell (o := 1) (H.cell 0 rfl) rfl) one26) fun a F => ?_)
  refine ls (qv F (r_len (F.ev (x := .tmp 8) rfl) Try.underlying26) fun a F => ?_)
  refine ls (qv F (r_ge (F.ev (x := .tmp 9) rfl) (F.ev (x := .const (.int .i64 2048)) rfl)) fun a F => ?_)
  refine rgend ?_
  replace F := F.only [10, 4, 0, 1] (l' := [(10, .bool (decide ((a0.ways.2.l.length : Int) ≥ 2048))), (4, .bool false), (0, .pointer (some ⟨g0_, 1, none⟩)), (1, .slice A1_ a1.length c1_)]) rfl
  by_cases c5 : (a0.ways.2.l.length : Int) ≥ 2048
  · rw [if_pos c5] at h
    rw [decide_eq_true c5] at F
    refine wp_cond_true (F.ev rfl) ?_
    refine rg ?_
    refine as_ F (v := .bool false) rfl fun a F => ?_
    refine rgend ?_
    refine wp_ret ?_
    replace H := Hp.closeO_lan_Lan (x := a0) (H)
    try dsimp only at h
    cases h
    exact RET _ _ (ret1 F rfl rfl ⟨_, rfl, rfl, H.px0⟩)
  · rw [if_neg c5] at h
    rw [decide_eq_false c5] at F
    refine wp_cond_false (F.ev rfl) ?_
    refine wp_skip ?_
    refine rg ?_
    refine mv F rfl fun a F => ?_
    refine mv F rfl fun a F => ?_
    refine ls (qv F (r_nc (F.ev (x := .tmp 12) rfl)) fun a F => ?_)
    refine ls (qv F (r_fa (off := 0) (F.ev (x := .tmp 13) rfl) fa28_0) fun a F => ?_)
    refine ls (qv F (r_ld (F.ev (x := .tmp 14) rfl) (cel_cell (o := 1) (H.cell 0 rfl) rfl) one26) fun a F => ?_)
    refine mv F rfl fun a F => ?_
    refine ls (lbs F H (e := 35) (vs := [(0, .slice A1_ a1.length c1_)]) (cs := [.slice A1_ a1.length c1_]) rfl (fun w => by kernel_rfl) fun g6 w a H F => ?_)
    obtain ⟨c7, h⟩ := guardO h
    obtain ⟨A8, c9, _, hr, H⟩ := Hp.appendCelL (kd := (kSlice kByte)) (xs := a0.ways.2.l) (ys := [a1]) (H.f2.f2.f2.f3) (F.ev (x := .tmp 15) rfl) (F.ev (x := .tmp 17) rfl) Try.underlying26 ti35 rfl (by decide) (by decide) rfl ((SayL.cons (kd := (kSlice kByte)) (c1 := [.slice A1_ a1.length c1_]) (y := a1) (fun Z hp => ⟨A1_, c1_, rfl, pat hp 0 rfl⟩) SayL.nil)) c7
    refine ls (qv F (hr _ _ _ _ _) fun a F => ?_)
    refine ls (qv F (r_nc (F.ev (x := .tmp 11) rfl)) fun a F => ?_)
    refine ls (qv F (r_fa (off := 0) (F.ev (x := .tmp 19) rfl) fa28_0) fun a F => ?_)
    obtain ⟨_, hr, H⟩ := Hp.store (t := 26) (o := 1) (n := 1) (vs := [.slice A8 ((a0.ways.2.l ++ ([a1]))).length c9]) (cs' := [.slice A1 a0.ways.1.l.length c2, .slice A8 ((a0.ways.2.l ++ ([a1]))).length c9]) (H.f2.f1.f2) (F.ev (x := .tmp 20) rfl) (F.ev (x := .tmp 18) rfl) rfl sz26 rfl (Nat.le_of_ble_eq_true rfl) rfl rfl
    refine ls (qn F (.inl rfl) (hr _ _ _ _) fun a F => ?_)
    refine rgend ?_
    replace F := F.only [4] (l' := [(4, .bool false)]) rfl
    refine rg ?_
    refine as_ F (v := .bool true) rfl fun a F => ?_
    refine rgend ?_
    refine wp_ret ?_
    replace H := Hp.closeO_lan_Lan (x := (⟨(a0.ways.1, ⟨(a0.ways.2.l ++ ([a1]))⟩)⟩ : lan_Lan)) (H.f1.f2.f2)
    try dsimp only at h
    cases h
    exact RET _ _ (ret1 F rfl rfl ⟨_, rfl, rfl, H.px0⟩)
def lan_row_at_0_f (a0 : lan_Lan) (a1 : Int) (a2 : Bool) : Option ((List Int) × Bool × lan_Lan) :=
  (if a1 < 0 then some ([], false, a0) else (if a1 ≥ (a0.ways.1.l.length : Int) then some ([], false, a0) else (if 0 ≤ a1 ∧ a1 < (a0.ways.1.l.length : Int) then ((if a2 = true then ((slices_Delete_f a0.ways.1.l a1 (IntKind.i64.wrap (a1 + 1))).bind fun x16 => some (((⟨(⟨x16⟩, a0.ways.2)⟩ : lan_Lan)))) else some a0).bind fun x13 => some (((a0.ways.1.l.getD (a1 : Int).toNat []), true, x13))) else none)))
set_option maxHeartbeats 4000000 in
set_option maxRecDepth 20000 in
theorem lan_row_at_0_ok {w0 w : World} {ps : List PF} {fs : List SF} {a0 : lan_Lan} {g0_ : Nat} {a1 : Int} {a2 : Bool} {r0 : List Int} {r1 : Bool} {s0 : lan_Lan} (H : Hp w0 ps (obj_lan_Lan g0_ a0 :: fs) w) (h : lan_row_at_0_f a0 a1 a2 = some (r0, r1, s0)) :
    Calls Try.prog 24 [.pointer (some ⟨g0_, 0, none⟩), .int .i64 a1, .bool a2].toArray w fun e w' => ∃ v, e = .returned v ∧ ∃ (A0 : Option Addr) (c0 : Nat), v = .tuple #[.slice A0 r0.length c0, .bool r1] ∧ Hp w0 (rd kByte A0 c0 r0 :: ps) (obj_lan_Lan g0_ s0 :: fs) w' := by
  refine enter [.pointer (some ⟨g0_, 0, none⟩), .int .i64 a1, .bool a2] 42 Try.func24 fun Q a NP RET NRM F => ?_
  replace NP : ∀ c a w, ¬ Q (.panic c) a w := fun c a w h => by rcases NP c a w h with h | ⟨w, v, h, _⟩ <;> cases h
  unfold lan_row_at_0_f at h
  refine rg ?_
  refine as_ F (v := .slice none 0 0) rfl fun a F => ?_
  refine as_ F (v := .bool false) rfl fun a F => ?_
  refine rgend ?_
  refine wp_seq ?_
  refine rg ?_
  refine mv F rfl fun a F => ?_
  refine ls (qv F (r_lt (F.ev (x := .tmp 10) rfl) (F.ev (x := .const (.int .i64 0)) rfl)) fun a F => ?_)
  refine mv F rfl fun a F => ?_
  by_cases c1 : a1 < 0
  · rw [if_pos c1] at h
    rw [decide_eq_true c1] at F
    refine ls (off F fun a F => ?_)
    refine ls (off F fun a F => ?_)
    refine ls (off F fun a F => ?_)
    refine ls (off F fun a F => ?_)
    refine ls (off F fun a F => ?_)
    refine ls (off F fun a F => ?_)
    refine ls (off F fun a F => ?_)
    refine ls (qv F (r_pickT (F.ev (x := .tmp 12) rfl) (F.ev (x := .const (.bool true)) rfl)) fun a F => ?_)
    refine rgend ?_
    replace F := F.only [20, 7, 6, 0, 1, 2] (l' := [(20, .bool true), (7, .bool false), (6, .slice none 0 0), (0, .pointer (some ⟨g0_, 0, none⟩)), (1, .int .i64 a1), (2, .bool a2)]) rfl
    refine wp_cond_true (F.ev rfl) ?_
    refine rg ?_
    refine as_ F (v := .slice none 0 0) rfl fun a F => ?_
    refine rgend ?_
    refine rg ?_
    refine mv F rfl fun a F => ?_
    refine as_ F rfl fun a F => ?_
    refine as_ F (v := .bool false) rfl fun a F => ?_
    refine rgend ?_
    replace F := F.only [7, 6, 0, 1, 2] (l' := [(7, .bool false), (6, .slice none 0 0), (0, .pointer (some ⟨g0_, 0, none⟩)), (1, .int .i64 a1), (2, .bool a2)]) rfl
    refine wp_ret ?_
    replace H := H.nilRd kByte
    try dsimp only at h
    cases h
    exact RET _ _ (ret2 F rfl rfl rfl ⟨_, rfl, none, 0, rfl, H⟩)
  · rw [if_neg c1] at h
    rw [decide_eq_false c1] at F
    refine mv F rfl fun a F => ?_
    refine mv F rfl fun a F => ?_
    refine ls (qv F (r_nc (F.ev (x := .tmp 14) rfl)) fun a F => ?_)
    refine ls (qv F (r_fa (off := 0) (F.ev (x := .tmp 15) rfl) fa28_0) fun a F => ?_)
    obtain ⟨A2, c3, A4, c5, H⟩ := Hp.openO_lan_Lan (H)
    refine ls (qv F (r_ld (F.ev (x := .tmp 16) rfl) (cel_cell (o := 0) (H.cell 0 rfl) rfl) one26) fun a F => ?_)
    refine ls (qv F (r_len (F.ev (x := .tmp 17) rfl) Try.underlying26) fun a F => ?_)
    refine ls (qv F (r_ge (F.ev (x := .tmp 13) rfl) (F.ev (x := .tmp 18) rfl)) fun a F => ?_)
    refine ls (qv F (r_pickF (F.ev (x := .tmp 12) rfl) (F.ev (x := .tmp 19) rfl)) fun a F => ?_)
    refine rgend ?_
    replace F := F.only [20, 7, 6, 0, 1, 2] (l' := [(20, .bool (decide (a1 ≥ (a0.ways.1.l.length : Int)))), (7, .bool false), (6, .slice none 0 0), (0, .pointer (some ⟨g0_, 0, none⟩)), (1, .int .i64 a1), (2, .bool a2)]) rfl
    by_cases c6 : a1 ≥ (a0.ways.1.l.length : Int)
    · rw [if_pos c6] at h
      rw [decide_eq_true c6] at F
      refine wp_cond_true (F.ev rfl) ?_
      refine rg ?_
      refine as_ F (v := .slice none 0 0) rfl fun a F => ?_
      refine rgend ?_
      refine rg ?_
      refine mv F rfl fun a F => ?_
      refine as_ F rfl fun a F => ?_
      refine as_ F (v := .bool false) rfl fun a F => ?_
      refine rgend ?_
      replace F := F.only [7, 6, 0, 1, 2] (l' := [(7, .bool false), (6, .slice none 0 0), (0, .pointer (some ⟨g0_, 0, none⟩)), (1, .int .i64 a1), (2, .bool a2)]) rfl
      refine wp_ret ?_
      replace H := H.nilRd kByte
      replace H := Hp.closeO_lan_Lan (x := a0) (H)
      try dsimp only at h
      cases h
      exact RET _ _ (ret2 F rfl rfl rfl ⟨_, rfl, none, 0, rfl, H⟩)
    · rw [if_neg c6] at h
      rw [decide_eq_false c6] at F
      refine wp_cond_false (F.ev rfl) ?_
      refine wp_skip ?_
      refine rg ?_
      refine mv F rfl fun a F => ?_
      refine ls (qv F (r_nc (F.ev (x := .tmp 22) rfl)) fun a F => ?_)
      refine ls (qv F (r_fa (off := 0) (F.ev (x := .tmp 23) rfl) fa28_0) fun a F => ?_)
      refine ls (qv F (r_ld (F.ev (x := .tmp 24) rfl) (cel_cell (o := 0) (H.cell 0 rfl) rfl) one26) fun a F => ?_)
      refine mv F rfl fun a F => ?_
      obtain ⟨c7, h⟩ := guardO h
      obtain ⟨g8, s9, hA, hr, hl10, H⟩ := H.ixOwn2 [] 1 rfl (F.ev (x := .tmp 25) rfl) (F.ev (x := .tmp 26) rfl) Try.underlying26 sz35 (by decide) c7.1 c7.2
      cases hA
      obtain ⟨A11, c12, rfl, H⟩ := H.says_slice 0 rfl
      refine ls (qv F (hr _ _ _ _ _ _) fun a F => ?_)
      refine ls (qv F (r_ld (F.ev (x := .tmp 27) rfl) (range_cell (j := 0) hl10 rfl) one35) fun a F => ?_)
      refine as_ F rfl fun a F => ?_
      refine rgend ?_
      replace F := F.only [9, 7, 6, 0, 1, 2] (l' := [(9, .slice A11 ((a0.ways.1.l.getD (a1 : Int).toNat [])).length c12), (7, .bool false), (6, .slice none 0 0), (0, .pointer (some ⟨g0_, 0, none⟩)), (1, .int .i64 a1), (2, .bool a2)]) rfl
      refine wp_seq ?_
      refine rg ?_
      refine mv F rfl fun a F => ?_
      refine rgend ?_
      obtain ⟨o_13, k_13, h⟩ := Option.bind_eq_some_iff.1 h
      refine cut (fun a w => ∃ (x13 : lan_Lan), x13 = o_13 ∧ Fr 42 [] [(6, .slice none 0 0), (7, .bool false), (9, .slice A11 ((a0.ways.1.l.getD (a1 : Int).toNat [])).length c12)] a ∧ Hp w0 (rd kByte A11 c12 ((a0.ways.1.l.getD (a1 : Int).toNat [])) :: ps) (obj_lan_Lan g0_ x13 :: fs) w) ?_ ?_
      · skip
        by_cases c15 : a2 = true
        · rw [if_pos c15] at k_13
          rw [c15] at F
          refine wp_cond_true (F.ev rfl) ?_
          refine wp_region_lit ?_
          refine mv F rfl fun a F => ?_
          refine mv F rfl fun a F => ?_
          refine ls (qv F (r_nc (F.ev (x := .tmp 31) rfl)) fun a F => ?_)
          refine ls (qv F (r_fa (off := 0) (F.ev (x := .tmp 32) rfl) fa28_0) fun a F => ?_)
          refine ls (qv F (r_ld (F.ev (x := .tmp 33) rfl) (cel_cell (o := 0) (H.cell 0 rfl) rfl) one26) fun a F => ?_)
          refine mv F rfl fun a F => ?_
          refine mv F rfl fun a F => ?_
          refine ls (qv F (r_add (F.ev (x := .tmp 36) rfl) (F.ev (x := .const (.int .i64 1)) rfl)) fun a F => ?_)
          obtain ⟨x16, e17, k_13⟩ := Option.bind_eq_some_iff.1 k_13
          try dsimp only at k_13
          refine ls (call F Try.func25 (slices_Delete_ok (H.f2.f1.f2) e17) rfl rfl fun v w hR a F => ?_)
          obtain ⟨A18, c19, rfl, H⟩ := hR
          refine ls (qv F (r_nc (F.ev (x := .tmp 30) rfl)) fun a F => ?_)
          refine ls (qv F (r_fa (off := 0) (F.ev (x := .tmp 39) rfl) fa28_0) fun a F => ?_)
          obtain ⟨_, hr, H⟩ := Hp.store (t := 26) (o := 0) (n := 1) (vs := [.slice A18 x16.length c19]) (cs' := [.slice A18 x16.length c19, .slice A4 a0.ways.2.l.length c5]) (H.f2.f1.f2) (F.ev (x := .tmp 40) rfl) (F.ev (x := .tmp 38) rfl) rfl sz26 rfl (Nat.le_of_ble_eq_true rfl) rfl rfl
          refine ls (qn F (.inl rfl) (hr _ _ _ _) fun a F => ?_)
          refine wpList_nil ?_
          replace F := F.only [9, 7, 6] (l' := [(9, .slice A11 ((a0.ways.1.l.getD (a1 : Int).toNat [])).length c12), (7, .bool false), (6, .slice none 0 0)]) rfl
          replace H := Hp.closeO_lan_Lan (x := (⟨(⟨x16⟩, a0.ways.2)⟩ : lan_Lan)) (H)
          try dsimp only at k_13
          cases k_13
          exact ⟨_, rfl, F.only [6, 7, 9] rfl, H.px1⟩
        · rw [if_neg c15] at k_13
          rw [Bool.eq_false_iff.2 c15] at F
          refine wp_cond_false (F.ev rfl) ?_
          refine wp_skip ?_
          replace H := Hp.closeO_lan_Lan (x := a0) (H)
          try dsimp only at k_13
          cases k_13
          exact ⟨_, rfl, F.only [6, 7, 9] rfl, H.px1⟩
      · rintro a w ⟨x13, rfl, F, H⟩
        try dsimp only at h F H
        refine rg ?_
        refine mv F rfl fun a F => ?_
        refine as_ F rfl fun a F => ?_
        refine as_ F (v := .bool true) rfl fun a F => ?_
        refine rgend ?_
        replace F := F.only [7, 6] (l' := [(7, .bool true), (6, .slice A11 ((a0.ways.1.l.getD (a1 : Int).toNat [])).length c12)]) rfl
        refine wp_ret ?_
        try dsimp only at h
        cases h
        exact RET _ _ (ret2 F rfl rfl rfl ⟨_, rfl, A11, c12, rfl, H⟩)
def lan_row_at_1_f (a0 : lan_Lan) (a1 : Int) (a2 : Bool) : Option ((List Int) × Bool × lan_Lan) :=
  (if a1 < 0 then some ([], false, a0) else (if a1 ≥ (a0.ways.2.l.length : Int) then some ([], false, a0) else (if 0 ≤ a1 ∧ a1 < (a0.ways.2.l.length : Int) then ((if a2 = true then ((slices_Delete_f a0.ways.2.l a1 (IntKind.i64.wrap (a1 + 1))).bind fun x16 => some (((⟨(a0.ways.1, ⟨x16⟩)⟩ : lan_Lan)))) else some a0).bind fun x13 => some (((a0.ways.2.l.getD (a1 : Int).toNat []), true, x13))) else none)))
set_option maxHeartbeats 4000000 in
set_option maxRecDepth 20000 in
theorem lan_row_at_1_ok {w0 w : World} {ps : List PF} {fs : List SF} {a0 : lan_Lan} {g0_ : Nat} {a1 : Int} {a2 : Bool} {r0 : List Int} {r1 : Bool} {s0 : lan_Lan} (H : Hp w0 ps (obj_lan_Lan g0_ a0 :: fs) w) (h : lan_row_at_1_f a0 a1 a2 = some (r0, r1, s0)) :
    Calls Try.prog 24 [.pointer (some ⟨g0_, 1, none⟩), .int .i64 a1, .bool a2].toArray w fun e w' => ∃ v, e = .returned v ∧ ∃ (A0 : Option Addr) (c0 : Nat), v = .tuple #[.slice A0 r0.length c0, .bool r1] ∧ Hp w0 (rd kByte A0 c0 r0 :: ps) (obj_lan_Lan g0_ s0 :: fs) w' := by
  refine enter [.pointer (some ⟨g0_, 1, none⟩), .int .i64 a1, .bool a2] 42 Try.func24 fun Q a NP RET NRM F => ?_
  replace NP : ∀ c a w, ¬ Q (.panic c) a w := fun c a w h => by rcases NP c a w h with h | ⟨w, v, h, _⟩ <;> cases h
  unfold lan_row_at_1_f at h
  refine rg ?_
  refine as_ F (v := .slice none 0 0) rfl fun a F => ?_
  refine as_ F (v := .bool false) rfl fun a F => ?_
  refine rgend ?_
  refine wp_seq ?_
  refine rg ?_
  refine mv F rfl fun a F => ?_
  refine ls (qv F (r_lt (F.ev (x := .tmp 10) rfl) (F.ev (x := .const (.int .i64 0)) rfl)) fun a F => ?_)
  refine mv F rfl fun a F => ?_
  by_cases c1 : a1 < 0
  · rw [if_pos c1] at h
    rw [decide_eq_true c1] at F
    refine ls (off F fun a F => ?_)
    refine ls (off F fun a F => ?_)
    refine ls (off F fun a F => ?_)
    refine ls (off F fun a F => ?_)
    refine ls (off F fun a F => ?_)
    refine ls (off F fun a F => ?_)
    refine ls (off F fun a F => ?_)
    refine ls (qv F (r_pickT (F.ev (x := .tmp 12) rfl) (F.ev (x := .const (.bool true)) rfl)) fun a F => ?_)
    refine rgend ?_
    replace F := F.only [20, 7, 6, 0, 1, 2] (l' := [(20, .bool true), (7, .bool false), (6, .slice none 0 0), (0, .pointer (some ⟨g0_, 1, none⟩)), (1, .int .i64 a1), (2, .bool a2)]) rfl
    refine wp_cond_true (F.ev rfl) ?_
    refine rg ?_
    refine as_ F (v := .slice none 0 0) rfl fun a F => ?_
    refine rgend ?_
    refine rg ?_
    refine mv F rfl fun a F => ?_
    refine as_ F rfl fun a F => ?_
    refine as_ F (v := .bool false) rfl fun a F => ?_
    refine rgend ?_
    replace F := F.only [7, 6, 0, 1, 2] (l' := [(7, .bool false), (6, .slice none 0 0), (0, .pointer (some ⟨g0_, 1, none⟩)), (1, .int .i64 a1), (2, .bool a2)]) rfl
    refine wp_ret ?_
    replace H := H.nilRd kByte
    try dsimp only at h
    cases h
    exact RET _ _ (ret2 F rfl rfl rfl ⟨_, rfl, none, 0, rfl, H⟩)
  · rw [if_neg c1] at h
    rw [decide_eq_false c1] at F
    refine mv F rfl fun a F => ?_
    refine mv F rfl fun a F => ?_
    refine ls (qv F (r_nc (F.ev (x := .tmp 14) rfl)) fun a F => ?_)
    refine ls (qv F (r_fa (off := 0) (F.ev (x := .tmp 15) rfl) fa28_0) fun a F => ?_)
    obtain ⟨A2, c3, A4, c5, H⟩ := Hp.openO_lan_Lan (H)
    refine ls (qv F (r_ld (F.ev (x := .tmp 16) rfl) (cel_cell (o := 1) (H.cell 0 rfl) rfl) one26) fun a F => ?_)
    refine ls (qv F (r_len (F.ev (x := .tmp 17) rfl) Try.underlying26) fun a F => ?_)
    refine ls (qv F (r_ge (F.ev (x := .tmp 13) rfl) (F.ev (x := .tmp 18) rfl)) fun a F => ?_)
    refine ls (qv F (r_pickF (F.ev (x := .tmp 12) rfl) (F.ev (x := .tmp 19) rfl)) fun a F => ?_)
    refine rgend ?_
    replace F := F.only [20, 7, 6, 0, 1, 2] (l' := [(20, .bool (decide (a1 ≥ (a0.ways.2.l.length : Int)))), (7, .bool false), (6, .slice none 0 0), (0, .pointer (some ⟨g0_, 1, none⟩)), (1, .int .i64 a1), (2, .bool a2)]) rfl
    by_cases c6 : a1 ≥ (a0.ways.2.l.length : Int)
    · rw [if_pos c6] at h
      rw [decide_eq_true c6] at F
      refine wp_cond_true (F.ev rfl) ?_
      refine rg ?_
      refine as_ F (v := .slice none 0 0) rfl fun a F => ?_
      refine rgend ?_
      refine rg ?_
      refine mv F rfl fun a F => ?_
      refine as_ F rfl fun a F => ?_
      refine as_ F (v := .bool false) rfl fun a F => ?_
      refine rgend ?_
      replace F := F.only [7, 6, 0, 1, 2] (l' := [(7, .bool false), (6, .slice none 0 0), (0, .pointer (some ⟨g0_, 1, none⟩)), (1, .int .i64 a1), (2, .bool a2)]) rfl
      refine wp_ret ?_
      replace H := H.nilRd kByte
      replace H := Hp.closeO_lan_Lan (x := a0) (H)
      try dsimp only at h
      cases h
      exact RET _ _ (ret2 F rfl rfl rfl ⟨_, rfl, none, 0, rfl, H⟩)
    · rw [if_neg c6] at h
      rw [decide_eq_false c6] at F
      refine wp_cond_false (F.ev rfl) ?_
      refine wp_skip ?_
      refine rg ?_
      refine mv F rfl fun a F => ?_
      refine ls (qv F (r_nc (F.ev (x := .tmp 22) rfl)) fun a F => ?_)
      refine ls (qv F (r_fa (off := 0) (F.ev (x := .tmp 23) rfl) fa28_0) fun a F => ?_)
      refine ls (qv F (r_ld (F.ev (x := .tmp 24) rfl) (cel_cell (o := 1) (H.cell 0 rfl) rfl) one26) fun a F => ?_)
      refine mv F rfl fun a F => ?_
      obtain ⟨c7, h⟩ := guardO h
      obtain ⟨g8, s9, hA, hr, hl10, H⟩ := H.ixOwn2 [] 2 rfl (F.ev (x := .tmp 25) rfl) (F.ev (x := .tmp 26) rfl) Try.underlying26 sz35 (by decide) c7.1 c7.2
      cases hA
      obtain ⟨A11, c12, rfl, H⟩ := H.says_slice 0 rfl
      refine ls (qv F (hr _ _ _ _ _ _) fun a F => ?_)
      refine ls (qv F (r_ld (F.ev (x := .tmp 27) rfl) (range_cell (j := 0) hl10 rfl) one35) fun a F => ?_)
      refine as_ F rfl fun a F => ?_
      refine rgend ?_
      replace F := F.only [9, 7, 6, 0, 1, 2] (l' := [(9, .slice A11 ((a0.ways.2.l.getD (a1 : Int).toNat [])).length c12), (7, .bool false), (6, .slice none 0 0), (0, .pointer (some ⟨g0_, 1, none⟩)), (1, .int .i64 a1), (2, .bool a2)]) rfl
      refine wp_seq ?_
      refine rg ?_
      refine mv F rfl fun a F => ?_
      refine rgend ?_
      obtain ⟨o_13, k_13, h⟩ := Option.bind_eq_some_iff.1 h
      refine cut (fun a w => ∃ (x13 : lan_Lan), x13 = o_13 ∧ Fr 42 [] [(6, .slice none 0 0), (7, .bool false), (9, .slice A11 ((a0.ways.2.l.getD (a1 : Int).toNat [])).length c12)] a ∧ Hp w0 (rd kByte A11 c12 ((a0.ways.2.l.getD (a1 : Int).toNat [])) :: ps) (obj_lan_Lan g0_ x13 :: fs) w) ?_ ?_
      · skip
        by_cases c15 : a2 = true
        · rw [if_pos c15] at k_13
          rw [c15] at F
          refine wp_cond_true (F.ev rfl) ?_
          refine wp_region_lit ?_
          refine mv F rfl fun a F => ?_
          refine mv F rfl fun a F => ?_
          refine ls (qv F (r_nc (F.ev (x := .tmp 31) rfl)) fun a F => ?_)
          refine ls (qv F (r_fa (off := 0) (F.ev (x := .tmp 32) rfl) fa28_0) fun a F => ?_)
          refine ls (qv F (r_ld (F.ev (x := .tmp 33) rfl) (cel_cell (o := 1) (H.cell 0 rfl) rfl) one26) fun a F => ?_)
          refine mv F rfl fun a F => ?_
          refine mv F rfl fun a F => ?_
          refine ls (qv F (r_add (F.ev (x := .tmp 36) rfl) (F.ev (x := .const (.int .i64 1)) rfl)) fun a F => ?_)
          obtain ⟨x16, e17, k_13⟩ := Option.bind_eq_some_iff.1 k_13
          try dsimp only at k_13
          refine ls (call F Try.func25 (slices_Delete_ok (H.f1.f1.f2) e17) rfl rfl fun v w hR a F => ?_)
          obtain ⟨A18, c19, rfl, H⟩ := hR
          refine ls (qv F (r_nc (F.ev (x := .tmp 30) rfl)) fun a F => ?_)
          refine ls (qv F (r_fa (off := 0) (F.ev (x := .tmp 39) rfl) fa28_0) fun a F => ?_)
          obtain ⟨_, hr, H⟩ := Hp.store (t := 26) (o := 1) (n := 1) (vs := [.slice A18 x16.length c19]) (cs' := [.slice A2 a0.ways.1.l.length c3, .slice A18 x16.length c19]) (H.f2.f1.f2) (F.ev (x := .tmp 40) rfl) (F.ev (x := .tmp 38) rfl) rfl sz26 rfl (Nat.le_of_ble_eq_true rfl) rfl rfl
          refine ls (qn F (.inl rfl) (hr _ _ _ _) fun a F => ?_)
          refine wpList_nil ?_
          replace F := F.only [9, 7, 6] (l' := [(9, .slice A11 ((a0.ways.2.l.getD (a1 : Int).toNat [])).length c12), (7, .bool false), (6, .slice none 0 0)]) rfl
          replace H := Hp.closeO_lan_Lan (x := (⟨(a0.ways.1, ⟨x16⟩)⟩ : lan_Lan)) (H.f1.f2.f2)
          try dsimp only at k_13
          cases k_13
          exact ⟨_, rfl, F.only [6, 7, 9] rfl, H.px1⟩
        · rw [if_neg c15] at k_13
          rw [Bool.eq_false_iff.2 c15] at F
          refine wp_cond_false (F.ev rfl) ?_
          refine wp_skip ?_
          replace H := Hp.closeO_lan_Lan (x := a0) (H)
          try dsimp only at k_13
          cases k_13
          exact ⟨_, rfl, F.only [6, 7, 9] rfl, H.px1⟩
      · rintro a w ⟨x13, rfl, F, H⟩
        try dsimp only at h F H
        refine rg ?_
        refine mv F rfl fun a F => ?_
        refine as_ F rfl fun a F => ?_
        refine as_ F (v := .bool true) rfl fun a F => ?_
        refine rgend ?_
        replace F := F.only [7, 6] (l' := [(7, .bool true), (6, .slice A11 ((a0.ways.2.l.getD (a1 : Int).toNat [])).length c12)]) rfl
        refine wp_ret ?_
        try dsimp only at h
        cases h
        exact RET _ _ (ret2 F rfl rfl rfl ⟨_, rfl, A11, c12, rfl, H⟩)
def lan_Lan_Put_f (a0 : lan_Lan) (a1 : Int) (a2 : List Int) : Option (Bool × lan_Lan) :=
  ((lan_Lan_way_f a0 a1).bind fun x1 => match x1 with | none => some (false, a0) | some 0 => ((slices_Clone_f a2).bind fun x4 => ((lan_row_put_0_f a0 x4).bind fun (x8, x9) => some (x8, x9))) | some 1 => ((slices_Clone_f a2).bind fun x11 => ((lan_row_put_1_f a0 x11).bind fun (x15, x16) => some (x15, x16))) | some _ => none)
set_option maxHeartbeats 4000000 in
set_option maxRecDepth 20000 in
theorem lan_Lan_Put_ok {w0 w : World} {ps : List PF} {fs : List SF} {a0 : lan_Lan} {g0_ : Nat} {a1 : Int} {a2 : List Int} {A2_ : Option Addr} {c2_ : Nat} {r0 : Bool} {s0 : lan_Lan} (H : Hp w0 (rd kByte A2_ c2_ a2 :: ps) (obj_lan_Lan g0_ a0 :: fs) w) (h : lan_Lan_Put_f a0 a1 a2 = some (r0, s0)) :
    Calls Try.prog 14 [.pointer (some ⟨g0_, 0, none⟩), .int .i64 a1, .slice A2_ a2.length c2_].toArray w fun e w' => ∃ v, e = .returned v ∧ v = .bool r0 ∧ Hp w0 ps (obj_lan_Lan g0_ s0 :: fs) w' := by
  refine enter [.pointer (some ⟨g0_, 0, none⟩), .int .i64 a1, .slice A2_ a2.length c2_] 19 Try.func14 fun Q a NP RET NRM F => ?_
  replace NP : ∀ c a w, ¬ Q (.panic c) a w := fun c a w h => by rcases NP c a w h with h | ⟨w, v, h, _⟩ <;> cases h
  unfold lan_Lan_Put_f at h
  refine rg ?_
  refine as_ F (v := .bool false) rfl fun a F => ?_
  refine rgend ?_
  refine rg ?_
  refine mv F rfl fun a F => ?_
  refine mv F rfl fun a F => ?_
  obtain ⟨x1, e2, h⟩ := Option.bind_eq_some_iff.1 h
  try dsimp only at h
  rcases x1 with _ | _ | _ | x3
  · try dsimp only at h
    refine ls (call F Try.func21 (lan_Lan_way_ok (H) e2) rfl rfl fun v w hR a F => ?_)
    obtain ⟨rfl, H⟩ := hR
    refine as_ F rfl fun a F => ?_
    refine rgend ?_
    replace F := F.only [7, 6, 2] (l' := [(7, .pointer none), (6, .bool false), (2, .slice A2_ a2.length c2_)]) rfl
    refine wp_seq ?_
    refine wp_region_lit ?_
    refine mv F rfl fun a F => ?_
    refine ls (qv F (r_pne0 (F.ev (x := .tmp 11) rfl) (F.ev (x := .const (.pointer none)) rfl) Try.underlying49) fun a F => ?_)
    refine mv F rfl fun a F => ?_
    refine ls (off F fun a F => ?_)
    refine ls (off F fun a F => ?_)
    refine ls (off F fun a F => ?_)
    refine ls (off F fun a F => ?_)
    refine ls (qv F (r_pickF (F.ev (x := .tmp 13) rfl) (F.ev (x := .const (.bool false)) rfl)) fun a F => ?_)
    refine as_ F rfl fun a F => ?_
    refine wpList_nil ?_
    replace F := F.only [6] (l' := [(6, .bool false)]) rfl
    refine wp_ret ?_
    try dsimp only at h
    cases h
    exact RET _ _ (ret1 F rfl rfl ⟨_, rfl, rfl, H.px0⟩)
  · try dsimp only at h
    refine ls (call F Try.func21 (lan_Lan_way_ok (H) e2) rfl rfl fun v w hR a F => ?_)
    obtain ⟨rfl, H⟩ := hR
    refine as_ F rfl fun a F => ?_
    refine rgend ?_
    replace F := F.only [7, 6, 2] (l' := [(7, .pointer (some ⟨g0_, 0, none⟩)), (6, .bool false), (2, .slice A2_ a2.length c2_)]) rfl
    refine wp_seq ?_
    refine wp_region_lit ?_
    refine mv F rfl fun a F => ?_
    refine ls (qv F (r_pne (F.ev (x := .tmp 11) rfl) (F.ev (x := .const (.pointer none)) rfl) Try.underlying49) fun a F => ?_)
    refine mv F rfl fun a F => ?_
    refine mv F rfl fun a F => ?_
    refine mv F rfl fun a F => ?_
    obtain ⟨x4, e5, h⟩ := Option.bind_eq_some_iff.1 h
    try dsimp only at h
    refine ls (call F Try.func23 (slices_Clone_ok (H.p0) e5) rfl rfl fun v w hR a F => ?_)
    obtain ⟨A6, c7, rfl, H⟩ := hR
    replace H := (H).freeze
    obtain ⟨⟨x8, x9⟩, e10, h⟩ := Option.bind_eq_some_iff.1 h
    try dsimp only at h
    refine ls (call F Try.func22 (lan_row_put_0_ok (H.p0) e10) rfl rfl fun v w hR a F => ?_)
    obtain ⟨rfl, H⟩ := hR
    refine ls (qv F (r_pickT (F.ev (x := .tmp 13) rfl) (F.ev (x := .tmp 17) rfl)) fun a F => ?_)
    refine as_ F rfl fun a F => ?_
    refine wpList_nil ?_
    replace F := F.only [6] (l' := [(6, .bool x8)]) rfl
    refine wp_ret ?_
    try dsimp only at h
    cases h
    exact RET _ _ (ret1 F rfl rfl ⟨_, rfl, rfl, H.px1.px0⟩)
  · try dsimp only at h
    refine ls (call F Try.func21 (lan_Lan_way_ok (H) e2) rfl rfl fun v w hR a F => ?_)
    obtain ⟨rfl, H⟩ := hR
    refine as_ F rfl fun a F => ?_
    refine rgend ?_
    replace F := F.only [7, 6, 2] (l' := [(7, .pointer (some ⟨g0_, 1, none⟩)), (6, .bool false), (2, .slice A2_ a2.length c2_)]) rfl
    refine wp_seq ?_
    refine wp_region_lit ?_
    refine mv F rfl fun a F => ?_
    refine ls (qv F (r_pne (F.ev (x := .tmp 11) rfl) (F.ev (x := .const (.pointer none)) rfl) Try.underlying49) fun a F => ?_)
    refine mv F rfl fun a F => ?_
    refine mv F rfl fun a F => ?_
    refine mv F rfl fun a F => ?_
    obtain ⟨x11, e12, h⟩ := Option.bind_eq_some_iff.1 h
    try dsimp only at h
    refine ls (call F Try.func23 (slices_Clone_ok (H.p0) e12) rfl rfl fun v w hR a F => ?_)
    obtain ⟨A13, c14, rfl, H⟩ := hR
    replace H := (H).freeze
    obtain ⟨⟨x15, x16⟩, e17, h⟩ := Option.bind_eq_some_iff.1 h
    try dsimp only at h
    refine ls (call F Try.func22 (lan_row_put_1_ok (H.p0) e17) rfl rfl fun v w hR a F => ?_)
    obtain ⟨rfl, H⟩ := hR
    refine ls (qv F (r_pickT (F.ev (x := .tmp 13) rfl) (F.ev (x := .tmp 17) rfl)) fun a F => ?_)
    refine as_ F rfl fun a F => ?_
    refine wpList_nil ?_
    replace F := F.only [6] (l' := [(6, .bool x15)]) rfl
    refine wp_ret ?_
    try dsimp only at h
    cases h
    exact RET _ _ (ret1 F rfl rfl ⟨_, rfl, rfl, H.px1.px0⟩)
  · cases h
def lan_Lan_Put_bor_f (a0 : lan_Lan) (a1 : Int) (a2 : List Int) : Option (Bool × lan_Lan) :=
  ((lan_Lan_way_f a0 a1).bind fun x1 => match x1 with | none => some (false, a0) | some 0 => ((slices_Clone_bor_f a2).bind fun x4 => ((lan_row_put_0_f a0 x4).bind fun (x8, x9) => some (x8, x9))) | some 1 => ((slices_Clone_bor_f a2).bind fun x11 => ((lan_row_put_1_f a0 x11).bind fun (x15, x16) => some (x15, x16))) | some _ => none)
set_option maxHeartbeats 4000000 in
set_option maxRecDepth 20000 in
theorem lan_Lan_Put_bor_ok {w0 w : World} {ps : List PF} {fs : List SF} {a0 : lan_Lan} {g0_ : Nat} {a1 : Int} {a2 : List Int} {A2_ : Option Addr} {c2_ : Nat} {r0 : Bool} {s0 : lan_Lan} (H : Hp w0 ps (obj_lan_Lan g0_ a0 :: own kByte 5 A2_ c2_ a2 :: fs) w) (h : lan_Lan_Put_bor_f a0 a1 a2 = some (r0, s0)) :
    Calls Try.prog 14 [.pointer (some ⟨g0_, 0, none⟩), .int .i64 a1, .slice A2_ a2.length c2_].toArray w fun e w' => ∃ v, e = .returned v ∧ v = .bool r0 ∧ Hp w0 ps (obj_lan_Lan g0_ s0 :: own kByte 5 A2_ c2_ a2 :: fs) w' := by
  refine enter [.pointer (some ⟨g0_, 0, none⟩), .int .i64 a1, .slice A2_ a2.length c2_] 19 Try.func14 fun Q a NP RET NRM F => ?_
  replace NP : ∀ c a w, ¬ Q (.panic c) a w := fun c a w h => by rcases NP c a w h with h | ⟨w, v, h, _⟩ <;> cases h
  unfold lan_Lan_Put_bor_f at h
  refine rg ?_
  refine as_ F (v := .bool false) rfl fun a F => ?_
  refine rgend ?_
  refine rg ?_
  refine mv F rfl fun a F => ?_
  refine mv F rfl fun a F => ?_
  obtain ⟨x1, e2, h⟩ := Option.bind_eq_some_iff.1 h
  try dsimp only at h
  rcases x1 with _ | _ | _ | x3
  · try dsimp only at h
    refine ls (call F Try.func21 (lan_Lan_way_ok (H) e2) rfl rfl fun v w hR a F => ?_)
    obtain ⟨rfl, H⟩ := hR
    refine as_ F rfl fun a F => ?_
    refine rgend ?_
    replace F := F.only [7, 6, 2] (l' := [(7, .pointer none), (6, .bool false), (2, .slice A2_ a2.length c2_)]) rfl
    refine wp_seq ?_
    refine wp_region_lit ?_
    refine mv F rfl fun a F => ?_
    refine ls (qv F (r_pne0 (F.ev (x := .tmp 11) rfl) (F.ev (x := .const (.pointer none)) rfl) Try.underlying49) fun a F => ?_)
    refine mv F rfl fun a F => ?_
    refine ls (off F fun a F => ?_)
    refine ls (off F fun a F => ?_)
    refine ls (off F fun a F => ?_)
    refine ls (off F fun a F => ?_)
    refine ls (qv F (r_pickF (F.ev (x := .tmp 13) rfl) (F.ev (x := .const (.bool false)) rfl)) fun a F => ?_)
    refine as_ F rfl fun a F => ?_
    refine wpList_nil ?_
    replace F := F.only [6] (l' := [(6, .bool false)]) rfl
    refine wp_ret ?_
    try dsimp only at h
    cases h
    exact RET _ _ (ret1 F rfl rfl ⟨_, rfl, rfl, H⟩)
  · try dsimp only at h
    refine ls (call F Try.func21 (lan_Lan_way_ok (H) e2) rfl rfl fun v w hR a F => ?_)
    obtain ⟨rfl, H⟩ := hR
    refine as_ F rfl fun a F => ?_
    refine rgend ?_
    replace F := F.only [7, 6, 2] (l' := [(7, .pointer (some ⟨g0_, 0, none⟩)), (6, .bool false), (2, .slice A2_ a2.length c2_)]) rfl
    refine wp_seq ?_
    refine wp_region_lit ?_
    refine mv F rfl fun a F => ?_
    refine ls (qv F (r_pne (F.ev (x := .tmp 11) rfl) (F.ev (x := .const (.pointer none)) rfl) Try.underlying49) fun a F => ?_)
    refine mv F rfl fun a F => ?_
    refine mv F rfl fun a F => ?_
    refine mv F rfl fun a F => ?_
    obtain ⟨x4, e5, h⟩ := Option.bind_eq_some_iff.1 h
    try dsimp only at h
    refine ls (call F Try.func23 (slices_Clone_bor_ok (H.f1) e5) rfl rfl fun v w hR a F => ?_)
    obtain ⟨A6, c7, rfl, H⟩ := hR
    replace H := (H).freeze
    obtain ⟨⟨x8, x9⟩, e10, h⟩ := Option.bind_eq_some_iff.1 h
    try dsimp only at h
    refine ls (call F Try.func22 (lan_row_put_0_ok (H.p0.f1) e10) rfl rfl fun v w hR a F => ?_)
    obtain ⟨rfl, H⟩ := hR
    refine ls (qv F (r_pickT (F.ev (x := .tmp 13) rfl) (F.ev (x := .tmp 17) rfl)) fun a F => ?_)
    refine as_ F rfl fun a F => ?_
    refine wpList_nil ?_
    replace F := F.only [6] (l' := [(6, .bool x8)]) rfl
    refine wp_ret ?_
    try dsimp only at h
    cases h
    exact RET _ _ (ret1 F rfl rfl ⟨_, rfl, rfl, H.px0⟩)
  · try dsimp only at h
    refine ls (call F Try.func21 (lan_Lan_way_ok (H) e2) rfl rfl fun v w hR a F => ?_)
    obtain ⟨rfl, H⟩ := hR
    refine as_ F rfl fun a F => ?_
    refine rgend ?_
    replace F := F.only [7, 6, 2] (l' := [(7, .pointer (some ⟨g0_, 1, none⟩)), (6, .bool false), (2, .slice A2_ a2.length c2_)]) rfl
    refine wp_seq ?_
    refine wp_region_lit ?_
    refine mv F rfl fun a F => ?_
    refine ls (qv F (r_pne (F.ev (x := .tmp 11) rfl) (F.ev (x := .const (.pointer none)) rfl) Try.underlying49) fun a F => ?_)
    refine mv F rfl fun a F => ?_
    refine mv F rfl fun a F => ?_
    refine mv F rfl fun a F => ?_
    obtain ⟨x11, e12, h⟩ := Option.bind_eq_some_iff.1 h
    try dsimp only at h
    refine ls (call F Try.func23 (slices_Clone_bor_ok (H.f1) e12) rfl rfl fun v w hR a F => ?_)
    obtain ⟨A13, c14, rfl, H⟩ := hR
    replace H := (H).freeze
    obtain ⟨⟨x15, x16⟩, e17, h⟩ := Option.bind_eq_some_iff.1 h
    try dsimp only at h
    refine ls (call F Try.func22 (lan_row_put_1_ok (H.p0.f1) e17) rfl rfl fun v w hR a F => ?_)
    obtain ⟨rfl, H⟩ := hR
    refine ls (qv F (r_pickT (F.ev (x := .tmp 13) rfl) (F.ev (x := .tmp 17) rfl)) fun a F => ?_)
    refine as_ F rfl fun a F => ?_
    refine wpList_nil ?_
    replace F := F.only [6] (l' := [(6, .bool x15)]) rfl
    refine wp_ret ?_
    try dsimp only at h
    cases h
    exact RET _ _ (ret1 F rfl rfl ⟨_, rfl, rfl, H.px0⟩)
  · cases h
def lan_Lan_Many_f (a0 : lan_Lan) (a1 : Int) : Option (Int) :=
  ((lan_Lan_way_f a0 a1).bind fun x1 => match x1 with | none => some 0 | some 0 => some (a0.ways.1.l.length : Int) | some 1 => some (a0.ways.2.l.length : Int) | some _ => none)
set_option maxHeartbeats 4000000 in
set_option maxRecDepth 20000 in
theorem lan_Lan_Many_ok {w0 w : World} {ps : List PF} {fs : List SF} {a0 : lan_Lan} {g0_ : Nat} {a1 : Int} {r0 : Int} (H : Hp w0 ps (obj_lan_Lan g0_ a0 :: fs) w) (h : lan_Lan_Many_f a0 a1 = some r0) :
    Calls Try.prog 16 [.pointer (some ⟨g0_, 0, none⟩), .int .i64 a1].toArray w fun e w' => ∃ v, e = .returned v ∧ v = .int .i64 r0 ∧ Hp w0 ps (obj_lan_Lan g0_ a0 :: fs) w' := by
  refine enter [.pointer (some ⟨g0_, 0, none⟩), .int .i64 a1] 16 Try.func16 fun Q a NP RET NRM F => ?_
  replace NP : ∀ c a w, ¬ Q (.panic c) a w := fun c a w h => by rcases NP c a w h with h | ⟨w, v, h, _⟩ <;> cases h
  unfold lan_Lan_Many_f at h
  refine rg ?_
  refine as_ F (v := .int .i64 0) rfl fun a F => ?_
  refine rgend ?_
  refine wp_seq ?_
  refine rg ?_
  refine mv F rfl fun a F => ?_
  refine mv F rfl fun a F => ?_
  obtain ⟨x1, e2, h⟩ := Option.bind_eq_some_iff.1 h
  try dsimp only at h
  rcases x1 with _ | _ | _ | x3
  · try dsimp only at h
    refine ls (call F Try.func21 (lan_Lan_way_ok (H) e2) rfl rfl fun v w hR a F => ?_)
    obtain ⟨rfl, H⟩ := hR
    refine as_ F rfl fun a F => ?_
    refine rgend ?_
    replace F := F.only [5, 4] (l' := [(5, .pointer none), (4, .int .i64 0)]) rfl
    refine rg ?_
    refine mv F rfl fun a F => ?_
    refine ls (qv F (r_pne0 (F.ev (x := .tmp 9) rfl) (F.ev (x := .const (.pointer none)) rfl) Try.underlying49) fun a F => ?_)
    refine rgend ?_
    refine wp_cond_false (F.ev rfl) ?_
    refine wp_skip ?_
    refine rg ?_
    refine as_ F (v := .int .i64 0) rfl fun a F => ?_
    refine rgend ?_
    replace F := F.only [4] (l' := [(4, .int .i64 0)]) rfl
    refine wp_ret ?_
    try dsimp only at h
    cases h
    exact RET _ _ (ret1 F rfl rfl ⟨_, rfl, rfl, H⟩)
  · try dsimp only at h
    refine ls (call F Try.func21 (lan_Lan_way_ok (H) e2) rfl rfl fun v w hR a F => ?_)
    obtain ⟨rfl, H⟩ := hR
    refine as_ F rfl fun a F => ?_
    refine rgend ?_
    replace F := F.only [5, 4] (l' := [(5, .pointer (some ⟨g0_, 0, none⟩)), (4, .int .i64 0)]) rfl
    refine rg ?_
    refine mv F rfl fun a F => ?_
    refine ls (qv F (r_pne (F.ev (x := .tmp 9) rfl) (F.ev (x := .const (.pointer none)) rfl) Try.underlying49) fun a F => ?_)
    refine rgend ?_
    refine wp_cond_true (F.ev rfl) ?_
    refine rg ?_
    refine mv F rfl fun a F => ?_
    refine ls (qv F (r_nc (F.ev (x := .tmp 11) rfl)) fun a F => ?_)
    refine ls (qv F (r_fa (off := 0) (F.ev (x := .tmp 12) rfl) fa28_0) fun a F => ?_)
    obtain ⟨A4, c5, A6, c7, H⟩ := Hp.openO_lan_Lan (H)
    refine ls (qv F (r_ld (F.ev (x := .tmp 13) rfl) (cel_cell (o := 0) (H.cell 0 rfl) rfl) one26) fun a F => ?_)
    refine ls (qv F (r_len (F.ev (x := .tmp 14) rfl) Try.underlying26) fun a F => ?_)
    refine as_ F rfl fun a F => ?_
    refine rgend ?_
    replace F := F.only [4] (l' := [(4, .int .i64 (a0.ways.1.l.length : Int))]) rfl
    refine wp_ret ?_
    replace H := Hp.closeO_lan_Lan (x := a0) (H)
    try dsimp only at h
    cases h
    exact RET _ _ (ret1 F rfl rfl ⟨_, rfl, rfl, H⟩)
  · try dsimp only at h
    refine ls (call F Try.func21 (lan_Lan_way_ok (H) e2) rfl rfl fun v w hR a F => ?_)
    obtain ⟨rfl, H⟩ := hR
    refine as_ F rfl fun a F => ?_
    refine rgend ?_
    replace F := F.only [5, 4] (l' := [(5, .pointer (some ⟨g0_, 1, none⟩)), (4, .int .i64 0)]) rfl
    refine rg ?_
    refine mv F rfl fun a F => ?_
    refine ls (qv F (r_pne (F.ev (x := .tmp 9) rfl) (F.ev (x := .const (.pointer none)) rfl) Try.underlying49) fun a F => ?_)
    refine rgend ?_
    refine wp_cond_true (F.ev rfl) ?_
    refine rg ?_
    refine mv F rfl fun a F => ?_
    refine ls (qv F (r_nc (F.ev (x := .tmp 11) rfl)) fun a F => ?_)
    refine ls (qv F (r_fa (off := 0) (F.ev (x := .tmp 12) rfl) fa28_0) fun a F => ?_)
    obtain ⟨A8, c9, A10, c11, H⟩ := Hp.openO_lan_Lan (H)
    refine ls (qv F (r_ld (F.ev (x := .tmp 13) rfl) (cel_cell (o := 1) (H.cell 0 rfl) rfl) one26) fun a F => ?_)
    refine ls (qv F (r_len (F.ev (x := .tmp 14) rfl) Try.underlying26) fun a F => ?_)
    refine as_ F rfl fun a F => ?_
    refine rgend ?_
    replace F := F.only [4] (l' := [(4, .int .i64 (a0.ways.2.l.length : Int))]) rfl
    refine wp_ret ?_
    replace H := Hp.closeO_lan_Lan (x := a0) (H)
    try dsimp only at h
    cases h
    exact RET _ _ (ret1 F rfl rfl ⟨_, rfl, rfl, H⟩)
  · cases h
def lan_Lan_arrives_f (a0 : lan_Lan) (a1 : Int) (a2 : Int) (a3 : Bool) : Option ((List Int) × Bool × lan_Lan) :=
  ((lan_Lan_way_f a0 a1).bind fun x1 => match x1 with | none => some ([], false, a0) | some 0 => ((lan_row_at_0_f a0 a2 a3).bind fun (x4, x5, x6) => ((slices_Clone_f x4).bind fun x10 => some (x10, x5, x6))) | some 1 => ((lan_row_at_1_f a0 a2 a3).bind fun (x14, x15, x16) => ((slices_Clone_f x14).bind fun x20 => some (x20, x15, x16))) | some _ => none)
set_option maxHeartbeats 4000000 in
set_option maxRecDepth 20000 in
theorem lan_Lan_arrives_ok {w0 w : World} {ps : List PF} {fs : List SF} {a0 : lan_Lan} {g0_ : Nat} {a1 : Int} {a2 : Int} {a3 : Bool} {r0 : List Int} {r1 : Bool} {s0 : lan_Lan} (H : Hp w0 ps (obj_lan_Lan g0_ a0 :: fs) w) (h : lan_Lan_arrives_f a0 a1 a2 a3 = some (r0, r1, s0)) :
    Calls Try.prog 19 [.pointer (some ⟨g0_, 0, none⟩), .int .i64 a1, .int .i64 a2, .bool a3].toArray w fun e w' => ∃ v, e = .returned v ∧ ∃ (A0 : Option Addr) (c0 : Nat), v = .tuple #[.slice A0 r0.length c0, .bool r1] ∧ Hp w0 ps (own kByte 5 A0 c0 r0 :: obj_lan_Lan g0_ s0 :: fs) w' := by
  refine enter [.pointer (some ⟨g0_, 0, none⟩), .int .i64 a1, .int .i64 a2, .bool a3] 28 Try.func19 fun Q a NP RET NRM F => ?_
  replace NP : ∀ c a w, ¬ Q (.panic c) a w := fun c a w h => by rcases NP c a w h with h | ⟨w, v, h, _⟩ <;> cases h
  unfold lan_Lan_arrives_f at h
  refine rg ?_
  refine as_ F (v := .slice none 0 0) rfl fun a F => ?_
  refine as_ F (v := .bool false) rfl fun a F => ?_
  refine rgend ?_
  refine rg ?_
  refine mv F rfl fun a F => ?_
  refine mv F rfl fun a F => ?_
  obtain ⟨x1, e2, h⟩ := Option.bind_eq_some_iff.1 h
  try dsimp only at h
  rcases x1 with _ | _ | _ | x3
  · try dsimp only at h
    refine ls (call F Try.func21 (lan_Lan_way_ok (H) e2) rfl rfl fun v w hR a F => ?_)
    obtain ⟨rfl, H⟩ := hR
    refine as_ F rfl fun a F => ?_
    refine rgend ?_
    replace F := F.only [10, 9, 8, 2, 3] (l' := [(10, .pointer none), (9, .bool false), (8, .slice none 0 0), (2, .int .i64 a2), (3, .bool a3)]) rfl
    refine wp_seq ?_
    refine rg ?_
    refine mv F rfl fun a F => ?_
    refine ls (qv F (r_peq0 (F.ev (x := .tmp 16) rfl) (F.ev (x := .const (.pointer none)) rfl) Try.underlying49) fun a F => ?_)
    refine rgend ?_
    refine wp_cond_true (F.ev rfl) ?_
    refine rg ?_
    refine as_ F (v := .slice none 0 0) rfl fun a F => ?_
    refine as_ F (v := .bool false) rfl fun a F => ?_
    refine rgend ?_
    replace F := F.only [9, 8, 10, 2, 3] (l' := [(9, .bool false), (8, .slice none 0 0), (10, .pointer none), (2, .int .i64 a2), (3, .bool a3)]) rfl
    refine wp_ret ?_
    replace H := H.nilOwn kByte 5
    try dsimp only at h
    cases h
    exact RET _ _ (ret2 F rfl rfl rfl ⟨_, rfl, none, 0, rfl, H⟩)
  · try dsimp only at h
    refine ls (call F Try.func21 (lan_Lan_way_ok (H) e2) rfl rfl fun v w hR a F => ?_)
    obtain ⟨rfl, H⟩ := hR
    refine as_ F rfl fun a F => ?_
    refine rgend ?_
    replace F := F.only [10, 9, 8, 2, 3] (l' := [(10, .pointer (some ⟨g0_, 0, none⟩)), (9, .bool false), (8, .slice none 0 0), (2, .int .i64 a2), (3, .bool a3)]) rfl
    refine wp_seq ?_
    refine rg ?_
    refine mv F rfl fun a F => ?_
    refine ls (qv F (r_peq (F.ev (x := .tmp 16) rfl) (F.ev (x := .const (.pointer none)) rfl) Try.underlying49) fun a F => ?_)
    refine rgend ?_
    refine wp_cond_false (F.ev rfl) ?_
    refine wp_skip ?_
    refine rg ?_
    refine mv F rfl fun a F => ?_
    refine mv F rfl fun a F => ?_
    refine mv F rfl fun a F => ?_
    obtain ⟨⟨x4, x5, x6⟩, e7, h⟩ := Option.bind_eq_some_iff.1 h
    try dsimp only at h
    refine ls (call F Try.func24 (lan_row_at_0_ok (H) e7) rfl rfl fun v w hR a F => ?_)
    obtain ⟨A8, c9, rfl, H⟩ := hR
    refine mv F rfl fun a F => ?_
    refine ls (qv F (r_ex (F.ev (x := .tmp 18) rfl) rfl) fun a F => ?_)
    refine ls (qv F (r_ex (F.ev (x := .tmp 18) rfl) rfl) fun a F => ?_)
    refine as_ F rfl fun a F => ?_
    refine as_ F rfl fun a F => ?_
    refine rgend ?_
    replace F := F.only [12, 11, 9, 8] (l' := [(12, .bool x5), (11, .slice A8 x4.length c9), (9, .bool false), (8, .slice none 0 0)]) rfl
    refine rg ?_
    refine mv F rfl fun a F => ?_
    obtain ⟨x10, e11, h⟩ := Option.bind_eq_some_iff.1 h
    try dsimp only at h
    refine ls (call F Try.func23 (slices_Clone_ok (H.p0) e11) rfl rfl fun v w hR a F => ?_)
    obtain ⟨A12, c13, rfl, H⟩ := hR
    refine mv F rfl fun a F => ?_
    refine as_ F rfl fun a F => ?_
    refine as_ F rfl fun a F => ?_
    refine rgend ?_
    replace F := F.only [9, 8] (l' := [(9, .bool x5), (8, .slice A12 x10.length c13)]) rfl
    refine wp_ret ?_
    try dsimp only at h
    cases h
    exact RET _ _ (ret2 F rfl rfl rfl ⟨_, rfl, A12, c13, rfl, H.px0⟩)
  · try dsimp only at h
    refine ls (call F Try.func21 (lan_Lan_way_ok (H) e2) rfl rfl fun v w hR a F => ?_)
    obtain ⟨rfl, H⟩ := hR
    refine as_ F rfl fun a F => ?_
    refine rgend ?_
    replace F := F.only [10, 9, 8, 2, 3] (l' := [(10, .pointer (some ⟨g0_, 1, none⟩)), (9, .bool false), (8, .slice none 0 0), (2, .int .i64 a2), (3, .bool a3)]) rfl
    refine wp_seq ?_
    refine rg ?_
    refine mv F rfl fun a F => ?_
    refine ls (qv F (r_peq (F.ev (x := .tmp 16) rfl) (F.ev (x := .const (.pointer none)) rfl) Try.underlying49) fun a F => ?_)
    refine rgend ?_
    refine wp_cond_false (F.ev rfl) ?_
    refine wp_skip ?_
    refine rg ?_
    refine mv F rfl fun a F => ?_
    refine mv F rfl fun a F => ?_
    refine mv F rfl fun a F => ?_
    obtain ⟨⟨x14, x15, x16⟩, e17, h⟩ := Option.bind_eq_some_iff.1 h
    try dsimp only at h
    refine ls (call F Try.func24 (lan_row_at_1_ok (H) e17) rfl rfl fun v w hR a F => ?_)
    obtain ⟨A18, c19, rfl, H⟩ := hR
    refine mv F rfl fun a F => ?_
    refine ls (qv F (r_ex (F.ev (x := .tmp 18) rfl) rfl) fun a F => ?_)
    refine ls (qv F (r_ex (F.ev (x := .tmp 18) rfl) rfl) fun a F => ?_)
    refine as_ F rfl fun a F => ?_
    refine as_ F rfl fun a F => ?_
    refine rgend ?_
    replace F := F.only [12, 11, 9, 8] (l' := [(12, .bool x15), (11, .slice A18 x14.length c19), (9, .bool false), (8, .slice none 0 0)]) rfl
    refine rg ?_
    refine mv F rfl fun a F => ?_
    obtain ⟨x20, e21, h⟩ := Option.bind_eq_some_iff.1 h
    try dsimp only at h
    refine ls (call F Try.func23 (slices_Clone_ok (H.p0) e21) rfl rfl fun v w hR a F => ?_)
    obtain ⟨A22, c23, rfl, H⟩ := hR
    refine mv F rfl fun a F => ?_
    refine as_ F rfl fun a F => ?_
    refine as_ F rfl fun a F => ?_
    refine rgend ?_
    replace F := F.only [9, 8] (l' := [(9, .bool x15), (8, .slice A22 x20.length c23)]) rfl
    refine wp_ret ?_
    try dsimp only at h
    cases h
    exact RET _ _ (ret2 F rfl rfl rfl ⟨_, rfl, A22, c23, rfl, H.px0⟩)
  · cases h
def lan_Lan_Take_f (a0 : lan_Lan) (a1 : Int) (a2 : Int) : Option ((List Int) × Bool × lan_Lan) :=
  ((lan_Lan_arrives_f a0 a1 a2 true).bind fun (x1, x2, x3) => some (x1, x2, x3))
set_option maxHeartbeats 4000000 in
set_option maxRecDepth 20000 in
theorem lan_Lan_Take_ok {w0 w : World} {ps : List PF} {fs : List SF} {a0 : lan_Lan} {g0_ : Nat} {a1 : Int} {a2 : Int} {r0 : List Int} {r1 : Bool} {s0 : lan_Lan} (H : Hp w0 ps (obj_lan_Lan g0_ a0 :: fs) w) (h : lan_Lan_Take_f a0 a1 a2 = some (r0, r1, s0)) :
    Calls Try.prog 10 [.pointer (some ⟨g0_, 0, none⟩), .int .i64 a1, .int .i64 a2].toArray w fun e w' => ∃ v, e = .returned v ∧ ∃ (A0 : Option Addr) (c0 : Nat), v = .tuple #[.slice A0 r0.length c0, .bool r1] ∧ Hp w0 ps (own kByte 5 A0 c0 r0 :: obj_lan_Lan g0_ s0 :: fs) w' := by
  refine enter [.pointer (some ⟨g0_, 0, none⟩), .int .i64 a1, .int .i64 a2] 14 Try.func10 fun Q a NP RET NRM F => ?_
  replace NP : ∀ c a w, ¬ Q (.panic c) a w := fun c a w h => by rcases NP c a w h with h | ⟨w, v, h, _⟩ <;> cases h
  unfold lan_Lan_Take_f at h
  refine rg ?_
  refine as_ F (v := .slice none 0 0) rfl fun a F => ?_
  refine as_ F (v := .bool false) rfl fun a F => ?_
  refine rgend ?_
  refine rg ?_
  refine mv F rfl fun a F => ?_
  refine mv F rfl fun a F => ?_
  refine mv F rfl fun a F => ?_
  obtain ⟨⟨x1, x2, x3⟩, e4, h⟩ := Option.bind_eq_some_iff.1 h
  try dsimp only at h
  refine ls (call F Try.func19 (lan_Lan_arrives_ok (H) e4) rfl rfl fun v w hR a F => ?_)
  obtain ⟨A5, c6, rfl, H⟩ := hR
  refine ls (qv F (r_ex (F.ev (x := .tmp 11) rfl) rfl) fun a F => ?_)
  refine ls (qv F (r_ex (F.ev (x := .tmp 11) rfl) rfl) fun a F => ?_)
  refine as_ F rfl fun a F => ?_
  refine as_ F rfl fun a F => ?_
  refine rgend ?_
  replace F := F.only [7, 6] (l' := [(7, .bool x2), (6, .slice A5 x1.length c6)]) rfl
  refine wp_ret ?_
  try dsimp only at h
  cases h
  exact RET _ _ (ret2 F rfl rfl rfl ⟨_, rfl, A5, c6, rfl, H⟩)
def lan_Lan_Copy_f (a0 : lan_Lan) (a1 : Int) (a2 : Int) : Option ((List Int) × Bool × lan_Lan) :=
  ((lan_Lan_arrives_f a0 a1 a2 false).bind fun (x1, x2, x3) => some (x1, x2, x3))
set_option maxHeartbeats 4000000 in
set_option maxRecDepth 20000 in
theorem lan_Lan_Copy_ok {w0 w : World} {ps : List PF} {fs : List SF} {a0 : lan_Lan} {g0_ : Nat} {a1 : Int} {a2 : Int} {r0 : List Int} {r1 : Bool} {s0 : lan_Lan} (H : Hp w0 ps (obj_lan_Lan g0_ a0 :: fs) w) (h : lan_Lan_Copy_f a0 a1 a2 = some (r0, r1, s0)) :
    Calls Try.prog 12 [.pointer (some ⟨g0_, 0, none⟩), .int .i64 a1, .int .i64 a2].toArray w fun e w' => ∃ v, e = .returned v ∧ ∃ (A0 : Option Addr) (c0 : Nat), v = .tuple #[.slice A0 r0.length c0, .bool r1] ∧ Hp w0 ps (own kByte 5 A0 c0 r0 :: obj_lan_Lan g0_ s0 :: fs) w' := by
  refine enter [.pointer (some ⟨g0_, 0, none⟩), .int .i64 a1, .int .i64 a2] 14 Try.func12 fun Q a NP RET NRM F => ?_
  replace NP : ∀ c a w, ¬ Q (.panic c) a w := fun c a w h => by rcases NP c a w h with h | ⟨w, v, h, _⟩ <;> cases h
  unfold lan_Lan_Copy_f at h
  refine rg ?_
  refine as_ F (v := .slice none 0 0) rfl fun a F => ?_
  refine as_ F (v := .bool false) rfl fun a F => ?_
  refine rgend ?_
  refine rg ?_
  refine mv F rfl fun a F => ?_
  refine mv F rfl fun a F => ?_
  refine mv F rfl fun a F => ?_
  obtain ⟨⟨x1, x2, x3⟩, e4, h⟩ := Option.bind_eq_some_iff.1 h
  try dsimp only at h
  refine ls (call F Try.func19 (lan_Lan_arrives_ok (H) e4) rfl rfl fun v w hR a F => ?_)
  obtain ⟨A5, c6, rfl, H⟩ := hR
  refine ls (qv F (r_ex (F.ev (x := .tmp 11) rfl) rfl) fun a F => ?_)
  refine ls (qv F (r_ex (F.ev (x := .tmp 11) rfl) rfl) fun a F => ?_)
  refine as_ F rfl fun a F => ?_
  refine as_ F rfl fun a F => ?_
  refine rgend ?_
  replace F := F.only [7, 6] (l' := [(7, .bool x2), (6, .slice A5 x1.length c6)]) rfl
  refine wp_ret ?_
  try dsimp only at h
  cases h
  exact RET _ _ (ret2 F rfl rfl rfl ⟨_, rfl, A5, c6, rfl, H⟩)
def law22_head_f : Option (Bool) :=
  ((lan_Lan_Put_f ((⟨(⟨[]⟩, ⟨[]⟩)⟩ : lan_Lan)) 0 ([97])).bind fun (x3, x4) => ((lan_Lan_Put_f x4 0 ([98])).bind fun (x7, x8) => ((lan_Lan_Put_f x8 2 ([99])).bind fun (x11, x12) => ((lan_Lan_Copy_f x12 0 1).bind fun (x14, x15, x16) => ((lan_Lan_Take_f x16 0 1).bind fun (x20, x21, x22) => ((lan_Lan_Take_f x22 0 1).bind fun (x26, x27, x28) => ((lan_Lan_Take_f x28 1 0).bind fun (x32, x33, x34) => ((if x3 = true then (if x7 = true then (if x11 = true then some false else (if x14 = [98] then (if x15 = true then (if x20 = [98] then (if x21 = true then (if x27 = true then some false else (if x33 = true then some false else ((lan_Lan_Many_f x34 0).bind fun x51 => (if x51 = 1 then ((lan_Lan_Many_f x34 1).bind fun x54 => (if x54 = 0 then ((lan_Lan_Many_f x34 2).bind fun x57 => some ((decide (x57 = 0)))) else some false)) else some false)))) else some false) else some false) else some false) else some false)) else some false) else some false).bind fun x38 => some x38))))))))
set_option maxHeartbeats 4000000 in
set_option maxRecDepth 20000 in
theorem law22_head_ok {w0 w : World} {ps : List PF} {fs : List SF}  {r0 : Bool} (H : Hp w0 ps fs w) (h : law22_head_f = some r0) :
    Calls Try.prog 8 [].toArray w fun e w' => ∃ v, e = .returned v ∧ v = .bool r0 ∧ Hp w0 ps fs w' := by
  refine enter [] 94 Try.func8 fun Q a NP RET NRM F => ?_
  replace NP : ∀ c a w, ¬ Q (.panic c) a w := fun c a w h => by rcases NP c a w h with h | ⟨w, v, h, _⟩ <;> cases h
  unfold law22_head_f at h
  refine rg ?_
  refine as_ F (v := .bool false) rfl fun a F => ?_
  refine rgend ?_
  refine rg ?_
  refine ls (lbd F (vs := []) (cs := [.slice none 0 0, .slice none 0 0]) rfl (fun w => by kernel_rfl) fun a F => ?_)
  refine ls (lbox F H rfl (cs := [.slice none 0 0, .slice none 0 0]) rfl fun g1 w a H F => ?_)
  refine as_ F rfl fun a F => ?_
  refine rgend ?_
  refine rg ?_
  refine mv F rfl fun a F => ?_
  refine ls (lbs F H (e := 5) (vs := [(0, .int .u8 97)]) (cs := [.int .u8 97]) rfl (fun w => by kernel_rfl) fun g2 w a H F => ?_)
  obtain ⟨_, hr, H⟩ := Hp.mark (kd := kByte) (xs := [97]) (H) (F.ev (x := .tmp 16) rfl) Try.underlying35 Try.underlying5 ((SayL.cons (kd := kByte) (c1 := [.int .u8 97]) (y := 97) (fun Z hp => ⟨rfl, (by decide)⟩) SayL.nil)) (Nat.le_of_ble_eq_true rfl)
  refine ls (qv F (hr _ _ _ _ _) fun a F => ?_)
  replace H := H.nilOwn (kSlice kByte) 35
  replace H := H.nilOwn (kSlice kByte) 35
  replace H := Hp.closeO_lan_Lan (x := (⟨(⟨[]⟩, ⟨[]⟩)⟩ : lan_Lan)) (H.f1.f1.f2)
  obtain ⟨⟨x3, x4⟩, e5, h⟩ := Option.bind_eq_some_iff.1 h
  try dsimp only at h
  refine ls (call F Try.func14 (lan_Lan_Put_ok (H.p0) e5) rfl rfl fun v w hR a F => ?_)
  obtain ⟨rfl, H⟩ := hR
  refine as_ F rfl fun a F => ?_
  refine rgend ?_
  replace F := F.only [2, 1, 0] (l' := [(2, .bool x3), (1, .pointer (some ⟨g1, 0, none⟩)), (0, .bool false)]) rfl
  refine rg ?_
  refine mv F rfl fun a F => ?_
  refine ls (lbs F H (e := 5) (vs := [(0, .int .u8 98)]) (cs := [.int .u8 98]) rfl (fun w => by kernel_rfl) fun g6 w a H F => ?_)
  obtain ⟨_, hr, H⟩ := Hp.mark (kd := kByte) (xs := [98]) (H) (F.ev (x := .tmp 20) rfl) Try.underlying35 Try.underlying5 ((SayL.cons (kd := kByte) (c1 := [.int .u8 98]) (y := 98) (fun Z hp => ⟨rfl, (by decide)⟩) SayL.nil)) (Nat.le_of_ble_eq_true rfl)
  refine ls (qv F (hr _ _ _ _ _) fun a F => ?_)
  obtain ⟨⟨x7, x8⟩, e9, h⟩ := Option.bind_eq_some_iff.1 h
  try dsimp only at h
  refine ls (call F Try.func14 (lan_Lan_Put_ok (H.p0) e9) rfl rfl fun v w hR a F => ?_)
  obtain ⟨rfl, H⟩ := hR
  refine as_ F rfl fun a F => ?_
  refine rgend ?_
  replace F := F.only [3, 2, 1, 0] (l' := [(3, .bool x7), (2, .bool x3), (1, .pointer (some ⟨g1, 0, none⟩)), (0, .bool false)]) rfl
  refine rg ?_
  refine mv F rfl fun a F => ?_
  refine ls (lbs F H (e := 5) (vs := [(0, .int .u8 99)]) (cs := [.int .u8 99]) rfl (fun w => by kernel_rfl) fun g10 w a H F => ?_)
  obtain ⟨_, hr, H⟩ := Hp.mark (kd := kByte) (xs := [99]) (H) (F.ev (x := .tmp 24) rfl) Try.underlying35 Try.underlying5 ((SayL.cons (kd := kByte) (c1 := [.int .u8 99]) (y := 99) (fun Z hp => ⟨rfl, (by decide)⟩) SayL.nil)) (Nat.le_of_ble_eq_true rfl)
  refine ls (qv F (hr _ _ _ _ _) fun a F => ?_)
  obtain ⟨⟨x11, x12⟩, e13, h⟩ := Option.bind_eq_some_iff.1 h
  try dsimp only at h
  refine ls (call F Try.func14 (lan_Lan_Put_ok (H.p0) e13) rfl rfl fun v w hR a F => ?_)
  obtain ⟨rfl, H⟩ := hR
  refine as_ F rfl fun a F => ?_
  refine rgend ?_
  replace F := F.only [4, 3, 2, 1, 0] (l' := [(4, .bool x11), (3, .bool x7), (2, .bool x3), (1, .pointer (some ⟨g1, 0, none⟩)), (0, .bool false)]) rfl
  refine rg ?_
  refine mv F rfl fun a F => ?_
  obtain ⟨⟨x14, x15, x16⟩, e17, h⟩ := Option.bind_eq_some_iff.1 h
  try dsimp only at h
  refine ls (call F Try.func12 (lan_Lan_Copy_ok (H) e17) rfl rfl fun v w hR a F => ?_)
  obtain ⟨A18, c19, rfl, H⟩ := hR
  refine mv F rfl fun a F => ?_
  refine ls (qv F (r_ex (F.ev (x := .tmp 27) rfl) rfl) fun a F => ?_)
  refine ls (qv F (r_ex (F.ev (x := .tmp 27) rfl) rfl) fun a F => ?_)
  refine as_ F rfl fun a F => ?_
  refine as_ F rfl fun a F => ?_
  refine rgend ?_
  replace F := F.only [6, 5, 4, 3, 2, 1, 0] (l' := [(6, .bool x15), (5, .slice A18 x14.length c19), (4, .bool x11), (3, .bool x7), (2, .bool x3), (1, .pointer (some ⟨g1, 0, none⟩)), (0, .bool false)]) rfl
  refine rg ?_
  refine mv F rfl fun a F => ?_
  obtain ⟨⟨x20, x21, x22⟩, e23, h⟩ := Option.bind_eq_some_iff.1 h
  try dsimp only at h
  refine ls (call F Try.func10 (lan_Lan_Take_ok (H.f1) e23) rfl rfl fun v w hR a F => ?_)
  obtain ⟨A24, c25, rfl, H⟩ := hR
  refine mv F rfl fun a F => ?_
  refine ls (qv F (r_ex (F.ev (x := .tmp 32) rfl) rfl) fun a F => ?_)
  refine ls (qv F (r_ex (F.ev (x := .tmp 32) rfl) rfl) fun a F => ?_)
  refine as_ F rfl fun a F => ?_
  refine as_ F rfl fun a F => ?_
  refine rgend ?_
  replace F := F.only [8, 7, 6, 5, 4, 3, 2, 1, 0] (l' := [(8, .bool x21), (7, .slice A24 x20.length c25), (6, .bool x15), (5, .slice A18 x14.length c19), (4, .bool x11), (3, .bool x7), (2, .bool x3), (1, .pointer (some ⟨g1, 0, none⟩)), (0, .bool false)]) rfl
  refine rg ?_
  refine mv F rfl fun a F => ?_
  obtain ⟨⟨x26, x27, x28⟩, e29, h⟩ := Option.bind_eq_some_iff.1 h
  try dsimp only at h
  refine ls (call F Try.func10 (lan_Lan_Take_ok (H.f2.f1.f2) e29) rfl rfl fun v w hR a F => ?_)
  obtain ⟨A30, c31, rfl, H⟩ := hR
  refine mv F rfl fun a F => ?_
  refine ls (qv F (r_ex (F.ev (x := .tmp 37) rfl) rfl) fun a F => ?_)
  refine ls (qv F (r_ex (F.ev (x := .tmp 37) rfl) rfl) fun a F => ?_)
  refine as_ F rfl fun a F => ?_
  refine as_ F rfl fun a F => ?_
  refine rgend ?_
  replace F := F.only [10, 8, 7, 6, 5, 4, 3, 2, 1, 0] (l' := [(10, .bool x27), (8, .bool x21), (7, .slice A24 x20.length c25), (6, .bool x15), (5, .slice A18 x14.length c19), (4, .bool x11), (3, .bool x7), (2, .bool x3), (1, .pointer (some ⟨g1, 0, none⟩)), (0, .bool false)]) rfl
  refine rg ?_
  refine mv F rfl fun a F => ?_
  obtain ⟨⟨x32, x33, x34⟩, e35, h⟩ := Option.bind_eq_some_iff.1 h
  try dsimp only at h
  refine ls (call F Try.func10 (lan_Lan_Take_ok (H.f3.f3.f2.f3) e35) rfl rfl fun v w hR a F => ?_)
  obtain ⟨A36, c37, rfl, H⟩ := hR
  refine mv F rfl fun a F => ?_
  refine ls (qv F (r_ex (F.ev (x := .tmp 42) rfl) rfl) fun a F => ?_)
  refine ls (qv F (r_ex (F.ev (x := .tmp 42) rfl) rfl) fun a F => ?_)
  refine as_ F rfl fun a F => ?_
  refine as_ F rfl fun a F => ?_
  refine rgend ?_
  replace F := F.only [12, 10, 8, 7, 6, 5, 4, 3, 2, 1, 0] (l' := [(12, .bool x33), (10, .bool x27), (8, .bool x21), (7, .slice A24 x20.length c25), (6, .bool x15), (5, .slice A18 x14.length c19), (4, .bool x11), (3, .bool x7), (2, .bool x3), (1, .pointer (some ⟨g1, 0, none⟩)), (0, .bool false)]) rfl
  refine wp_seq ?_
  obtain ⟨o_38, k_38, h⟩ := Option.bind_eq_some_iff.1 h
  refine cut (fun a w => ∃ (x38 : Bool), x38 = o_38 ∧ Fr 94 [] [(0, .bool x38)] a ∧ Hp w0 ps (obj_lan_Lan g1 x34 :: fs) w) ?_ ?_
  · skip
    refine wp_region_lit ?_
    refine mv F rfl fun a F => ?_
    refine mv F rfl fun a F => ?_
    by_cases c40 : x3 = true
    · rw [if_pos c40] at k_38
      rw [c40] at F
      refine mv F rfl fun a F => ?_
      refine ls (qv F (r_pickT (F.ev (x := .tmp 48) rfl) (F.ev (x := .tmp 49) rfl)) fun a F => ?_)
      refine mv F rfl fun a F => ?_
      by_cases c41 : x7 = true
      · rw [if_pos c41] at k_38
        rw [c41] at F
        refine mv F rfl fun a F => ?_
        refine ls (qv F (r_not (F.ev (x := .tmp 52) rfl)) fun a F => ?_)
        refine ls (qv F (r_pickT (F.ev (x := .tmp 51) rfl) (F.ev (x := .tmp 53) rfl)) fun a F => ?_)
        refine mv F rfl fun a F => ?_
        by_cases c42 : x11 = true
        · rw [if_pos c42] at k_38
          rw [c42] at F
          refine ls (off F fun a F => ?_)
          refine ls (off F fun a F => ?_)
          refine ls (off F fun a F => ?_)
          refine ls (qv F (r_pickF (F.ev (x := .tmp 55) rfl) (F.ev (x := .const (.bool false)) rfl)) fun a F => ?_)
          refine mv F rfl fun a F => ?_
          refine ls (off F fun a F => ?_)
          refine ls (qv F (r_pickF (F.ev (x := .tmp 60) rfl) (F.ev (x := .const (.bool false)) rfl)) fun a F => ?_)
          refine mv F rfl fun a F => ?_
          refine ls (off F fun a F => ?_)
          refine ls (off F fun a F => ?_)
          refine ls (off F fun a F => ?_)
          refine ls (qv F (r_pickF (F.ev (x := .tmp 63) rfl) (F.ev (x := .const (.bool false)) rfl)) fun a F => ?_)
          refine mv F rfl fun a F => ?_
          refine ls (off F fun a F => ?_)
          refine ls (qv F (r_pickF (F.ev (x := .tmp 68) rfl) (F.ev (x := .const (.bool false)) rfl)) fun a F => ?_)
          refine mv F rfl fun a F => ?_
          refine ls (off F fun a F => ?_)
          refine ls (off F fun a F => ?_)
          refine ls (qv F (r_pickF (F.ev (x := .tmp 71) rfl) (F.ev (x := .const (.bool false)) rfl)) fun a F => ?_)
          refine mv F rfl fun a F => ?_
          refine ls (off F fun a F => ?_)
          refine ls (off F fun a F => ?_)
          refine ls (qv F (r_pickF (F.ev (x := .tmp 75) rfl) (F.ev (x := .const (.bool false)) rfl)) fun a F => ?_)
          refine mv F rfl fun a F => ?_
          refine ls (off F fun a F => ?_)
          refine ls (off F fun a F => ?_)
          refine ls (off F fun a F => ?_)
          refine ls (qv F (r_pickF (F.ev (x := .tmp 79) rfl) (F.ev (x := .const (.bool false)) rfl)) fun a F => ?_)
          refine mv F rfl fun a F => ?_
          refine ls (off F fun a F => ?_)
          refine ls (off F fun a F => ?_)
          refine ls (off F fun a F => ?_)
          refine ls (qv F (r_pickF (F.ev (x := .tmp 84) rfl) (F.ev (x := .const (.bool false)) rfl)) fun a F => ?_)
          refine mv F rfl fun a F => ?_
          refine ls (off F fun a F => ?_)
          refine ls (off F fun a F => ?_)
          refine ls (off F fun a F => ?_)
          refine ls (qv F (r_pickF (F.ev (x := .tmp 89) rfl) (F.ev (x := .const (.bool false)) rfl)) fun a F => ?_)
          refine as_ F rfl fun a F => ?_
          refine wpList_nil ?_
          replace F := F.only [0] (l' := [(0, .bool false)]) rfl
          try dsimp only at k_38
          cases k_38
          exact ⟨_, rfl, F.only [0] rfl, H.px2.px1.px0.fx4.fx3.fx2.fx0⟩
        · rw [if_neg c42] at k_38
          rw [Bool.eq_false_iff.2 c42] at F
          refine mv F rfl fun a F => ?_
          replace H := (H.f3.f3.f3.f3.f4).freeze
          have hb43 := H.bytes 0 rfl
          refine ls (qv F (H.str 0 rfl (F.ev (x := .tmp 56) rfl) Try.underlying35 Try.underlying5 Try.underlying9) fun a F => ?_)
          refine ls (qv F (r_seq (F.ev (x := .tmp 57) rfl) (F.ev (x := .const (.string (strOf ([98])))) rfl) hb43 (by unfold Bytes; decide)) fun a F => ?_)
          refine ls (qv F (r_pickT (F.ev (x := .tmp 55) rfl) (F.ev (x := .tmp 58) rfl)) fun a F => ?_)
          refine mv F rfl fun a F => ?_
          by_cases c44 : x14 = [98]
          · rw [if_pos c44] at k_38
            rw [decide_eq_true c44] at F
            refine mv F rfl fun a F => ?_
            refine ls (qv F (r_pickT (F.ev (x := .tmp 60) rfl) (F.ev (x := .tmp 61) rfl)) fun a F => ?_)
            refine mv F rfl fun a F => ?_
            by_cases c45 : x15 = true
            · rw [if_pos c45] at k_38
              rw [c45] at F
              refine mv F rfl fun a F => ?_
              replace H := (H.f2.f2.f2.f3).freeze
              have hb46 := H.bytes 0 rfl
              refine ls (qv F (H.str 0 rfl (F.ev (x := .tmp 64) rfl) Try.underlying35 Try.underlying5 Try.underlying9) fun a F => ?_)
              refine ls (qv F (r_seq (F.ev (x := .tmp 65) rfl) (F.ev (x := .const (.string (strOf ([98])))) rfl) hb46 (by unfold Bytes; decide)) fun a F => ?_)
              refine ls (qv F (r_pickT (F.ev (x := .tmp 63) rfl) (F.ev (x := .tmp 66) rfl)) fun a F => ?_)
              refine mv F rfl fun a F => ?_
              by_cases c47 : x20 = [98]
              · rw [if_pos c47] at k_38
                rw [decide_eq_true c47] at F
                refine mv F rfl fun a F => ?_
                refine ls (qv F (r_pickT (F.ev (x := .tmp 68) rfl) (F.ev (x := .tmp 69) rfl)) fun a F => ?_)
                refine mv F rfl fun a F => ?_
                by_cases c48 : x21 = true
                · rw [if_pos c48] at k_38
                  rw [c48] at F
                  refine mv F rfl fun a F => ?_
                  refine ls (qv F (r_not (F.ev (x := .tmp 72) rfl)) fun a F => ?_)
                  refine ls (qv F (r_pickT (F.ev (x := .tmp 71) rfl) (F.ev (x := .tmp 73) rfl)) fun a F => ?_)
                  refine mv F rfl fun a F => ?_
                  by_cases c49 : x27 = true
                  · rw [if_pos c49] at k_38
                    rw [c49] at F
                    refine ls (off F fun a F => ?_)
                    refine ls (off F fun a F => ?_)
                    refine ls (qv F (r_pickF (F.ev (x := .tmp 75) rfl) (F.ev (x := .const (.bool false)) rfl)) fun a F => ?_)
                    refine mv F rfl fun a F => ?_
                    refine ls (off F fun a F => ?_)
                    refine ls (off F fun a F => ?_)
                    refine ls (off F fun a F => ?_)
                    refine ls (qv F (r_pickF (F.ev (x := .tmp 79) rfl) (F.ev (x := .const (.bool false)) rfl)) fun a F => ?_)
                    refine mv F rfl fun a F => ?_
                    refine ls (off F fun a F => ?_)
                    refine ls (off F fun a F => ?_)
                    refine ls (off F fun a F => ?_)
                    refine ls (qv F (r_pickF (F.ev (x := .tmp 84) rfl) (F.ev (x := .const (.bool false)) rfl)) fun a F => ?_)
                    refine mv F rfl fun a F => ?_
                    refine ls (off F fun a F => ?_)
                    refine ls (off F fun a F => ?_)
                    refine ls (off F fun a F => ?_)
                    refine ls (qv F (r_pickF (F.ev (x := .tmp 89) rfl) (F.ev (x := .const (.bool false)) rfl)) fun a F => ?_)
                    refine as_ F rfl fun a F => ?_
                    refine wpList_nil ?_
                    replace F := F.only [0] (l' := [(0, .bool false)]) rfl
                    try dsimp only at k_38
                    cases k_38
                    exact ⟨_, rfl, F.only [0] rfl, H.px4.px3.px2.px1.px0.fx2.fx0⟩
                  · rw [if_neg c49] at k_38
                    rw [Bool.eq_false_iff.2 c49] at F
                    refine mv F rfl fun a F => ?_
                    refine ls (qv F (r_not (F.ev (x := .tmp 76) rfl)) fun a F => ?_)
                    refine ls (qv F (r_pickT (F.ev (x := .tmp 75) rfl) (F.ev (x := .tmp 77) rfl)) fun a F => ?_)
                    refine mv F rfl fun a F => ?_
                    by_cases c50 : x33 = true
                    · rw [if_pos c50] at k_38
                      rw [c50] at F
                      refine ls (off F fun a F => ?_)
                      refine ls (off F fun a F => ?_)
                      refine ls (off F fun a F => ?_)
                      refine ls (qv F (r_pickF (F.ev (x := .tmp 79) rfl) (F.ev (x := .const (.bool false)) rfl)) fun a F => ?_)
                      refine mv F rfl fun a F => ?_
                      refine ls (off F fun a F => ?_)
                      refine ls (off F fun a F => ?_)
                      refine ls (off F fun a F => ?_)
                      refine ls (qv F (r_pickF (F.ev (x := .tmp 84) rfl) (F.ev (x := .const (.bool false)) rfl)) fun a F => ?_)
                      refine mv F rfl fun a F => ?_
                      refine ls (off F fun a F => ?_)
                      refine ls (off F fun a F => ?_)
                      refine ls (off F fun a F => ?_)
                      refine ls (qv F (r_pickF (F.ev (x := .tmp 89) rfl) (F.ev (x := .const (.bool false)) rfl)) fun a F => ?_)
                      refine as_ F rfl fun a F => ?_
                      refine wpList_nil ?_
                      replace F := F.only [0] (l' := [(0, .bool false)]) rfl
                      try dsimp only at k_38
                      cases k_38
                      exact ⟨_, rfl, F.only [0] rfl, H.px4.px3.px2.px1.px0.fx2.fx0⟩
                    · rw [if_neg c50] at k_38
                      rw [Bool.eq_false_iff.2 c50] at F
                      refine mv F rfl fun a F => ?_
                      obtain ⟨x51, e52, k_38⟩ := Option.bind_eq_some_iff.1 k_38
                      try dsimp only at k_38
                      refine ls (call F Try.func16 (lan_Lan_Many_ok (H.f2.f1.f2) e52) rfl rfl fun v w hR a F => ?_)
                      obtain ⟨rfl, H⟩ := hR
                      refine ls (qv F (r_eq (F.ev (x := .tmp 81) rfl) (F.ev (x := .const (.int .i64 1)) rfl)) fun a F => ?_)
                      refine ls (qv F (r_pickT (F.ev (x := .tmp 79) rfl) (F.ev (x := .tmp 82) rfl)) fun a F => ?_)
                      refine mv F rfl fun a F => ?_
                      by_cases c53 : x51 = 1
                      · rw [if_pos c53] at k_38
                        rw [decide_eq_true c53] at F
                        refine mv F rfl fun a F => ?_
                        obtain ⟨x54, e55, k_38⟩ := Option.bind_eq_some_iff.1 k_38
                        try dsimp only at k_38
                        refine ls (call F Try.func16 (lan_Lan_Many_ok (H) e55) rfl rfl fun v w hR a F => ?_)
                        obtain ⟨rfl, H⟩ := hR
                        refine ls (qv F (r_eq (F.ev (x := .tmp 86) rfl) (F.ev (x := .const (.int .i64 0)) rfl)) fun a F => ?_)
                        refine ls (qv F (r_pickT (F.ev (x := .tmp 84) rfl) (F.ev (x := .tmp 87) rfl)) fun a F => ?_)
                        refine mv F rfl fun a F => ?_
                        by_cases c56 : x54 = 0
                        · rw [if_pos c56] at k_38
                          rw [decide_eq_true c56] at F
                          refine mv F rfl fun a F => ?_
                          obtain ⟨x57, e58, k_38⟩ := Option.bind_eq_some_iff.1 k_38
                          try dsimp only at k_38
                          refine ls (call F Try.func16 (lan_Lan_Many_ok (H) e58) rfl rfl fun v w hR a F => ?_)
                          obtain ⟨rfl, H⟩ := hR
                          refine ls (qv F (r_eq (F.ev (x := .tmp 91) rfl) (F.ev (x := .const (.int .i64 0)) rfl)) fun a F => ?_)
                          refine ls (qv F (r_pickT (F.ev (x := .tmp 89) rfl) (F.ev (x := .tmp 92) rfl)) fun a F => ?_)
                          refine as_ F rfl fun a F => ?_
                          refine wpList_nil ?_
                          replace F := F.only [0] (l' := [(0, .bool (decide (x57 = 0)))]) rfl
                          try dsimp only at k_38
                          cases k_38
                          exact ⟨_, rfl, F.only [0] rfl, H.px4.px3.px2.px1.px0.fx2.fx1⟩
                        · rw [if_neg c56] at k_38
                          rw [decide_eq_false c56] at F
                          refine ls (off F fun a F => ?_)
                          refine ls (off F fun a F => ?_)
                          refine ls (off F fun a F => ?_)
                          refine ls (qv F (r_pickF (F.ev (x := .tmp 89) rfl) (F.ev (x := .const (.bool false)) rfl)) fun a F => ?_)
                          refine as_ F rfl fun a F => ?_
                          refine wpList_nil ?_
                          replace F := F.only [0] (l' := [(0, .bool false)]) rfl
                          try dsimp only at k_38
                          cases k_38
                          exact ⟨_, rfl, F.only [0] rfl, H.px4.px3.px2.px1.px0.fx2.fx1⟩
                      · rw [if_neg c53] at k_38
                        rw [decide_eq_false c53] at F
                        refine ls (off F fun a F => ?_)
                        refine ls (off F fun a F => ?_)
                        refine ls (off F fun a F => ?_)
                        refine ls (qv F (r_pickF (F.ev (x := .tmp 84) rfl) (F.ev (x := .const (.bool false)) rfl)) fun a F => ?_)
                        refine mv F rfl fun a F => ?_
                        refine ls (off F fun a F => ?_)
                        refine ls (off F fun a F => ?_)
                        refine ls (off F fun a F => ?_)
                        refine ls (qv F (r_pickF (F.ev (x := .tmp 89) rfl) (F.ev (x := .const (.bool false)) rfl)) fun a F => ?_)
                        refine as_ F rfl fun a F => ?_
                        refine wpList_nil ?_
                        replace F := F.only [0] (l' := [(0, .bool false)]) rfl
                        try dsimp only at k_38
                        cases k_38
                        exact ⟨_, rfl, F.only [0] rfl, H.px4.px3.px2.px1.px0.fx2.fx1⟩
                · rw [if_neg c48] at k_38
                  rw [Bool.eq_false_iff.2 c48] at F
                  refine ls (off F fun a F => ?_)
                  refine ls (off F fun a F => ?_)
                  refine ls (qv F (r_pickF (F.ev (x := .tmp 71) rfl) (F.ev (x := .const (.bool false)) rfl)) fun a F => ?_)
                  refine mv F rfl fun a F => ?_
                  refine ls (off F fun a F => ?_)
                  refine ls (off F fun a F => ?_)
                  refine ls (qv F (r_pickF (F.ev (x := .tmp 75) rfl) (F.ev (x := .const (.bool false)) rfl)) fun a F => ?_)
                  refine mv F rfl fun a F => ?_
                  refine ls (off F fun a F => ?_)
                  refine ls (off F fun a F => ?_)
                  refine ls (off F fun a F => ?_)
                  refine ls (qv F (r_pickF (F.ev (x := .tmp 79) rfl) (F.ev (x := .const (.bool false)) rfl)) fun a F => ?_)
                  refine mv F rfl fun a F => ?_
                  refine ls (off F fun a F => ?_)
                  refine ls (off F fun a F => ?_)
                  refine ls (off F fun a F => ?_)
                  refine ls (qv F (r_pickF (F.ev (x := .tmp 84) rfl) (F.ev (x := .const (.bool false)) rfl)) fun a F => ?_)
                  refine mv F rfl fun a F => ?_
                  refine ls (off F fun a F => ?_)
                  refine ls (off F fun a F => ?_)
                  refine ls (off F fun a F => ?_)
                  refine ls (qv F (r_pickF (F.ev (x := .tmp 89) rfl) (F.ev (x := .const (.bool false)) rfl)) fun a F => ?_)
                  refine as_ F rfl fun a F => ?_
                  refine wpList_nil ?_
                  replace F := F.only [0] (l' := [(0, .bool false)]) rfl
                  try dsimp only at k_38
                  cases k_38
                  exact ⟨_, rfl, F.only [0] rfl, H.px4.px3.px2.px1.px0.fx2.fx0⟩
              · rw [if_neg c47] at k_38
                rw [decide_eq_false c47] at F
                refine ls (off F fun a F => ?_)
                refine ls (qv F (r_pickF (F.ev (x := .tmp 68) rfl) (F.ev (x := .const (.bool false)) rfl)) fun a F => ?_)
                refine mv F rfl fun a F => ?_
                refine ls (off F fun a F => ?_)
                refine ls (off F fun a F => ?_)
                refine ls (qv F (r_pickF (F.ev (x := .tmp 71) rfl) (F.ev (x := .const (.bool false)) rfl)) fun a F => ?_)
                refine mv F rfl fun a F => ?_
                refine ls (off F fun a F => ?_)
                refine ls (off F fun a F => ?_)
                refine ls (qv F (r_pickF (F.ev (x := .tmp 75) rfl) (F.ev (x := .const (.bool false)) rfl)) fun a F => ?_)
                refine mv F rfl fun a F => ?_
                refine ls (off F fun a F => ?_)
                refine ls (off F fun a F => ?_)
                refine ls (off F fun a F => ?_)
                refine ls (qv F (r_pickF (F.ev (x := .tmp 79) rfl) (F.ev (x := .const (.bool false)) rfl)) fun a F => ?_)
                refine mv F rfl fun a F => ?_
                refine ls (off F fun a F => ?_)
                refine ls (off F fun a F => ?_)
                refine ls (off F fun a F => ?_)
                refine ls (qv F (r_pickF (F.ev (x := .tmp 84) rfl) (F.ev (x := .const (.bool false)) rfl)) fun a F => ?_)
                refine mv F rfl fun a F => ?_
                refine ls (off F fun a F => ?_)
                refine ls (off F fun a F => ?_)
                refine ls (off F fun a F => ?_)
                refine ls (qv F (r_pickF (F.ev (x := .tmp 89) rfl) (F.ev (x := .const (.bool false)) rfl)) fun a F => ?_)
                refine as_ F rfl fun a F => ?_
                refine wpList_nil ?_
                replace F := F.only [0] (l' := [(0, .bool false)]) rfl
                try dsimp only at k_38
                cases k_38
                exact ⟨_, rfl, F.only [0] rfl, H.px4.px3.px2.px1.px0.fx2.fx0⟩
            · rw [if_neg c45] at k_38
              rw [Bool.eq_false_iff.2 c45] at F
              refine ls (off F fun a F => ?_)
              refine ls (off F fun a F => ?_)
              refine ls (off F fun a F => ?_)
              refine ls (qv F (r_pickF (F.ev (x := .tmp 63) rfl) (F.ev (x := .const (.bool false)) rfl)) fun a F => ?_)
              refine mv F rfl fun a F => ?_
              refine ls (off F fun a F => ?_)
              refine ls (qv F (r_pickF (F.ev (x := .tmp 68) rfl) (F.ev (x := .const (.bool false)) rfl)) fun a F => ?_)
              refine mv F rfl fun a F => ?_
              refine ls (off F fun a F => ?_)
              refine ls (off F fun a F => ?_)
              refine ls (qv F (r_pickF (F.ev (x := .tmp 71) rfl) (F.ev (x := .const (.bool false)) rfl)) fun a F => ?_)
              refine mv F rfl fun a F => ?_
              refine ls (off F fun a F => ?_)
              refine ls (off F fun a F => ?_)
              refine ls (qv F (r_pickF (F.ev (x := .tmp 75) rfl) (F.ev (x := .const (.bool false)) rfl)) fun a F => ?_)
              refine mv F rfl fun a F => ?_
              refine ls (off F fun a F => ?_)
              refine ls (off F fun a F => ?_)
              refine ls (off F fun a F => ?_)
              refine ls (qv F (r_pickF (F.ev (x := .tmp 79) rfl) (F.ev (x := .const (.bool false)) rfl)) fun a F => ?_)
              refine mv F rfl fun a F => ?_
              refine ls (off F fun a F => ?_)
              refine ls (off F fun a F => ?_)
              refine ls (off F fun a F => ?_)
              refine ls (qv F (r_pickF (F.ev (x := .tmp 84) rfl) (F.ev (x := .const (.bool false)) rfl)) fun a F => ?_)
              refine mv F rfl fun a F => ?_
              refine ls (off F fun a F => ?_)
              refine ls (off F fun a F => ?_)
              refine ls (off F fun a F => ?_)
              refine ls (qv F (r_pickF (F.ev (x := .tmp 89) rfl) (F.ev (x := .const (.bool false)) rfl)) fun a F => ?_)
              refine as_ F rfl fun a F => ?_
              refine wpList_nil ?_
              replace F := F.only [0] (l' := [(0, .bool false)]) rfl
              try dsimp only at k_38
              cases k_38
              exact ⟨_, rfl, F.only [0] rfl, H.px3.px2.px1.px0.fx3.fx2.fx0⟩
          · rw [if_neg c44] at k_38
            rw [decide_eq_false c44] at F
            refine ls (off F fun a F => ?_)
            refine ls (qv F (r_pickF (F.ev (x := .tmp 60) rfl) (F.ev (x := .const (.bool false)) rfl)) fun a F => ?_)
            refine mv F rfl fun a F => ?_
            refine ls (off F fun a F => ?_)
            refine ls (off F fun a F => ?_)
            refine ls (off F fun a F => ?_)
            refine ls (qv F (r_pickF (F.ev (x := .tmp 63) rfl) (F.ev (x := .const (.bool false)) rfl)) fun a F => ?_)
            refine mv F rfl fun a F => ?_
            refine ls (off F fun a F => ?_)
            refine ls (qv F (r_pickF (F.ev (x := .tmp 68) rfl) (F.ev (x := .const (.bool false)) rfl)) fun a F => ?_)
            refine mv F rfl fun a F => ?_
            refine ls (off F fun a F => ?_)
            refine ls (off F fun a F => ?_)
            refine ls (qv F (r_pickF (F.ev (x := .tmp 71) rfl) (F.ev (x := .const (.bool false)) rfl)) fun a F => ?_)
            refine mv F rfl fun a F => ?_
            refine ls (off F fun a F => ?_)
            refine ls (off F fun a F => ?_)
            refine ls (qv F (r_pickF (F.ev (x := .tmp 75) rfl) (F.ev (x := .const (.bool false)) rfl)) fun a F => ?_)
            refine mv F rfl fun a F => ?_
            refine ls (off F fun a F => ?_)
            refine ls (off F fun a F => ?_)
            refine ls (off F fun a F => ?_)
            refine ls (qv F (r_pickF (F.ev (x := .tmp 79) rfl) (F.ev (x := .const (.bool false)) rfl)) fun a F => ?_)
            refine mv F rfl fun a F => ?_
            refine ls (off F fun a F => ?_)
            refine ls (off F fun a F => ?_)
            refine ls (off F fun a F => ?_)
            refine ls (qv F (r_pickF (F.ev (x := .tmp 84) rfl) (F.ev (x := .const (.bool false)) rfl)) fun a F => ?_)
            refine mv F rfl fun a F => ?_
            refine ls (off F fun a F => ?_)
            refine ls (off F fun a F => ?_)
            refine ls (off F fun a F => ?_)
            refine ls (qv F (r_pickF (F.ev (x := .tmp 89) rfl) (F.ev (x := .const (.bool false)) rfl)) fun a F => ?_)
            refine as_ F rfl fun a F => ?_
            refine wpList_nil ?_
            replace F := F.only [0] (l' := [(0, .bool false)]) rfl
            try dsimp only at k_38
            cases k_38
            exact ⟨_, rfl, F.only [0] rfl, H.px3.px2.px1.px0.fx3.fx2.fx0⟩
      · rw [if_neg c41] at k_38
        rw [Bool.eq_false_iff.2 c41] at F
        refine ls (off F fun a F => ?_)
        refine ls (off F fun a F => ?_)
        refine ls (qv F (r_pickF (F.ev (x := .tmp 51) rfl) (F.ev (x := .const (.bool false)) rfl)) fun a F => ?_)
        refine mv F rfl fun a F => ?_
        refine ls (off F fun a F => ?_)
        refine ls (off F fun a F => ?_)
        refine ls (off F fun a F => ?_)
        refine ls (qv F (r_pickF (F.ev (x := .tmp 55) rfl) (F.ev (x := .const (.bool false)) rfl)) fun a F => ?_)
        refine mv F rfl fun a F => ?_
        refine ls (off F fun a F => ?_)
        refine ls (qv F (r_pickF (F.ev (x := .tmp 60) rfl) (F.ev (x := .const (.bool false)) rfl)) fun a F => ?_)
        refine mv F rfl fun a F => ?_
        refine ls (off F fun a F => ?_)
        refine ls (off F fun a F => ?_)
        refine ls (off F fun a F => ?_)
        refine ls (qv F (r_pickF (F.ev (x := .tmp 63) rfl) (F.ev (x := .const (.bool false)) rfl)) fun a F => ?_)
        refine mv F rfl fun a F => ?_
        refine ls (off F fun a F => ?_)
        refine ls (qv F (r_pickF (F.ev (x := .tmp 68) rfl) (F.ev (x := .const (.bool false)) rfl)) fun a F => ?_)
        refine mv F rfl fun a F => ?_
        refine ls (off F fun a F => ?_)
        refine ls (off F fun a F => ?_)
        refine ls (qv F (r_pickF (F.ev (x := .tmp 71) rfl) (F.ev (x := .const (.bool false)) rfl)) fun a F => ?_)
        refine mv F rfl fun a F => ?_
        refine ls (off F fun a F => ?_)
        refine ls (off F fun a F => ?_)
        refine ls (qv F (r_pickF (F.ev (x := .tmp 75) rfl) (F.ev (x := .const (.bool false)) rfl)) fun a F => ?_)
        refine mv F rfl fun a F => ?_
        refine ls (off F fun a F => ?_)
        refine ls (off F fun a F => ?_)
        refine ls (off F fun a F => ?_)
        refine ls (qv F (r_pickF (F.ev (x := .tmp 79) rfl) (F.ev (x := .const (.bool false)) rfl)) fun a F => ?_)
        refine mv F rfl fun a F => ?_
        refine ls (off F fun a F => ?_)
        refine ls (off F fun a F => ?_)
        refine ls (off F fun a F => ?_)
        refine ls (qv F (r_pickF (F.ev (x := .tmp 84) rfl) (F.ev (x := .const (.bool false)) rfl)) fun a F => ?_)
        refine mv F rfl fun a F => ?_
        refine ls (off F fun a F => ?_)
        refine ls (off F fun a F => ?_)
        refine ls (off F fun a F => ?_)
        refine ls (qv F (r_pickF (F.ev (x := .tmp 89) rfl) (F.ev (x := .const (.bool false)) rfl)) fun a F => ?_)
        refine as_ F rfl fun a F => ?_
        refine wpList_nil ?_
        replace F := F.only [0] (l' := [(0, .bool false)]) rfl
        try dsimp only at k_38
        cases k_38
        exact ⟨_, rfl, F.only [0] rfl, H.px2.px1.px0.fx4.fx3.fx2.fx0⟩
    · rw [if_neg c40] at k_38
      rw [Bool.eq_false_iff.2 c40] at F
      refine ls (off F fun a F => ?_)
      refine ls (qv F (r_pickF (F.ev (x := .tmp 48) rfl) (F.ev (x := .const (.bool false)) rfl)) fun a F => ?_)
      refine mv F rfl fun a F => ?_
      refine ls (off F fun a F => ?_)
      refine ls (off F fun a F => ?_)
      refine ls (qv F (r_pickF (F.ev (x := .tmp 51) rfl) (F.ev (x := .const (.bool false)) rfl)) fun a F => ?_)
      refine mv F rfl fun a F => ?_
      refine ls (off F fun a F => ?_)
      refine ls (off F fun a F => ?_)
      refine ls (off F fun a F => ?_)
      refine ls (qv F (r_pickF (F.ev (x := .tmp 55) rfl) (F.ev (x := .const (.bool false)) rfl)) fun a F => ?_)
      refine mv F rfl fun a F => ?_
      refine ls (off F fun a F => ?_)
      refine ls (qv F (r_pickF (F.ev (x := .tmp 60) rfl) (F.ev (x := .const (.bool false)) rfl)) fun a F => ?_)
      refine mv F rfl fun a F => ?_
      refine ls (off F fun a F => ?_)
      refine ls (off F fun a F => ?_)
      refine ls (off F fun a F => ?_)
      refine ls (qv F (r_pickF (F.ev (x := .tmp 63) rfl) (F.ev (x := .const (.bool false)) rfl)) fun a F => ?_)
      refine mv F rfl fun a F => ?_
      refine ls (off F fun a F => ?_)
      refine ls (qv F (r_pickF (F.ev (x := .tmp 68) rfl) (F.ev (x := .const (.bool false)) rfl)) fun a F => ?_)
      refine mv F rfl fun a F => ?_
      refine ls (off F fun a F => ?_)
      refine ls (off F fun a F => ?_)
      refine ls (qv F (r_pickF (F.ev (x := .tmp 71) rfl) (F.ev (x := .const (.bool false)) rfl)) fun a F => ?_)
      refine mv F rfl fun a F => ?_
      refine ls (off F fun a F => ?_)
      refine ls (off F fun a F => ?_)
      refine ls (qv F (r_pickF (F.ev (x := .tmp 75) rfl) (F.ev (x := .const (.bool false)) rfl)) fun a F => ?_)
      refine mv F rfl fun a F => ?_
      refine ls (off F fun a F => ?_)
      refine ls (off F fun a F => ?_)
      refine ls (off F fun a F => ?_)
      refine ls (qv F (r_pickF (F.ev (x := .tmp 79) rfl) (F.ev (x := .const (.bool false)) rfl)) fun a F => ?_)
      refine mv F rfl fun a F => ?_
      refine ls (off F fun a F => ?_)
      refine ls (off F fun a F => ?_)
      refine ls (off F fun a F => ?_)
      refine ls (qv F (r_pickF (F.ev (x := .tmp 84) rfl) (F.ev (x := .const (.bool false)) rfl)) fun a F => ?_)
      refine mv F rfl fun a F => ?_
      refine ls (off F fun a F => ?_)
      refine ls (off F fun a F => ?_)
      refine ls (off F fun a F => ?_)
      refine ls (qv F (r_pickF (F.ev (x := .tmp 89) rfl) (F.ev (x := .const (.bool false)) rfl)) fun a F => ?_)
      refine as_ F rfl fun a F => ?_
      refine wpList_nil ?_
      replace F := F.only [0] (l' := [(0, .bool false)]) rfl
      try dsimp only at k_38
      cases k_38
      exact ⟨_, rfl, F.only [0] rfl, H.px2.px1.px0.fx4.fx3.fx2.fx0⟩
  · rintro a w ⟨x38, rfl, F, H⟩
    try dsimp only at h F H
    refine wp_ret ?_
    try dsimp only at h
    cases h
    exact RET _ _ (ret1 F rfl rfl ⟨_, rfl, rfl, H.fx0⟩)
end Go.Proofs.Ytflkagoglhckoaa
