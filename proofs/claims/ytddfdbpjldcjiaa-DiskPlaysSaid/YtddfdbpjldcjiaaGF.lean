/- What the functions compute. Printed by wip/gen. -/
import Derived.Test.YtddfdbpjldcjiaaArrB
import Derived.Test.YtddfdbpjldcjiaaProg
set_option linter.unusedVariables false
set_option linter.unusedSimpArgs false
namespace Go.Proofs.Ytddfdbpjldcjiaa
open Go Go.RowKit
theorem ti4 : TI Try.prog 4 (.bool false) 1 1 := by unfold TI; kernel_rfl
theorem ti5 : TI Try.prog 5 (.int .u8 0) 1 1 := by unfold TI; kernel_rfl
theorem ti9 : TI Try.prog 9 (.string ⟨#[]⟩) 1 16 := by unfold TI; kernel_rfl
theorem ti29 : TI Try.prog 29 (.int .i64 0) 1 8 := by unfold TI; kernel_rfl
theorem ti31 : TI Try.prog 31 (.slice none 0 0) 1 24 := by unfold TI; kernel_rfl
theorem ti34 : TI Try.prog 34 (.agg #[.int .i64 0, .int .i64 0, .int .u8 0, .slice none 0 0, .int .i64 0, .slice none 0 0]) 6 80 := by unfold TI; kernel_rfl
theorem ti67 : TI Try.prog 67 (.agg #[.int .u8 0, .int .u8 0, .int .u8 0, .int .u8 0, .int .u8 0, .int .u8 0, .int .u8 0, .int .u8 0, .int .u8 0, .int .u8 0, .int .u8 0, .int .u8 0, .int .u8 0, .int .u8 0, .int .u8 0, .int .u8 0, .int .u8 0, .int .u8 0, .int .u8 0, .int .u8 0, .int .u8 0, .int .u8 0, .int .u8 0, .int .u8 0, .int .u8 0, .int .u8 0, .int .u8 0, .int .u8 0, .int .u8 0, .int .u8 0, .int .u8 0, .int .u8 0, .int .u8 0, .int .u8 0, .int .u8 0, .int .u8 0, .int .u8 0, .int .u8 0, .int .u8 0, .int .u8 0, .int .u8 0, .int .u8 0, .int .u8 0, .int .u8 0, .int .u8 0, .int .u8 0, .int .u8 0, .int .u8 0, .int .u8 0, .int .u8 0, .int .u8 0, .int .u8 0, .int .u8 0, .int .u8 0, .int .u8 0, .int .u8 0, .int .u8 0, .int .u8 0, .int .u8 0, .int .u8 0, .int .u8 0, .int .u8 0, .int .u8 0, .int .u8 0]) 64 64 := by unfold TI; kernel_rfl
theorem ti69 : TI Try.prog 69 (.agg #[.int .i64 0, .int .u8 0, .int .u8 0, .int .u8 0, .int .u8 0, .int .u8 0, .int .u8 0, .int .u8 0, .int .u8 0, .int .u8 0, .int .u8 0, .int .u8 0, .int .u8 0, .int .u8 0, .int .u8 0, .int .u8 0, .int .u8 0, .int .u8 0, .int .u8 0, .int .u8 0, .int .u8 0, .int .u8 0, .int .u8 0, .int .u8 0, .int .u8 0, .int .u8 0, .int .u8 0, .int .u8 0, .int .u8 0, .int .u8 0, .int .u8 0, .int .u8 0, .int .u8 0, .int .u8 0, .int .u8 0, .int .u8 0, .int .u8 0, .int .u8 0, .int .u8 0, .int .u8 0, .int .u8 0, .int .u8 0, .int .u8 0, .int .u8 0, .int .u8 0, .int .u8 0, .int .u8 0, .int .u8 0, .int .u8 0, .int .u8 0, .int .u8 0, .int .u8 0, .int .u8 0, .int .u8 0, .int .u8 0, .int .u8 0, .int .u8 0, .int .u8 0, .int .u8 0, .int .u8 0, .int .u8 0, .int .u8 0, .int .u8 0, .int .u8 0, .int .u8 0]) 65 72 := by unfold TI; kernel_rfl
theorem ti73 : TI Try.prog 73 (.agg #[.int .i64 0, .slice none 0 0]) 2 32 := by unfold TI; kernel_rfl
theorem one3 : oneB Try.prog 3 = true := by kernel_rfl
theorem one4 : oneB Try.prog 4 = true := by kernel_rfl
theorem one5 : oneB Try.prog 5 = true := by kernel_rfl
theorem one9 : oneB Try.prog 9 = true := by kernel_rfl
theorem one25 : oneB Try.prog 25 = true := by kernel_rfl
theorem one29 : oneB Try.prog 29 = true := by kernel_rfl
theorem one31 : oneB Try.prog 31 = true := by kernel_rfl
theorem one32 : oneB Try.prog 32 = true := by kernel_rfl
theorem one53 : oneB Try.prog 53 = true := by kernel_rfl
theorem one54 : oneB Try.prog 54 = true := by kernel_rfl
theorem one55 : oneB Try.prog 55 = true := by kernel_rfl
theorem one58 : oneB Try.prog 58 = true := by kernel_rfl
theorem one59 : oneB Try.prog 59 = true := by kernel_rfl
theorem sz3 : szB Try.prog 3 1 = true := by kernel_rfl
theorem sz4 : szB Try.prog 4 1 = true := by kernel_rfl
theorem sz5 : szB Try.prog 5 1 = true := by kernel_rfl
theorem sz9 : szB Try.prog 9 1 = true := by kernel_rfl
theorem sz29 : szB Try.prog 29 1 = true := by kernel_rfl
theorem sz31 : szB Try.prog 31 1 = true := by kernel_rfl
theorem sz32 : szB Try.prog 32 1 = true := by kernel_rfl
theorem sz34 : szB Try.prog 34 6 = true := by kernel_rfl
theorem sz55 : szB Try.prog 55 1 = true := by kernel_rfl
theorem sz58 : szB Try.prog 58 1 = true := by kernel_rfl
theorem sz59 : szB Try.prog 59 1 = true := by kernel_rfl
theorem sz67 : szB Try.prog 67 64 = true := by kernel_rfl
theorem sz69 : szB Try.prog 69 65 = true := by kernel_rfl
theorem sz73 : szB Try.prog 73 2 = true := by kernel_rfl
theorem agg34 : aggB Try.prog 34 6 = true := by kernel_rfl
theorem agg67 : aggB Try.prog 67 64 = true := by kernel_rfl
theorem agg69 : aggB Try.prog 69 65 = true := by kernel_rfl
theorem agg73 : aggB Try.prog 73 2 = true := by kernel_rfl
theorem fa34_0 : fldB Try.prog 34 0 0 = true := by kernel_rfl
theorem fa34_1 : fldB Try.prog 34 1 1 = true := by kernel_rfl
theorem fa34_2 : fldB Try.prog 34 2 2 = true := by kernel_rfl
theorem fa34_3 : fldB Try.prog 34 3 3 = true := by kernel_rfl
theorem fa34_4 : fldB Try.prog 34 4 4 = true := by kernel_rfl
theorem fa34_5 : fldB Try.prog 34 5 5 = true := by kernel_rfl
theorem fa57_0 : fldB Try.prog 57 0 0 = true := by kernel_rfl
theorem fa57_1 : fldB Try.prog 57 1 1 = true := by kernel_rfl
theorem fa57_2 : fldB Try.prog 57 2 2 = true := by kernel_rfl
theorem fa57_3 : fldB Try.prog 57 3 3 = true := by kernel_rfl
theorem fa61_0 : fldB Try.prog 61 0 0 = true := by kernel_rfl
theorem fa61_1 : fldB Try.prog 61 1 1 = true := by kernel_rfl
theorem fa61_2 : fldB Try.prog 61 2 2 = true := by kernel_rfl
theorem fa61_3 : fldB Try.prog 61 3 3 = true := by kernel_rfl
theorem fa69_0 : fldB Try.prog 69 0 0 = true := by kernel_rfl
theorem fa69_1 : fldB Try.prog 69 1 1 = true := by kernel_rfl
theorem fa73_0 : fldB Try.prog 73 0 0 = true := by kernel_rfl
theorem fa73_1 : fldB Try.prog 73 1 1 = true := by kernel_rfl
structure disk_write where
  at_ : Int
  b : Arr 64
deriving DecidableEq, Inhabited
def k_disk_write : Kd disk_write where
  sz := 65
  ok Z w cs x := cs = (.int .i64 x.at_ :: arrOf x.b.l)
  len := fun {_ _ _ x} h => by subst h; exact (len_cons (arr_len x.b))
  one := fun {_ _ _ x} h => by subst h; intro c hc; exact List.all_eq_true.1 (all_cons rfl (arr_all _)) c hc
  stb h hz hs := by exact h
theorem Hp.open_disk_write {w0 w : World} {ps : List PF} {fs : List SF} {cs : List Value} {x : disk_write} (H : Hp w0 ps fs w) (i : Nat) (hi : ps[i]? = some (says k_disk_write cs x)) : cs = (.int .i64 x.at_ :: arrOf x.b.l) ∧ Hp w0 ps fs w := by
  obtain ⟨Z, h⟩ := H.fact i hi
  exact ⟨h, H⟩
structure ref15_Write where
  At : Int
  B : List Int
deriving DecidableEq, Inhabited
def k_ref15_Write : Kd ref15_Write where
  sz := 2
  ok Z w cs x := ∃ (A1 : Option Addr) (c1 : Nat), cs = [.int .i64 x.At, .slice A1 x.B.length c1] ∧ Rows kByte Z w A1 c1 x.B
  len := fun {_ _ _ x} h => by obtain ⟨_, _, rfl, _⟩ := h; exact rfl
  one := fun {_ _ _ x} h => by obtain ⟨_, _, rfl, _⟩ := h; intro c hc; simp only [List.mem_cons, List.not_mem_nil, or_false] at hc; rcases hc with rfl | rfl <;> rfl
  stb h hz hs := by obtain ⟨_, _, rfl, h1⟩ := h; exact ⟨_, _, rfl, h1.stb hz hs⟩
theorem Hp.open_ref15_Write {w0 w : World} {ps : List PF} {fs : List SF} {cs : List Value} {x : ref15_Write} (H : Hp w0 ps fs w) (i : Nat) (hi : ps[i]? = some (says k_ref15_Write cs x)) : ∃ (A1 : Option Addr) (c1 : Nat), cs = [.int .i64 x.At, .slice A1 x.B.length c1] ∧ Hp w0 (rd kByte A1 c1 x.B :: ps) fs w := by
  obtain ⟨Z, H⟩ := H
  obtain ⟨A1, c1, h, h1⟩ := H.pers _ (List.mem_of_getElem? hi)
  refine ⟨A1, c1, h, Z, H.os, H.tape, H.output, H.old, H.size, H.zlt, fun p hp => ?_, H.sep⟩
  simp only [List.mem_cons] at hp
  rcases hp with rfl | hp
  · exact h1
  exact H.pers p hp
structure law15_Op where
  What : Int
  At : Int
  C : Int
  B : List Int
  N : Int
  Keep : List Bool
deriving DecidableEq, Inhabited
def k_law15_Op : Kd law15_Op where
  sz := 6
  ok Z w cs x := ∃ (A3 : Option Addr) (c3 : Nat) (A5 : Option Addr) (c5 : Nat), cs = [.int .i64 x.What, .int .i64 x.At, .int .u8 x.C, .slice A3 x.B.length c3, .int .i64 x.N, .slice A5 x.Keep.length c5] ∧ Rows kByte Z w A3 c3 x.B ∧ Rows kBool Z w A5 c5 x.Keep ∧ (0 ≤ x.C ∧ x.C < 256)
  len := fun {_ _ _ x} h => by obtain ⟨_, _, _, _, rfl, _, _, _⟩ := h; exact rfl
  one := fun {_ _ _ x} h => by obtain ⟨_, _, _, _, rfl, _, _, _⟩ := h; intro c hc; simp only [List.mem_cons, List.not_mem_nil, or_false] at hc; rcases hc with rfl | rfl | rfl | rfl | rfl | rfl <;> rfl
  stb h hz hs := by obtain ⟨_, _, _, _, rfl, h3, h5, b2⟩ := h; exact ⟨_, _, _, _, rfl, h3.stb hz hs, h5.stb hz hs, b2⟩
theorem Hp.open_law15_Op {w0 w : World} {ps : List PF} {fs : List SF} {cs : List Value} {x : law15_Op} (H : Hp w0 ps fs w) (i : Nat) (hi : ps[i]? = some (says k_law15_Op cs x)) : ∃ (A3 : Option Addr) (c3 : Nat) (A5 : Option Addr) (c5 : Nat), cs = [.int .i64 x.What, .int .i64 x.At, .int .u8 x.C, .slice A3 x.B.length c3, .int .i64 x.N, .slice A5 x.Keep.length c5] ∧ (0 ≤ x.C ∧ x.C < 256) ∧ Hp w0 (rd kByte A3 c3 x.B :: rd kBool A5 c5 x.Keep :: ps) fs w := by
  obtain ⟨Z, H⟩ := H
  obtain ⟨A3, c3, A5, c5, h, h3, h5, b2⟩ := H.pers _ (List.mem_of_getElem? hi)
  refine ⟨A3, c3, A5, c5, h, b2, Z, H.os, H.tape, H.output, H.old, H.size, H.zlt, fun p hp => ?_, H.sep⟩
  simp only [List.mem_cons] at hp
  rcases hp with rfl | rfl | hp
  · exact h3
  · exact h5
  exact H.pers p hp
structure disk_Disk where
  sectors : List (Arr 64)
  torn : List (Int × Int)
  pending : List disk_write
  fuse : Int
deriving DecidableEq, Inhabited
structure ref15_Disk where
  L : List (List Int)
  Torn : List Bool
  P : List ref15_Write
  Fused : Int
deriving DecidableEq, Inhabited
def k_ref15_Disk : Kd ref15_Disk where
  sz := 4
  ok Z w cs x := ∃ (A0 : Option Addr) (c0 : Nat) (A1 : Option Addr) (c1 : Nat) (A2 : Option Addr) (c2 : Nat), cs = [.slice A0 x.L.length c0, .slice A1 x.Torn.length c1, .slice A2 x.P.length c2, .int .i64 x.Fused] ∧ Rows (kSlice kByte) Z w A0 c0 x.L ∧ Rows kBool Z w A1 c1 x.Torn ∧ Rows k_ref15_Write Z w A2 c2 x.P
  len := fun {_ _ _ x} h => by obtain ⟨_, _, _, _, _, _, rfl, _, _, _⟩ := h; exact rfl
  one := fun {_ _ _ x} h => by obtain ⟨_, _, _, _, _, _, rfl, _, _, _⟩ := h; intro c hc; simp only [List.mem_cons, List.not_mem_nil, or_false] at hc; rcases hc with rfl | rfl | rfl | rfl <;> rfl
  stb h hz hs := by obtain ⟨_, _, _, _, _, _, rfl, h0, h1, h2⟩ := h; exact ⟨_, _, _, _, _, _, rfl, h0.stb hz hs, h1.stb hz hs, h2.stb hz hs⟩
theorem Hp.open_ref15_Disk {w0 w : World} {ps : List PF} {fs : List SF} {cs : List Value} {x : ref15_Disk} (H : Hp w0 ps fs w) (i : Nat) (hi : ps[i]? = some (says k_ref15_Disk cs x)) : ∃ (A0 : Option Addr) (c0 : Nat) (A1 : Option Addr) (c1 : Nat) (A2 : Option Addr) (c2 : Nat), cs = [.slice A0 x.L.length c0, .slice A1 x.Torn.length c1, .slice A2 x.P.length c2, .int .i64 x.Fused] ∧ Hp w0 (rd (kSlice kByte) A0 c0 x.L :: rd kBool A1 c1 x.Torn :: rd k_ref15_Write A2 c2 x.P :: ps) fs w := by
  obtain ⟨Z, H⟩ := H
  obtain ⟨A0, c0, A1, c1, A2, c2, h, h0, h1, h2⟩ := H.pers _ (List.mem_of_getElem? hi)
  refine ⟨A0, c0, A1, c1, A2, c2, h, Z, H.os, H.tape, H.output, H.old, H.size, H.zlt, fun p hp => ?_, H.sep⟩
  simp only [List.mem_cons] at hp
  rcases hp with rfl | rfl | rfl | hp
  · exact h0
  · exact h1
  · exact h2
  exact H.pers p hp
def obj_disk_Disk (g : Nat) (x : disk_Disk) : SF := exF fun (y : (Option Addr × Nat) × (Option Addr × Nat) × Nat) => star [cel g [.slice y.1.1 x.sectors.length y.1.2, .map (some y.2.2), .slice y.2.1.1 x.pending.length y.2.1.2, .int .i64 x.fuse] 57, own (kA 64) 67 y.1.1 y.1.2 x.sectors, own k_disk_write 69 y.2.1.1 y.2.1.2 x.pending, imap y.2.2 x.torn]
theorem Hp.openO_disk_Disk {w0 w : World} {ps : List PF} {fs : List SF} {g : Nat}  {x : disk_Disk} (H : Hp w0 ps (obj_disk_Disk g x :: fs) w) : ∃ (A0 : Option Addr) (c0 : Nat) (A1 : Option Addr) (c1 : Nat) (m2 : Nat), Hp w0 (ps) (cel g [.slice A0 x.sectors.length c0, .map (some m2), .slice A1 x.pending.length c1, .int .i64 x.fuse] 57 :: own (kA 64) 67 A0 c0 x.sectors :: own k_disk_write 69 A1 c1 x.pending :: imap m2 x.torn :: fs) w := by
  obtain ⟨y, H⟩ := Hp.openEx H
  replace H := Hp.openStar H
  exact ⟨y.1.1, y.1.2, y.2.1.1, y.2.1.2, y.2.2, H⟩
theorem Hp.closeO_disk_Disk {w0 w : World} {ps : List PF} {fs : List SF} {g : Nat}  {x : disk_Disk} {A0 : Option Addr} {c0 : Nat} {A1 : Option Addr} {c1 : Nat} {m2 : Nat} (H : Hp w0 ps (cel g [.slice A0 x.sectors.length c0, .map (some m2), .slice A1 x.pending.length c1, .int .i64 x.fuse] 57 :: own (kA 64) 67 A0 c0 x.sectors :: own k_disk_write 69 A1 c1 x.pending :: imap m2 x.torn :: fs) w) : Hp w0 ps (obj_disk_Disk g x :: fs) w := by
  refine Hp.closeEx ((A0, c0), (A1, c1), m2) (Hp.closeStar ?_)
  exact H.arr 0 [] 4 [0, 0, 0, 0] rfl rfl
def obj_ref15_Disk (g : Nat) (x : ref15_Disk) : SF := exF fun (y : (Option Addr × Nat) × (Option Addr × Nat) × (Option Addr × Nat)) => star [cel g [.slice y.1.1 x.L.length y.1.2, .slice y.2.1.1 x.Torn.length y.2.1.2, .slice y.2.2.1 x.P.length y.2.2.2, .int .i64 x.Fused] 61, own (kSlice kByte) 31 y.1.1 y.1.2 x.L, own kBool 4 y.2.1.1 y.2.1.2 x.Torn, own k_ref15_Write 73 y.2.2.1 y.2.2.2 x.P]
theorem Hp.openO_ref15_Disk {w0 w : World} {ps : List PF} {fs : List SF} {g : Nat}  {x : ref15_Disk} (H : Hp w0 ps (obj_ref15_Disk g x :: fs) w) : ∃ (A0 : Option Addr) (c0 : Nat) (A1 : Option Addr) (c1 : Nat) (A2 : Option Addr) (c2 : Nat), Hp w0 (ps) (cel g [.slice A0 x.L.length c0, .slice A1 x.Torn.length c1, .slice A2 x.P.length c2, .int .i64 x.Fused] 61 :: own (kSlice kByte) 31 A0 c0 x.L :: own kBool 4 A1 c1 x.Torn :: own k_ref15_Write 73 A2 c2 x.P :: fs) w := by
  obtain ⟨y, H⟩ := Hp.openEx H
  replace H := Hp.openStar H
  exact ⟨y.1.1, y.1.2, y.2.1.1, y.2.1.2, y.2.2.1, y.2.2.2, H⟩
theorem Hp.closeO_ref15_Disk {w0 w : World} {ps : List PF} {fs : List SF} {g : Nat}  {x : ref15_Disk} {A0 : Option Addr} {c0 : Nat} {A1 : Option Addr} {c1 : Nat} {A2 : Option Addr} {c2 : Nat} (H : Hp w0 ps (cel g [.slice A0 x.L.length c0, .slice A1 x.Torn.length c1, .slice A2 x.P.length c2, .int .i64 x.Fused] 61 :: own (kSlice kByte) 31 A0 c0 x.L :: own kBool 4 A1 c1 x.Torn :: own k_ref15_Write 73 A2 c2 x.P :: fs) w) : Hp w0 ps (obj_ref15_Disk g x :: fs) w := by
  refine Hp.closeEx ((A0, c0), (A1, c1), (A2, c2)) (Hp.closeStar ?_)
  exact H.arr 0 [] 4 [0, 0, 0, 0] rfl rfl
def slices_Clone_f (a0 : List Int) : Option (List Int) :=
  (if (0 + a0.length) * 1 ≤ 140737488355328 then some a0 else none)
set_option maxHeartbeats 4000000 in
set_option maxRecDepth 20000 in
theorem slices_Clone_ok {w0 w : World} {ps : List PF} {fs : List SF} {a0 : List Int} {A0_ : Option Addr} {c0_ : Nat} {r0 : List Int} (H : Hp w0 (rd kByte A0_ c0_ a0 :: ps) fs w) (h : slices_Clone_f a0 = some r0) :
    Calls Try.prog 32 [.slice A0_ a0.length c0_].toArray w fun e w' => ∃ v, e = .returned v ∧ ∃ (A0 : Option Addr) (c0 : Nat), v = .slice A0 r0.length c0 ∧ Hp w0 ps (own kByte 5 A0 c0 r0 :: fs) w' := by
  refine enter [.slice A0_ a0.length c0_] 8 Try.func32 fun Q a NP RET NRM F => ?_
  replace NP : ∀ c a w, ¬ Q (.panic c) a w := fun c a w h => by rcases NP c a w h with h | ⟨w, v, h, _⟩ <;> cases h
  unfold slices_Clone_f at h
  refine rg ?_
  refine as_ F (v := .slice none 0 0) rfl fun a F => ?_
  refine rgend ?_
  refine wp_seq ?_
  refine rg ?_
  refine mv F rfl fun a F => ?_
  rcases A0_ with _ | A1
  · skip
    obtain rfl := H.rdnil 0 rfl
    try (obtain ⟨_, h⟩ := guardO h)
    refine ls (qv F (r_snil (F.ev (x := .tmp 3) rfl) (F.ev (x := .const (.slice none 0 0)) rfl) Try.underlying31) fun a F => ?_)
    refine rgend ?_
    refine wp_cond_true (F.ev rfl) ?_
    refine rg ?_
    refine as_ F (v := .slice none 0 0) rfl fun a F => ?_
    refine rgend ?_
    replace F := F.only [2] (l' := [(2, .slice none 0 0)]) rfl
    refine wp_ret ?_
    replace H := H.nilOwn kByte 5
    try dsimp only at h
    obtain rfl := Option.some.inj h
    exact RET _ _ (ret1 F rfl rfl ⟨_, rfl, none, 0, rfl, H.px0⟩)
  · skip
    refine ls (qv F (r_snil (F.ev (x := .tmp 3) rfl) (F.ev (x := .const (.slice none 0 0)) rfl) Try.underlying31) fun a F => ?_)
    refine rgend ?_
    refine wp_cond_false (F.ev rfl) ?_
    refine wp_skip ?_
    refine rg ?_
    refine ls (lbs F H (e := 5) (vs := []) (cs := []) rfl (fun w => by kernel_rfl) fun g2 w a H F => ?_)
    refine mv F rfl fun a F => ?_
    replace H := Hp.litOwn (kd := kByte) (xs := []) (H) (SayL.nil) (Nat.le_of_ble_eq_true rfl)
    obtain ⟨c3, h⟩ := guardO h
    obtain ⟨A4, c5, _, hr, H⟩ := Hp.appendRd (kd := kByte) (xs := []) (ys := a0) (H) 0 rfl (F.ev (x := .tmp 5) rfl) (F.ev (x := .tmp 6) rfl) Try.underlying31 ti5 rfl (by decide) (by decide) c3
    rw [List.nil_append] at hr H
    refine ls (qv F (hr _ _ _ _ _) fun a F => ?_)
    refine as_ F rfl fun a F => ?_
    refine rgend ?_
    replace F := F.only [2] (l' := [(2, .slice A4 a0.length c5)]) rfl
    refine wp_ret ?_
    try dsimp only at h
    obtain rfl := Option.some.inj h
    exact RET _ _ (ret1 F rfl rfl ⟨_, rfl, A4, c5, rfl, H.px0⟩)
def disk_Disk_there_f (a0 : disk_Disk) (a1 : Int) : Option (Bool) :=
  (((if a1 ≥ 0 then some ((decide (a1 < (a0.sectors.length : Int)))) else some false) : Option (Bool)).bind fun x1 => some x1)
set_option maxHeartbeats 4000000 in
set_option maxRecDepth 20000 in
theorem disk_Disk_there_ok {w0 w : World} {ps : List PF} {fs : List SF} {a0 : disk_Disk} {g0_ : Nat} {a1 : Int} {r0 : Bool} (H : Hp w0 ps (obj_disk_Disk g0_ a0 :: fs) w) (h : disk_Disk_there_f a0 a1 = some r0) :
    Calls Try.prog 30 [.pointer (some ⟨g0_, 0, none⟩), .int .i64 a1].toArray w fun e w' => ∃ v, e = .returned v ∧ v = .bool r0 ∧ Hp w0 ps (obj_disk_Disk g0_ a0 :: fs) w' := by
  refine enter [.pointer (some ⟨g0_, 0, none⟩), .int .i64 a1] 16 Try.func30 fun Q a NP RET NRM F => ?_
  replace NP : ∀ c a w, ¬ Q (.panic c) a w := fun c a w h => by rcases NP c a w h with h | ⟨w, v, h, _⟩ <;> cases h
  unfold disk_Disk_there_f at h
  refine rg ?_
  refine as_ F (v := .bool false) rfl fun a F => ?_
  refine rgend ?_
  refine wp_seq ?_
  obtain ⟨o_1, k_1, h⟩ := Option.bind_eq_some_iff.1 h
  refine cut (fun a w => ∃ (x1 : Bool), x1 = o_1 ∧ Fr 16 [] [(4, .bool x1)] a ∧ Hp w0 ps (obj_disk_Disk g0_ a0 :: fs) w) ?_ ?_
  · skip
    refine wp_region_lit ?_
    refine mv F rfl fun a F => ?_
    refine ls (qv F (r_ge (F.ev (x := .tmp 5) rfl) (F.ev (x := .const (.int .i64 0)) rfl)) fun a F => ?_)
    refine mv F rfl fun a F => ?_
    by_cases c3 : a1 ≥ 0
    · rw [if_pos c3] at k_1
      rw [decide_eq_true c3] at F
      refine mv F rfl fun a F => ?_
      refine mv F rfl fun a F => ?_
      refine ls (qv F (r_nc (F.ev (x := .tmp 9) rfl)) fun a F => ?_)
      refine ls (qv F (r_fa (off := 0) (F.ev (x := .tmp 10) rfl) fa57_0) fun a F => ?_)
      obtain ⟨A4, c5, A7, c8, g6, H⟩ := Hp.openO_disk_Disk (H)
      refine ls (qv F (r_ld (F.ev (x := .tmp 11) rfl) (cel_cell (o := 0) (H.cell 0 rfl) rfl) one53) fun a F => ?_)
      refine ls (qv F (r_len (F.ev (x := .tmp 12) rfl) Try.underlying53) fun a F => ?_)
      refine ls (qv F (r_lt (F.ev (x := .tmp 8) rfl) (F.ev (x := .tmp 13) rfl)) fun a F => ?_)
      refine ls (qv F (r_pickT (F.ev (x := .tmp 7) rfl) (F.ev (x := .tmp 14) rfl)) fun a F => ?_)
      refine as_ F rfl fun a F => ?_
      refine wpList_nil ?_
      replace F := F.only [4] (l' := [(4, .bool (decide (a1 < (a0.sectors.length : Int))))]) rfl
      replace H := Hp.closeO_disk_Disk (x := a0) (H)
      try dsimp only at k_1
      obtain rfl := Option.some.inj k_1
      exact ⟨_, rfl, F.only [4] rfl, H⟩
    · rw [if_neg c3] at k_1
      rw [decide_eq_false c3] at F
      refine ls (off F fun a F => ?_)
      refine ls (off F fun a F => ?_)
      refine ls (off F fun a F => ?_)
      refine ls (off F fun a F => ?_)
      refine ls (off F fun a F => ?_)
      refine ls (off F fun a F => ?_)
      refine ls (off F fun a F => ?_)
      refine ls (qv F (r_pickF (F.ev (x := .tmp 7) rfl) (F.ev (x := .const (.bool false)) rfl)) fun a F => ?_)
      refine as_ F rfl fun a F => ?_
      refine wpList_nil ?_
      replace F := F.only [4] (l' := [(4, .bool false)]) rfl
      try dsimp only at k_1
      obtain rfl := Option.some.inj k_1
      exact ⟨_, rfl, F.only [4] rfl, H⟩
  · rintro a w ⟨x1, rfl, F, H⟩
    try dsimp only at h F H
    refine wp_ret ?_
    try dsimp only at h
    obtain rfl := Option.some.inj h
    exact RET _ _ (ret1 F rfl rfl ⟨_, rfl, rfl, H⟩)
def disk_Disk_Sectors_f (a0 : disk_Disk) : Option (Int) :=
  some (a0.sectors.length : Int)
set_option maxHeartbeats 4000000 in
set_option maxRecDepth 20000 in
theorem disk_Disk_Sectors_ok {w0 w : World} {ps : List PF} {fs : List SF} {a0 : disk_Disk} {g0_ : Nat} {r0 : Int} (H : Hp w0 ps (obj_disk_Disk g0_ a0 :: fs) w) (h : disk_Disk_Sectors_f a0 = some r0) :
    Calls Try.prog 18 [.pointer (some ⟨g0_, 0, none⟩)].toArray w fun e w' => ∃ v, e = .returned v ∧ v = .int .i64 r0 ∧ Hp w0 ps (obj_disk_Disk g0_ a0 :: fs) w' := by
  refine enter [.pointer (some ⟨g0_, 0, none⟩)] 8 Try.func18 fun Q a NP RET NRM F => ?_
  replace NP : ∀ c a w, ¬ Q (.panic c) a w := fun c a w h => by rcases NP c a w h with h | ⟨w, v, h, _⟩ <;> cases h
  unfold disk_Disk_Sectors_f at h
  refine rg ?_
  refine as_ F (v := .int .i64 0) rfl fun a F => ?_
  refine rgend ?_
  refine rg ?_
  refine mv F rfl fun a F => ?_
  refine ls (qv F (r_nc (F.ev (x := .tmp 3) rfl)) fun a F => ?_)
  refine ls (qv F (r_fa (off := 0) (F.ev (x := .tmp 4) rfl) fa57_0) fun a F => ?_)
  obtain ⟨A1, c2, A4, c5, g3, H⟩ := Hp.openO_disk_Disk (H)
  refine ls (qv F (r_ld (F.ev (x := .tmp 5) rfl) (cel_cell (o := 0) (H.cell 0 rfl) rfl) one53) fun a F => ?_)
  refine ls (qv F (r_len (F.ev (x := .tmp 6) rfl) Try.underlying53) fun a F => ?_)
  refine as_ F rfl fun a F => ?_
  refine rgend ?_
  replace F := F.only [2] (l' := [(2, .int .i64 (a0.sectors.length : Int))]) rfl
  refine wp_ret ?_
  replace H := Hp.closeO_disk_Disk (x := a0) (H)
  try dsimp only at h
  obtain rfl := Option.some.inj h
  exact RET _ _ (ret1 F rfl rfl ⟨_, rfl, rfl, H⟩)
def disk_Disk_Pending_f (a0 : disk_Disk) : Option (Int) :=
  some (a0.pending.length : Int)
set_option maxHeartbeats 4000000 in
set_option maxRecDepth 20000 in
theorem disk_Disk_Pending_ok {w0 w : World} {ps : List PF} {fs : List SF} {a0 : disk_Disk} {g0_ : Nat} {r0 : Int} (H : Hp w0 ps (obj_disk_Disk g0_ a0 :: fs) w) (h : disk_Disk_Pending_f a0 = some r0) :
    Calls Try.prog 16 [.pointer (some ⟨g0_, 0, none⟩)].toArray w fun e w' => ∃ v, e = .returned v ∧ v = .int .i64 r0 ∧ Hp w0 ps (obj_disk_Disk g0_ a0 :: fs) w' := by
  refine enter [.pointer (some ⟨g0_, 0, none⟩)] 8 Try.func16 fun Q a NP RET NRM F => ?_
  replace NP : ∀ c a w, ¬ Q (.panic c) a w := fun c a w h => by rcases NP c a w h with h | ⟨w, v, h, _⟩ <;> cases h
  unfold disk_Disk_Pending_f at h
  refine rg ?_
  refine as_ F (v := .int .i64 0) rfl fun a F => ?_
  refine rgend ?_
  refine rg ?_
  refine mv F rfl fun a F => ?_
  refine ls (qv F (r_nc (F.ev (x := .tmp 3) rfl)) fun a F => ?_)
  refine ls (qv F (r_fa (off := 2) (F.ev (x := .tmp 4) rfl) fa57_2) fun a F => ?_)
  obtain ⟨A1, c2, A4, c5, g3, H⟩ := Hp.openO_disk_Disk (H)
  refine ls (qv F (r_ld (F.ev (x := .tmp 5) rfl) (cel_cell (o := 2) (H.cell 0 rfl) rfl) one55) fun a F => ?_)
  refine ls (qv F (r_len (F.ev (x := .tmp 6) rfl) Try.underlying55) fun a F => ?_)
  refine as_ F rfl fun a F => ?_
  refine rgend ?_
  replace F := F.only [2] (l' := [(2, .int .i64 (a0.pending.length : Int))]) rfl
  refine wp_ret ?_
  replace H := Hp.closeO_disk_Disk (x := a0) (H)
  try dsimp only at h
  obtain rfl := Option.some.inj h
  exact RET _ _ (ret1 F rfl rfl ⟨_, rfl, rfl, H⟩)
def ref15_Disk_Pending_f (a0 : ref15_Disk) : Option (Int) :=
  some (a0.P.length : Int)
set_option maxHeartbeats 4000000 in
set_option maxRecDepth 20000 in
theorem ref15_Disk_Pending_ok {w0 w : World} {ps : List PF} {fs : List SF} {a0 : ref15_Disk} {g0_ : Nat} {r0 : Int} (H : Hp w0 ps (obj_ref15_Disk g0_ a0 :: fs) w) (h : ref15_Disk_Pending_f a0 = some r0) :
    Calls Try.prog 17 [.pointer (some ⟨g0_, 0, none⟩)].toArray w fun e w' => ∃ v, e = .returned v ∧ v = .int .i64 r0 ∧ Hp w0 ps (obj_ref15_Disk g0_ a0 :: fs) w' := by
  refine enter [.pointer (some ⟨g0_, 0, none⟩)] 8 Try.func17 fun Q a NP RET NRM F => ?_
  replace NP : ∀ c a w, ¬ Q (.panic c) a w := fun c a w h => by rcases NP c a w h with h | ⟨w, v, h, _⟩ <;> cases h
  unfold ref15_Disk_Pending_f at h
  refine rg ?_
  refine as_ F (v := .int .i64 0) rfl fun a F => ?_
  refine rgend ?_
  refine rg ?_
  refine mv F rfl fun a F => ?_
  refine ls (qv F (r_nc (F.ev (x := .tmp 3) rfl)) fun a F => ?_)
  refine ls (qv F (r_fa (off := 2) (F.ev (x := .tmp 4) rfl) fa61_2) fun a F => ?_)
  obtain ⟨A1, c2, A3, c4, A5, c6, H⟩ := Hp.openO_ref15_Disk (H)
  refine ls (qv F (r_ld (F.ev (x := .tmp 5) rfl) (cel_cell (o := 2) (H.cell 0 rfl) rfl) one59) fun a F => ?_)
  refine ls (qv F (r_len (F.ev (x := .tmp 6) rfl) Try.underlying59) fun a F => ?_)
  refine as_ F rfl fun a F => ?_
  refine rgend ?_
  replace F := F.only [2] (l' := [(2, .int .i64 (a0.P.length : Int))]) rfl
  refine wp_ret ?_
  replace H := Hp.closeO_ref15_Disk (x := a0) (H)
  try dsimp only at h
  obtain rfl := Option.some.inj h
  exact RET _ _ (ret1 F rfl rfl ⟨_, rfl, rfl, H⟩)
end Go.Proofs.Ytddfdbpjldcjiaa
