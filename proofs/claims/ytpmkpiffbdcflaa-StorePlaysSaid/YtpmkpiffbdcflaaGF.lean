/- What the functions compute. Printed by wip/gen. -/
import Derived.Test.YtpmkpiffbdcflaaTight
import Derived.Test.YtpmkpiffbdcflaaProg
set_option linter.unusedVariables false
set_option linter.unusedSimpArgs false
set_option maxHeartbeats 4000000
set_option maxRecDepth 20000
namespace Go.Proofs.Ytpmkpiffbdcflaa
open Go Go.RowKit
theorem ti3 : TI Try.prog 3 (.int .i64 0) 1 8 := by unfold TI; kernel_rfl
theorem ti4 : TI Try.prog 4 (.bool false) 1 1 := by unfold TI; kernel_rfl
theorem ti5 : TI Try.prog 5 (.int .u8 0) 1 1 := by unfold TI; kernel_rfl
theorem ti29 : TI Try.prog 29 (.slice none 0 0) 1 24 := by unfold TI; kernel_rfl
theorem ti32 : TI Try.prog 32 (.agg #[.int .i64 0, .slice none 0 0, .slice none 0 0, .slice none 0 0]) 4 80 := by unfold TI; kernel_rfl
theorem ti36 : TI Try.prog 36 (.int .i64 0) 1 8 := by unfold TI; kernel_rfl
theorem ti53 : TI Try.prog 53 (.agg #[.int .i64 0, .int .i64 0, .int .i64 0, .int .i64 0, .slice none 0 0]) 5 56 := by unfold TI; kernel_rfl
theorem ti89 : TI Try.prog 89 (.agg #[.int .u8 0, .int .u8 0, .int .u8 0, .int .u8 0, .int .u8 0, .int .u8 0, .int .u8 0, .int .u8 0, .int .u8 0, .int .u8 0, .int .u8 0, .int .u8 0, .int .u8 0, .int .u8 0, .int .u8 0, .int .u8 0, .int .u8 0, .int .u8 0, .int .u8 0, .int .u8 0, .int .u8 0, .int .u8 0, .int .u8 0, .int .u8 0, .int .u8 0, .int .u8 0, .int .u8 0, .int .u8 0, .int .u8 0, .int .u8 0, .int .u8 0, .int .u8 0, .int .u8 0, .int .u8 0, .int .u8 0, .int .u8 0, .int .u8 0, .int .u8 0, .int .u8 0, .int .u8 0, .int .u8 0, .int .u8 0, .int .u8 0, .int .u8 0, .int .u8 0, .int .u8 0, .int .u8 0, .int .u8 0, .int .u8 0, .int .u8 0, .int .u8 0, .int .u8 0, .int .u8 0, .int .u8 0, .int .u8 0, .int .u8 0, .int .u8 0, .int .u8 0, .int .u8 0, .int .u8 0, .int .u8 0, .int .u8 0, .int .u8 0, .int .u8 0]) 64 64 := by unfold TI; kernel_rfl
theorem ti90 : TI Try.prog 90 (.agg #[.int .u8 0, .int .u8 0, .int .u8 0, .int .u8 0, .int .u8 0, .int .u8 0, .int .u8 0, .int .u8 0, .int .u8 0, .int .u8 0, .int .u8 0, .int .u8 0, .int .u8 0, .int .u8 0, .int .u8 0, .int .u8 0, .int .u8 0, .int .u8 0, .int .u8 0, .int .u8 0, .int .u8 0, .int .u8 0, .int .u8 0, .int .u8 0, .int .u8 0, .int .u8 0, .int .u8 0, .int .u8 0, .int .u8 0, .int .u8 0, .int .u8 0, .int .u8 0, .int .u8 0, .int .u8 0, .int .u8 0, .int .u8 0, .int .u8 0, .int .u8 0, .int .u8 0, .int .u8 0, .int .u8 0, .int .u8 0, .int .u8 0, .int .u8 0, .int .u8 0, .int .u8 0, .int .u8 0, .int .u8 0, .int .u8 0, .int .u8 0, .int .u8 0, .int .u8 0, .int .u8 0, .int .u8 0, .int .u8 0, .int .u8 0, .int .u8 0, .int .u8 0, .int .u8 0, .int .u8 0, .int .u8 0, .int .u8 0, .int .u8 0, .int .u8 0]) 64 64 := by unfold TI; kernel_rfl
theorem ti92 : TI Try.prog 92 (.agg #[.int .i64 0, .int .u8 0, .int .u8 0, .int .u8 0, .int .u8 0, .int .u8 0, .int .u8 0, .int .u8 0, .int .u8 0, .int .u8 0, .int .u8 0, .int .u8 0, .int .u8 0, .int .u8 0, .int .u8 0, .int .u8 0, .int .u8 0, .int .u8 0, .int .u8 0, .int .u8 0, .int .u8 0, .int .u8 0, .int .u8 0, .int .u8 0, .int .u8 0, .int .u8 0, .int .u8 0, .int .u8 0, .int .u8 0, .int .u8 0, .int .u8 0, .int .u8 0, .int .u8 0, .int .u8 0, .int .u8 0, .int .u8 0, .int .u8 0, .int .u8 0, .int .u8 0, .int .u8 0, .int .u8 0, .int .u8 0, .int .u8 0, .int .u8 0, .int .u8 0, .int .u8 0, .int .u8 0, .int .u8 0, .int .u8 0, .int .u8 0, .int .u8 0, .int .u8 0, .int .u8 0, .int .u8 0, .int .u8 0, .int .u8 0, .int .u8 0, .int .u8 0, .int .u8 0, .int .u8 0, .int .u8 0, .int .u8 0, .int .u8 0, .int .u8 0, .int .u8 0]) 65 72 := by unfold TI; kernel_rfl
theorem ti96 : TI Try.prog 96 (.agg #[.int .i64 0, .slice none 0 0]) 2 32 := by unfold TI; kernel_rfl
theorem ti105 : TI Try.prog 105 (.agg #[.pointer none, .int .i64 0, .int .i64 0]) 3 24 := by unfold TI; kernel_rfl
theorem ti130 : TI Try.prog 130 (.agg #[.int .i64 0, .int .i64 0, .int .i64 0, .int .i64 0]) 4 32 := by unfold TI; kernel_rfl
theorem one2 : oneB Try.prog 2 = true := by kernel_rfl
theorem one3 : oneB Try.prog 3 = true := by kernel_rfl
theorem one4 : oneB Try.prog 4 = true := by kernel_rfl
theorem one5 : oneB Try.prog 5 = true := by kernel_rfl
theorem one24 : oneB Try.prog 24 = true := by kernel_rfl
theorem one27 : oneB Try.prog 27 = true := by kernel_rfl
theorem one29 : oneB Try.prog 29 = true := by kernel_rfl
theorem one30 : oneB Try.prog 30 = true := by kernel_rfl
theorem one33 : oneB Try.prog 33 = true := by kernel_rfl
theorem one36 : oneB Try.prog 36 = true := by kernel_rfl
theorem one54 : oneB Try.prog 54 = true := by kernel_rfl
theorem one67 : oneB Try.prog 67 = true := by kernel_rfl
theorem one68 : oneB Try.prog 68 = true := by kernel_rfl
theorem one69 : oneB Try.prog 69 = true := by kernel_rfl
theorem one86 : oneB Try.prog 86 = true := by kernel_rfl
theorem sz3 : szB Try.prog 3 1 = true := by kernel_rfl
theorem sz4 : szB Try.prog 4 1 = true := by kernel_rfl
theorem sz5 : szB Try.prog 5 1 = true := by kernel_rfl
theorem sz29 : szB Try.prog 29 1 = true := by kernel_rfl
theorem sz30 : szB Try.prog 30 1 = true := by kernel_rfl
theorem sz32 : szB Try.prog 32 4 = true := by kernel_rfl
theorem sz33 : szB Try.prog 33 1 = true := by kernel_rfl
theorem sz35 : szB Try.prog 35 6 = true := by kernel_rfl
theorem sz36 : szB Try.prog 36 1 = true := by kernel_rfl
theorem sz53 : szB Try.prog 53 5 = true := by kernel_rfl
theorem sz69 : szB Try.prog 69 1 = true := by kernel_rfl
theorem sz86 : szB Try.prog 86 1 = true := by kernel_rfl
theorem sz89 : szB Try.prog 89 64 = true := by kernel_rfl
theorem sz90 : szB Try.prog 90 64 = true := by kernel_rfl
theorem sz92 : szB Try.prog 92 65 = true := by kernel_rfl
theorem sz96 : szB Try.prog 96 2 = true := by kernel_rfl
theorem sz105 : szB Try.prog 105 3 = true := by kernel_rfl
theorem sz130 : szB Try.prog 130 4 = true := by kernel_rfl
theorem agg32 : aggB Try.prog 32 4 = true := by kernel_rfl
theorem agg35 : aggB Try.prog 35 6 = true := by kernel_rfl
theorem agg53 : aggB Try.prog 53 5 = true := by kernel_rfl
theorem agg89 : aggB Try.prog 89 64 = true := by kernel_rfl
theorem agg90 : aggB Try.prog 90 64 = true := by kernel_rfl
theorem agg92 : aggB Try.prog 92 65 = true := by kernel_rfl
theorem agg96 : aggB Try.prog 96 2 = true := by kernel_rfl
theorem agg105 : aggB Try.prog 105 3 = true := by kernel_rfl
theorem agg130 : aggB Try.prog 130 4 = true := by kernel_rfl
theorem fa32_0 : fldB Try.prog 32 0 0 = true := by kernel_rfl
theorem fa32_1 : fldB Try.prog 32 1 1 = true := by kernel_rfl
theorem fa32_2 : fldB Try.prog 32 2 2 = true := by kernel_rfl
theorem fa32_3 : fldB Try.prog 32 3 3 = true := by kernel_rfl
theorem fa35_0 : fldB Try.prog 35 0 0 = true := by kernel_rfl
theorem fa35_1 : fldB Try.prog 35 1 1 = true := by kernel_rfl
theorem fa35_2 : fldB Try.prog 35 2 2 = true := by kernel_rfl
theorem fa35_3 : fldB Try.prog 35 3 3 = true := by kernel_rfl
theorem fa35_4 : fldB Try.prog 35 4 4 = true := by kernel_rfl
theorem fa35_5 : fldB Try.prog 35 5 5 = true := by kernel_rfl
theorem fa53_0 : fldB Try.prog 53 0 0 = true := by kernel_rfl
theorem fa53_1 : fldB Try.prog 53 1 1 = true := by kernel_rfl
theorem fa53_2 : fldB Try.prog 53 2 2 = true := by kernel_rfl
theorem fa53_3 : fldB Try.prog 53 3 3 = true := by kernel_rfl
theorem fa53_4 : fldB Try.prog 53 4 4 = true := by kernel_rfl
theorem fa71_0 : fldB Try.prog 71 0 0 = true := by kernel_rfl
theorem fa71_1 : fldB Try.prog 71 1 1 = true := by kernel_rfl
theorem fa71_2 : fldB Try.prog 71 2 2 = true := by kernel_rfl
theorem fa71_3 : fldB Try.prog 71 3 3 = true := by kernel_rfl
theorem fa73_0 : fldB Try.prog 73 0 0 = true := by kernel_rfl
theorem fa73_1 : fldB Try.prog 73 1 1 = true := by kernel_rfl
theorem fa73_2 : fldB Try.prog 73 2 5 = true := by kernel_rfl
theorem fa73_3 : fldB Try.prog 73 3 6 = true := by kernel_rfl
theorem fa73_4 : fldB Try.prog 73 4 7 = true := by kernel_rfl
theorem fa73_5 : fldB Try.prog 73 5 8 = true := by kernel_rfl
theorem fa88_0 : fldB Try.prog 88 0 0 = true := by kernel_rfl
theorem fa88_1 : fldB Try.prog 88 1 1 = true := by kernel_rfl
theorem fa88_2 : fldB Try.prog 88 2 2 = true := by kernel_rfl
theorem fa88_3 : fldB Try.prog 88 3 3 = true := by kernel_rfl
theorem fa92_0 : fldB Try.prog 92 0 0 = true := by kernel_rfl
theorem fa92_1 : fldB Try.prog 92 1 1 = true := by kernel_rfl
theorem fa96_0 : fldB Try.prog 96 0 0 = true := by kernel_rfl
theorem fa96_1 : fldB Try.prog 96 1 1 = true := by kernel_rfl
theorem fa101_0 : fldB Try.prog 101 0 0 = true := by kernel_rfl
theorem fa101_1 : fldB Try.prog 101 1 1 = true := by kernel_rfl
theorem fa101_2 : fldB Try.prog 101 2 5 = true := by kernel_rfl
theorem fa101_3 : fldB Try.prog 101 3 6 = true := by kernel_rfl
theorem fa101_4 : fldB Try.prog 101 4 7 = true := by kernel_rfl
theorem fa101_5 : fldB Try.prog 101 5 8 = true := by kernel_rfl
theorem fa105_0 : fldB Try.prog 105 0 0 = true := by kernel_rfl
theorem fa105_1 : fldB Try.prog 105 1 1 = true := by kernel_rfl
theorem fa105_2 : fldB Try.prog 105 2 2 = true := by kernel_rfl
theorem fa130_0 : fldB Try.prog 130 0 0 = true := by kernel_rfl
theorem fa130_1 : fldB Try.prog 130 1 1 = true := by kernel_rfl
theorem fa130_2 : fldB Try.prog 130 2 2 = true := by kernel_rfl
theorem fa130_3 : fldB Try.prog 130 3 3 = true := by kernel_rfl
structure api_Sector where
  Gen : Int
  Place : Int
  Parts : Int
  Kept : Int
  Body : List Int
deriving DecidableEq, Inhabited
def k_api_Sector : Kd api_Sector where
  sz := 5
  ok Z w cs x := ∃ (A4 : Option Addr) (c4 : Nat), cs = [.int .i64 x.Gen, .int .i64 x.Place, .int .i64 x.Parts, .int .i64 x.Kept, .slice A4 x.Body.length c4] ∧ Rows kByte Z w A4 c4 x.Body
  len := fun {_ _ _ x} h => by obtain ⟨_, _, rfl, _⟩ := h; exact rfl
  one := fun {_ _ _ x} h => by obtain ⟨_, _, rfl, _⟩ := h; intro c hc; simp only [List.mem_cons, List.not_mem_nil, or_false] at hc; rcases hc with rfl | rfl | rfl | rfl | rfl <;> rfl
  stb h hz hs := by obtain ⟨_, _, rfl, h4⟩ := h; exact ⟨_, _, rfl, h4.stb hz hs⟩
theorem Hp.open_api_Sector {w0 w : World} {ps : List PF} {fs : List SF} {cs : List Value} {x : api_Sector} (H : Hp w0 ps fs w) (i : Nat) (hi : ps[i]? = some (says k_api_Sector cs x)) : ∃ (A4 : Option Addr) (c4 : Nat), cs = [.int .i64 x.Gen, .int .i64 x.Place, .int .i64 x.Parts, .int .i64 x.Kept, .slice A4 x.Body.length c4] ∧ Hp w0 (rd kByte A4 c4 x.Body :: ps) fs w := by
  obtain ⟨Z, H⟩ := H
  obtain ⟨A4, c4, h, h4⟩ := H.pers _ (List.mem_of_getElem? hi)
  refine ⟨A4, c4, h, Z, H.os, H.tape, H.output, H.old, H.size, H.zlt, fun p hp => ?_, H.sep⟩
  simp only [List.mem_cons] at hp
  rcases hp with rfl | hp
  · exact h4
  exact H.pers p hp
structure sector_field where
  n : Int
  many : Int
  least : Int
  most : Int
deriving DecidableEq, Inhabited
def k_sector_field : Kd sector_field where
  sz := 4
  ok Z w cs x := cs = [.int .i64 x.n, .int .i64 x.many, .int .i64 x.least, .int .i64 x.most]
  len := fun {_ _ _ x} h => by subst h; exact rfl
  one := fun {_ _ _ x} h => by subst h; intro c hc; simp only [List.mem_cons, List.not_mem_nil, or_false] at hc; rcases hc with rfl | rfl | rfl | rfl <;> rfl
  stb h hz hs := by exact h
theorem Hp.open_sector_field {w0 w : World} {ps : List PF} {fs : List SF} {cs : List Value} {x : sector_field} (H : Hp w0 ps fs w) (i : Nat) (hi : ps[i]? = some (says k_sector_field cs x)) : cs = [.int .i64 x.n, .int .i64 x.many, .int .i64 x.least, .int .i64 x.most] ∧ Hp w0 ps fs w := by
  obtain ⟨Z, h⟩ := H.fact i hi
  exact ⟨h, H⟩
structure disk_write where
  at_ : Int
  b : Arr 64
deriving DecidableEq, Inhabited
def k_disk_write : Kd disk_write where
  sz := 65
  ok Z w cs x := cs = (.int .i64 x.at_ :: arrOf x.b.l)
  len := fun {_ _ _ x} h => by subst h; exact (len_cons (arr_len x.b))
  one := fun {_ _ _ x} h => by subst h; intro c hc; exact List.all_eq_true.1 (all_cons rfl (arr_all _)) c hc
  stb h hz hs := by exact h
theorem Hp.open_disk_write {w0 w : World} {ps : List PF} {fs : List SF} {cs : List Value} {x : disk_write} (H : Hp w0 ps fs w) (i : Nat) (hi : ps[i]? = some (says k_disk_write cs x)) : cs = (.int .i64 x.at_ :: arrOf x.b.l) ∧ Hp w0 ps fs w := by
  obtain ⟨Z, h⟩ := H.fact i hi
  exact ⟨h, H⟩
structure ref15_Write where
  At : Int
  B : List Int
deriving DecidableEq, Inhabited
def k_ref15_Write : Kd ref15_Write where
  sz := 2
  ok Z w cs x := ∃ (A1 : Option Addr) (c1 : Nat), cs = [.int .i64 x.At, .slice A1 x.B.length c1] ∧ Rows kByte Z w A1 c1 x.B
  len := fun {_ _ _ x} h => by obtain ⟨_, _, rfl, _⟩ := h; exact rfl
  one := fun {_ _ _ x} h => by obtain ⟨_, _, rfl, _⟩ := h; intro c hc; simp only [List.mem_cons, List.not_mem_nil, or_false] at hc; rcases hc with rfl | rfl <;> rfl
  stb h hz hs := by obtain ⟨_, _, rfl, h1⟩ := h; exact ⟨_, _, rfl, h1.stb hz hs⟩
theorem Hp.open_ref15_Write {w0 w : World} {ps : List PF} {fs : List SF} {cs : List Value} {x : ref15_Write} (H : Hp w0 ps fs w) (i : Nat) (hi : ps[i]? = some (says k_ref15_Write cs x)) : ∃ (A1 : Option Addr) (c1 : Nat), cs = [.int .i64 x.At, .slice A1 x.B.length c1] ∧ Hp w0 (rd kByte A1 c1 x.B :: ps) fs w := by
  obtain ⟨Z, H⟩ := H
  obtain ⟨A1, c1, h, h1⟩ := H.pers _ (List.mem_of_getElem? hi)
  refine ⟨A1, c1, h, Z, H.os, H.tape, H.output, H.old, H.size, H.zlt, fun p hp => ?_, H.sep⟩
  simp only [List.mem_cons] at hp
  rcases hp with rfl | hp
  · exact h1
  exact H.pers p hp
structure api_Region where
  Gen : Int
  State : List Int
  Kept : List (List Int)
  More : List (List Int)
deriving DecidableEq, Inhabited
structure law18_Op where
  What : Int
  State : List Int
  Kept : List (List Int)
  Entry : List Int
  N : Int
  Keep : List Bool
deriving DecidableEq, Inhabited
def k_law18_Op : Kd law18_Op where
  sz := 6
  ok Z w cs x := ∃ (A1 : Option Addr) (c1 : Nat) (A2 : Option Addr) (c2 : Nat) (A3 : Option Addr) (c3 : Nat) (A5 : Option Addr) (c5 : Nat), cs = [.int .i64 x.What, .slice A1 x.State.length c1, .slice A2 x.Kept.length c2, .slice A3 x.Entry.length c3, .int .i64 x.N, .slice A5 x.Keep.length c5] ∧ Rows kByte Z w A1 c1 x.State ∧ Rows (kSlice kByte) Z w A2 c2 x.Kept ∧ Rows kByte Z w A3 c3 x.Entry ∧ Rows kBool Z w A5 c5 x.Keep
  len := fun {_ _ _ x} h => by obtain ⟨_, _, _, _, _, _, _, _, rfl, _, _, _, _⟩ := h; exact rfl
  one := fun {_ _ _ x} h => by obtain ⟨_, _, _, _, _, _, _, _, rfl, _, _, _, _⟩ := h; intro c hc; simp only [List.mem_cons, List.not_mem_nil, or_false] at hc; rcases hc with rfl | rfl | rfl | rfl | rfl | rfl <;> rfl
  stb h hz hs := by obtain ⟨_, _, _, _, _, _, _, _, rfl, h1, h2, h3, h5⟩ := h; exact ⟨_, _, _, _, _, _, _, _, rfl, h1.stb hz hs, h2.stb hz hs, h3.stb hz hs, h5.stb hz hs⟩
theorem Hp.open_law18_Op {w0 w : World} {ps : List PF} {fs : List SF} {cs : List Value} {x : law18_Op} (H : Hp w0 ps fs w) (i : Nat) (hi : ps[i]? = some (says k_law18_Op cs x)) : ∃ (A1 : Option Addr) (c1 : Nat) (A2 : Option Addr) (c2 : Nat) (A3 : Option Addr) (c3 : Nat) (A5 : Option Addr) (c5 : Nat), cs = [.int .i64 x.What, .slice A1 x.State.length c1, .slice A2 x.Kept.length c2, .slice A3 x.Entry.length c3, .int .i64 x.N, .slice A5 x.Keep.length c5] ∧ Hp w0 (rd kByte A1 c1 x.State :: rd (kSlice kByte) A2 c2 x.Kept :: rd kByte A3 c3 x.Entry :: rd kBool A5 c5 x.Keep :: ps) fs w := by
  obtain ⟨Z, H⟩ := H
  obtain ⟨A1, c1, A2, c2, A3, c3, A5, c5, h, h1, h2, h3, h5⟩ := H.pers _ (List.mem_of_getElem? hi)
  refine ⟨A1, c1, A2, c2, A3, c3, A5, c5, h, Z, H.os, H.tape, H.output, H.old, H.size, H.zlt, fun p hp => ?_, H.sep⟩
  simp only [List.mem_cons] at hp
  rcases hp with rfl | rfl | rfl | rfl | hp
  · exact h1
  · exact h2
  · exact h3
  · exact h5
  exact H.pers p hp
structure disk_Disk where
  sectors : List (Arr 64)
  torn : List (Int × Int)
  pending : List disk_write
  fuse : Int
deriving DecidableEq, Inhabited
structure ref15_Disk where
  L : List (List Int)
  Torn : List Bool
  P : List ref15_Write
  Fused : Int
deriving DecidableEq, Inhabited
structure store_Store where
  now : api_Region
  has_ : Bool
  from_ : Int
  begun : Bool
  broken : Bool
deriving DecidableEq, Inhabited
structure ref18_Store where
  R : api_Region
  Is : Bool
  Half : Int
  Begun : Bool
  Broken : Bool
deriving DecidableEq, Inhabited
def obj_disk_Disk (g : Nat) (x : disk_Disk) : SF := exF fun (y : (Option Addr × Nat) × (Option Addr × Nat) × Nat) => star [cel g [.slice y.1.1 x.sectors.length y.1.2, .map (some y.2.2), .slice y.2.1.1 x.pending.length y.2.1.2, .int .i64 x.fuse] 71, own (kA 64) 90 y.1.1 y.1.2 x.sectors, own k_disk_write 92 y.2.1.1 y.2.1.2 x.pending, imap y.2.2 x.torn]
theorem Hp.openO_disk_Disk {w0 w : World} {ps : List PF} {fs : List SF} {g : Nat}  {x : disk_Disk} (H : Hp w0 ps (obj_disk_Disk g x :: fs) w) : ∃ (A0 : Option Addr) (c0 : Nat) (A1 : Option Addr) (c1 : Nat) (m2 : Nat), Hp w0 (ps) (cel g [.slice A0 x.sectors.length c0, .map (some m2), .slice A1 x.pending.length c1, .int .i64 x.fuse] 71 :: own (kA 64) 90 A0 c0 x.sectors :: own k_disk_write 92 A1 c1 x.pending :: imap m2 x.torn :: fs) w := by
  obtain ⟨y, H⟩ := Hp.openEx H
  replace H := Hp.openStar H
  exact ⟨y.1.1, y.1.2, y.2.1.1, y.2.1.2, y.2.2, H⟩
theorem Hp.closeO_disk_Disk {w0 w : World} {ps : List PF} {fs : List SF} {g : Nat}  {x : disk_Disk} {A0 : Option Addr} {c0 : Nat} {A1 : Option Addr} {c1 : Nat} {m2 : Nat} (H : Hp w0 ps (cel g [.slice A0 x.sectors.length c0, .map (some m2), .slice A1 x.pending.length c1, .int .i64 x.fuse] 71 :: own (kA 64) 90 A0 c0 x.sectors :: own k_disk_write 92 A1 c1 x.pending :: imap m2 x.torn :: fs) w) : Hp w0 ps (obj_disk_Disk g x :: fs) w := by
  refine Hp.closeEx ((A0, c0), (A1, c1), m2) (Hp.closeStar ?_)
  exact H.arr 0 [] 4 [0, 0, 0, 0] rfl rfl
def obj_ref15_Disk (g : Nat) (x : ref15_Disk) : SF := exF fun (y : (Option Addr × Nat) × (Option Addr × Nat) × (Option Addr × Nat)) => star [cel g [.slice y.1.1 x.L.length y.1.2, .slice y.2.1.1 x.Torn.length y.2.1.2, .slice y.2.2.1 x.P.length y.2.2.2, .int .i64 x.Fused] 88, own (kSlice kByte) 29 y.1.1 y.1.2 x.L, own kBool 4 y.2.1.1 y.2.1.2 x.Torn, own k_ref15_Write 96 y.2.2.1 y.2.2.2 x.P]
theorem Hp.openO_ref15_Disk {w0 w : World} {ps : List PF} {fs : List SF} {g : Nat}  {x : ref15_Disk} (H : Hp w0 ps (obj_ref15_Disk g x :: fs) w) : ∃ (A0 : Option Addr) (c0 : Nat) (A1 : Option Addr) (c1 : Nat) (A2 : Option Addr) (c2 : Nat), Hp w0 (ps) (cel g [.slice A0 x.L.length c0, .slice A1 x.Torn.length c1, .slice A2 x.P.length c2, .int .i64 x.Fused] 88 :: own (kSlice kByte) 29 A0 c0 x.L :: own kBool 4 A1 c1 x.Torn :: own k_ref15_Write 96 A2 c2 x.P :: fs) w := by
  obtain ⟨y, H⟩ := Hp.openEx H
  replace H := Hp.openStar H
  exact ⟨y.1.1, y.1.2, y.2.1.1, y.2.1.2, y.2.2.1, y.2.2.2, H⟩
theorem Hp.closeO_ref15_Disk {w0 w : World} {ps : List PF} {fs : List SF} {g : Nat}  {x : ref15_Disk} {A0 : Option Addr} {c0 : Nat} {A1 : Option Addr} {c1 : Nat} {A2 : Option Addr} {c2 : Nat} (H : Hp w0 ps (cel g [.slice A0 x.L.length c0, .slice A1 x.Torn.length c1, .slice A2 x.P.length c2, .int .i64 x.Fused] 88 :: own (kSlice kByte) 29 A0 c0 x.L :: own kBool 4 A1 c1 x.Torn :: own k_ref15_Write 96 A2 c2 x.P :: fs) w) : Hp w0 ps (obj_ref15_Disk g x :: fs) w := by
  refine Hp.closeEx ((A0, c0), (A1, c1), (A2, c2)) (Hp.closeStar ?_)
  exact H.arr 0 [] 4 [0, 0, 0, 0] rfl rfl
def obj_store_Store (g : Nat) (d0 : Nat) (x : store_Store) : SF := exF fun (y : (Option Addr × Nat) × (Option Addr × Nat) × (Option Addr × Nat)) => star [cel g [.pointer (some ⟨d0, 0, none⟩), .int .i64 x.now.Gen, .slice y.1.1 x.now.State.length y.1.2, .slice y.2.1.1 x.now.Kept.length y.2.1.2, .slice y.2.2.1 x.now.More.length y.2.2.2, .bool x.has_, .int .i64 x.from_, .bool x.begun, .bool x.broken] 73, own (kSlice kByte) 29 y.2.2.1 y.2.2.2 x.now.More, lift (rd kByte y.1.1 y.1.2 x.now.State), lift (rd (kSlice kByte) y.2.1.1 y.2.1.2 x.now.Kept)]
theorem Hp.openO_store_Store {w0 w : World} {ps : List PF} {fs : List SF} {g : Nat} {d0 : Nat} {x : store_Store} (H : Hp w0 ps (obj_store_Store g d0 x :: fs) w) : ∃ (A0 : Option Addr) (c0 : Nat) (A1 : Option Addr) (c1 : Nat) (A2 : Option Addr) (c2 : Nat), Hp w0 (rd kByte A0 c0 x.now.State :: rd (kSlice kByte) A1 c1 x.now.Kept :: ps) (cel g [.pointer (some ⟨d0, 0, none⟩), .int .i64 x.now.Gen, .slice A0 x.now.State.length c0, .slice A1 x.now.Kept.length c1, .slice A2 x.now.More.length c2, .bool x.has_, .int .i64 x.from_, .bool x.begun, .bool x.broken] 73 :: own (kSlice kByte) 29 A2 c2 x.now.More :: fs) w := by
  obtain ⟨y, H⟩ := Hp.openEx H
  replace H := Hp.openStar H
  replace H := Hp.openLift (H.front 3 rfl rfl)
  replace H := Hp.openLift (H.front 2 rfl rfl)
  exact ⟨y.1.1, y.1.2, y.2.1.1, y.2.1.2, y.2.2.1, y.2.2.2, H⟩
theorem Hp.closeO_store_Store {w0 w : World} {ps : List PF} {fs : List SF} {g : Nat} {d0 : Nat} {x : store_Store} {A0 : Option Addr} {c0 : Nat} {A1 : Option Addr} {c1 : Nat} {A2 : Option Addr} {c2 : Nat} (H : Hp w0 ps (cel g [.pointer (some ⟨d0, 0, none⟩), .int .i64 x.now.Gen, .slice A0 x.now.State.length c0, .slice A1 x.now.Kept.length c1, .slice A2 x.now.More.length c2, .bool x.has_, .int .i64 x.from_, .bool x.begun, .bool x.broken] 73 :: own (kSlice kByte) 29 A2 c2 x.now.More :: fs) w) (i0 : Nat) (hi0 : ps[i0]? = some (rd kByte A0 c0 x.now.State)) (i1 : Nat) (hi1 : ps[i1]? = some (rd (kSlice kByte) A1 c1 x.now.Kept)) : Hp w0 ps (obj_store_Store g d0 x :: fs) w := by
  replace H := H.closeLift i0 hi0
  replace H := H.closeLift i1 hi1
  refine Hp.closeEx ((A0, c0), (A1, c1), (A2, c2)) (Hp.closeStar ?_)
  exact H.arr 0 [] 4 [2, 2, 1, 0] rfl rfl
def obj_ref18_Store (g : Nat) (d0 : Nat) (x : ref18_Store) : SF := exF fun (y : (Option Addr × Nat) × (Option Addr × Nat) × (Option Addr × Nat)) => star [cel g [.pointer (some ⟨d0, 0, none⟩), .int .i64 x.R.Gen, .slice y.1.1 x.R.State.length y.1.2, .slice y.2.1.1 x.R.Kept.length y.2.1.2, .slice y.2.2.1 x.R.More.length y.2.2.2, .bool x.Is, .int .i64 x.Half, .bool x.Begun, .bool x.Broken] 101, lift (rd kByte y.1.1 y.1.2 x.R.State), lift (rd (kSlice kByte) y.2.1.1 y.2.1.2 x.R.Kept), lift (rd (kSlice kByte) y.2.2.1 y.2.2.2 x.R.More)]
theorem Hp.openO_ref18_Store {w0 w : World} {ps : List PF} {fs : List SF} {g : Nat} {d0 : Nat} {x : ref18_Store} (H : Hp w0 ps (obj_ref18_Store g d0 x :: fs) w) : ∃ (A0 : Option Addr) (c0 : Nat) (A1 : Option Addr) (c1 : Nat) (A2 : Option Addr) (c2 : Nat), Hp w0 (rd kByte A0 c0 x.R.State :: rd (kSlice kByte) A1 c1 x.R.Kept :: rd (kSlice kByte) A2 c2 x.R.More :: ps) (cel g [.pointer (some ⟨d0, 0, none⟩), .int .i64 x.R.Gen, .slice A0 x.R.State.length c0, .slice A1 x.R.Kept.length c1, .slice A2 x.R.More.length c2, .bool x.Is, .int .i64 x.Half, .bool x.Begun, .bool x.Broken] 101 :: fs) w := by
  obtain ⟨y, H⟩ := Hp.openEx H
  replace H := Hp.openStar H
  replace H := Hp.openLift (H.front 3 rfl rfl)
  replace H := Hp.openLift (H.front 2 rfl rfl)
  replace H := Hp.openLift (H.front 1 rfl rfl)
  exact ⟨y.1.1, y.1.2, y.2.1.1, y.2.1.2, y.2.2.1, y.2.2.2, H⟩
theorem Hp.closeO_ref18_Store {w0 w : World} {ps : List PF} {fs : List SF} {g : Nat} {d0 : Nat} {x : ref18_Store} {A0 : Option Addr} {c0 : Nat} {A1 : Option Addr} {c1 : Nat} {A2 : Option Addr} {c2 : Nat} (H : Hp w0 ps (cel g [.pointer (some ⟨d0, 0, none⟩), .int .i64 x.R.Gen, .slice A0 x.R.State.length c0, .slice A1 x.R.Kept.length c1, .slice A2 x.R.More.length c2, .bool x.Is, .int .i64 x.Half, .bool x.Begun, .bool x.Broken] 101 :: fs) w) (i0 : Nat) (hi0 : ps[i0]? = some (rd kByte A0 c0 x.R.State)) (i1 : Nat) (hi1 : ps[i1]? = some (rd (kSlice kByte) A1 c1 x.R.Kept)) (i2 : Nat) (hi2 : ps[i2]? = some (rd (kSlice kByte) A2 c2 x.R.More)) : Hp w0 ps (obj_ref18_Store g d0 x :: fs) w := by
  replace H := H.closeLift i0 hi0
  replace H := H.closeLift i1 hi1
  replace H := H.closeLift i2 hi2
  refine Hp.closeEx ((A0, c0), (A1, c1), (A2, c2)) (Hp.closeStar ?_)
  exact H.arr 0 [] 4 [3, 2, 1, 0] rfl rfl
def sector_fields_f (a0 : api_Sector) : Option (List sector_field) :=
 some (([(⟨a0.Gen, 8, 1, 281474976710656⟩ : sector_field), (⟨a0.Place, 2, 0, 4096⟩ : sector_field), (⟨a0.Parts, 1, 1, 32⟩ : sector_field), (⟨a0.Kept, 2, 0, 1000⟩ : sector_field), (⟨(a0.Body.length : Int), 1, 1, 50⟩ : sector_field)]))
theorem sector_fields_ok {w0 w : World} {ps : List PF} {fs : List SF} {a0 : api_Sector} {A0_4 : Option Addr} {c0_4 : Nat} {r0 : List sector_field} (H : Hp w0 (rd kByte A0_4 c0_4 a0.Body :: ps) fs w) (h : sector_fields_f a0 = some r0) :
  Calls Try.prog 102 [.agg #[.int .i64 a0.Gen, .int .i64 a0.Place, .int .i64 a0.Parts, .int .i64 a0.Kept, .slice A0_4 a0.Body.length c0_4]].toArray w fun e w' => ∃ v, e = .returned v ∧ ∃ (A0 : Option Addr) (c0 : Nat), v = .slice A0 r0.length c0 ∧ Hp w0 (rd k_sector_field A0 c0 r0 :: ps) fs w' := by
 refine enter [.agg #[.int .i64 a0.Gen, .int .i64 a0.Place, .int .i64 a0.Parts, .int .i64 a0.Kept, .slice A0_4 a0.Body.length c0_4]] 20 Try.func102 fun Q a NP RET NRM F => ?_
 replace NP := np NP
 unfold sector_fields_f at h
 refine rg ?_
 refine ls (lbox F H rfl (cs := [.int .i64 a0.Gen, .int .i64 a0.Place, .int .i64 a0.Parts, .int .i64 a0.Kept, .slice A0_4 a0.Body.length c0_4]) rfl fun g1 w a H F => ?_)
 refine as_ F (v := .slice none 0 0) rfl fun a F => ?_
 refine rgend ?_
 refine rg ?_
 refine qw F (r_fa (off := 0) (F.t 1 rfl) fa53_0) fun a F => ?_
 refine qw F (r_ld (F.t 3 rfl) (cel_cell (o := 0) (H.cell 0 rfl) rfl) one2) fun a F => ?_
 refine ls (lbd F (vs := [(0, .int .i64 a0.Gen), (1, .int .i64 8), (2, .int .i64 1), (3, .int .i64 281474976710656)]) (cs := [.int .i64 a0.Gen, .int .i64 8, .int .i64 1, .int .i64 281474976710656]) rfl (fun w => by kernel_rfl) fun a F => ?_)
 refine qw F (r_fa (off := 1) (F.t 1 rfl) fa53_1) fun a F => ?_
 refine qw F (r_ld (F.t 6 rfl) (cel_cell (o := 1) (H.cell 0 rfl) rfl) one3) fun a F => ?_
 refine ls (lbd F (vs := [(0, .int .i64 a0.Place), (1, .int .i64 2), (2, .int .i64 0), (3, .int .i64 4096)]) (cs := [.int .i64 a0.Place, .int .i64 2, .int .i64 0, .int .i64 4096]) rfl (fun w => by kernel_rfl) fun a F => ?_)
 refine qw F (r_fa (off := 2) (F.t 1 rfl) fa53_2) fun a F => ?_
 refine qw F (r_ld (F.t 9 rfl) (cel_cell (o := 2) (H.cell 0 rfl) rfl) one3) fun a F => ?_
 refine ls (lbd F (vs := [(0, .int .i64 a0.Parts), (1, .int .i64 1), (2, .int .i64 1), (3, .int .i64 32)]) (cs := [.int .i64 a0.Parts, .int .i64 1, .int .i64 1, .int .i64 32]) rfl (fun w => by kernel_rfl) fun a F => ?_)
 refine qw F (r_fa (off := 3) (F.t 1 rfl) fa53_3) fun a F => ?_
 refine qw F (r_ld (F.t 12 rfl) (cel_cell (o := 3) (H.cell 0 rfl) rfl) one3) fun a F => ?_
 refine ls (lbd F (vs := [(0, .int .i64 a0.Kept), (1, .int .i64 2), (2, .int .i64 0), (3, .int .i64 1000)]) (cs := [.int .i64 a0.Kept, .int .i64 2, .int .i64 0, .int .i64 1000]) rfl (fun w => by kernel_rfl) fun a F => ?_)
 refine qw F (r_fa (off := 4) (F.t 1 rfl) fa53_4) fun a F => ?_
 refine qw F (r_ld (F.t 15 rfl) (cel_cell (o := 4) (H.cell 0 rfl) rfl) one29) fun a F => ?_
 refine qw F (r_len (F.t 16 rfl) Try.underlying29) fun a F => ?_
 refine ls (lbd F (vs := [(0, .int .i64 (a0.Body.length : Int)), (1, .int .i64 1), (2, .int .i64 1), (3, .int .i64 50)]) (cs := [.int .i64 (a0.Body.length : Int), .int .i64 1, .int .i64 1, .int .i64 50]) rfl (fun w => by kernel_rfl) fun a F => ?_)
 refine ls (lbs F H (e := 130) (vs := [(0, .agg #[.int .i64 a0.Gen, .int .i64 8, .int .i64 1, .int .i64 281474976710656]), (1, .agg #[.int .i64 a0.Place, .int .i64 2, .int .i64 0, .int .i64 4096]), (2, .agg #[.int .i64 a0.Parts, .int .i64 1, .int .i64 1, .int .i64 32]), (3, .agg #[.int .i64 a0.Kept, .int .i64 2, .int .i64 0, .int .i64 1000]), (4, .agg #[.int .i64 (a0.Body.length : Int), .int .i64 1, .int .i64 1, .int .i64 50])]) (cs := [.int .i64 a0.Gen, .int .i64 8, .int .i64 1, .int .i64 281474976710656, .int .i64 a0.Place, .int .i64 2, .int .i64 0, .int .i64 4096, .int .i64 a0.Parts, .int .i64 1, .int .i64 1, .int .i64 32, .int .i64 a0.Kept, .int .i64 2, .int .i64 0, .int .i64 1000, .int .i64 (a0.Body.length : Int), .int .i64 1, .int .i64 1, .int .i64 50]) rfl (fun w => by kernel_rfl) fun g2 w a H F => ?_)
 refine as_ F rfl fun a F => ?_
 refine rgend ?_
 replace F := F.only [2] (l' := [(2, _)]) rfl
 refine wp_ret ?_
 replace H := Hp.litRd (kd := k_sector_field) (xs := [(⟨a0.Gen, 8, 1, 281474976710656⟩ : sector_field), (⟨a0.Place, 2, 0, 4096⟩ : sector_field), (⟨a0.Parts, 1, 1, 32⟩ : sector_field), (⟨a0.Kept, 2, 0, 1000⟩ : sector_field), (⟨(a0.Body.length : Int), 1, 1, 50⟩ : sector_field)]) (H) ((SayL.cons (kd := k_sector_field) (c1 := [.int .i64 a0.Gen, .int .i64 8, .int .i64 1, .int .i64 281474976710656]) (y := (⟨a0.Gen, 8, 1, 281474976710656⟩ : sector_field)) (fun Z hp => rfl) (SayL.cons (kd := k_sector_field) (c1 := [.int .i64 a0.Place, .int .i64 2, .int .i64 0, .int .i64 4096]) (y := (⟨a0.Place, 2, 0, 4096⟩ : sector_field)) (fun Z hp => rfl) (SayL.cons (kd := k_sector_field) (c1 := [.int .i64 a0.Parts, .int .i64 1, .int .i64 1, .int .i64 32]) (y := (⟨a0.Parts, 1, 1, 32⟩ : sector_field)) (fun Z hp => rfl) (SayL.cons (kd := k_sector_field) (c1 := [.int .i64 a0.Kept, .int .i64 2, .int .i64 0, .int .i64 1000]) (y := (⟨a0.Kept, 2, 0, 1000⟩ : sector_field)) (fun Z hp => rfl) (SayL.cons (kd := k_sector_field) (c1 := [.int .i64 (a0.Body.length : Int), .int .i64 1, .int .i64 1, .int .i64 50]) (y := (⟨(a0.Body.length : Int), 1, 1, 50⟩ : sector_field)) (fun Z hp => rfl) SayL.nil)))))) (Nat.le_of_ble_eq_true rfl)
 try dsimp only at h
 obtain rfl := Option.some.inj h
 exact RET _ _ (ret1 F rfl rfl ⟨_, rfl, (some ⟨g2, 0, none⟩), 5, rfl, H.px1.fx0⟩)
def sector_right_b0 (a0 : List sector_field) : Int → Option (Int ⊕ (Unit ⊕ Bool))
 | x1 => (if x1 < (a0.length : Int) then (if 0 ≤ x1 ∧ x1 < (a0.length : Int) then (if ((a0.getD (x1 : Int).toNat (⟨0, 0, 0, 0⟩ : sector_field)).n) < ((a0.getD (x1 : Int).toNat (⟨0, 0, 0, 0⟩ : sector_field)).least) then some (.inr (.inr false)) else (if ((a0.getD (x1 : Int).toNat (⟨0, 0, 0, 0⟩ : sector_field)).n) > ((a0.getD (x1 : Int).toNat (⟨0, 0, 0, 0⟩ : sector_field)).most) then some (.inr (.inr false)) else some (.inl (IntKind.i64.wrap (x1 + 1))))) else none) else some (.inr (.inl ())))
def sector_right_f (a0 : List sector_field) : Option (Bool) :=
 ((lp (sector_right_b0 a0) 0).bind fun q => match q with | .inl _ => some true | .inr r => some r)
theorem sector_right_ok {w0 w : World} {ps : List PF} {fs : List SF} {a0 : List sector_field} {A0_ : Option Addr} {c0_ : Nat} {r0 : Bool} (H : Hp w0 (rd k_sector_field A0_ c0_ a0 :: ps) fs w) (h : sector_right_f a0 = some r0) :
  Calls Try.prog 101 [.slice A0_ a0.length c0_].toArray w fun e w' => ∃ v, e = .returned v ∧ v = .bool r0 ∧ Hp w0 ps fs w' := by
 refine enter [.slice A0_ a0.length c0_] 24 Try.func101 fun Q a NP RET NRM F => ?_
 replace NP := np NP
 unfold sector_right_f at h
 refine rg ?_
 refine as_ F (v := .bool false) rfl fun a F => ?_
 refine rgend ?_
 refine wp_seq ?_
 refine rg ?_
 refine mv F rfl fun a F => ?_
 refine qw F (r_len (F.t 5 rfl) Try.underlying127) fun a F => ?_
 refine mv F (v := .int .i64 0) rfl fun a F => ?_
 refine rgend ?_
 obtain ⟨o_1, k_1, h⟩ := Option.bind_eq_some_iff.1 h
 refine cut (fun a w => Sum.inl () = o_1 ∧ Fr 24 [] [] a ∧ Hp w0 ps fs w) (wp_block ?_) ?_
 ·refine wloop (sector_right_b0 a0) (fun (s : Int) a w => Fr 24 [] [(5, .slice A0_ a0.length c0_), (6, .int .i64 (a0.length : Int)), (7, .int .i64 s)] a ∧ Hp w0 (rd k_sector_field A0_ c0_ a0 :: ps) fs w) k_1 ⟨F.only [5, 6, 7] rfl, H⟩ ?_
  rintro x1 a w q_1 j_1 u_1 ⟨F, H⟩
  unfold sector_right_b0 at j_1
  try dsimp only at j_1 F H
  refine rg ?_
  refine qw F (r_lt (F.t 7 rfl) (F.t 6 rfl)) fun a F => ?_
  refine rgend ?_
  refine wp_seq ?_
  by_cases c3 : x1 < (a0.length : Int)
  ·rw [if_pos c3] at j_1
   rw [decide_eq_true c3] at F
   refine wp_cond_true (F.ev rfl) ?_
   refine wp_skip ?_
   refine wp_seq ?_
   refine wp_block ?_
   refine rg ?_
   obtain ⟨c4, j_1⟩ := guardO j_1
   obtain ⟨g5, o6, s7, hr, H⟩ := H.ix (⟨0, 0, 0, 0⟩ : sector_field) 0 rfl (F.t 5 rfl) (F.t 7 rfl) Try.underlying127 sz130 (by decide) c4.1 c4.2
   obtain ⟨rfl, H⟩ := H.open_sector_field 1 rfl
   refine qw F (hr _ _ _ _ _ _) fun a F => ?_
   refine qw F (r_ldA (F.t 9 rfl) (H.range 0 rfl) agg130 rfl) fun a F => ?_
   refine ls (lal F H ti130 (cs := [.int .i64 0, .int .i64 0, .int .i64 0, .int .i64 0]) rfl fun g8 w a H F => ?_)
   refine stF F [.int .i64 ((a0.getD (x1 : Int).toNat (⟨0, 0, 0, 0⟩ : sector_field)).n), .int .i64 ((a0.getD (x1 : Int).toNat (⟨0, 0, 0, 0⟩ : sector_field)).many), .int .i64 ((a0.getD (x1 : Int).toNat (⟨0, 0, 0, 0⟩ : sector_field)).least), .int .i64 ((a0.getD (x1 : Int).toNat (⟨0, 0, 0, 0⟩ : sector_field)).most)] H rfl rfl sz130 fun w a H F => ?_
   refine rgend ?_
   refine rg ?_
   refine qw F (r_fa (off := 0) (F.t 4 rfl) fa130_0) fun a F => ?_
   refine qw F (r_ld (F.t 11 rfl) (cel_cell (o := 0) (H.cell 0 rfl) rfl) one2) fun a F => ?_
   refine qw F (r_fa (off := 2) (F.t 4 rfl) fa130_2) fun a F => ?_
   refine qw F (r_ld (F.t 13 rfl) (cel_cell (o := 2) (H.cell 0 rfl) rfl) one2) fun a F => ?_
   refine qw F (r_lt (F.t 12 rfl) (F.t 14 rfl)) fun a F => ?_
   refine mv F rfl fun a F => ?_
   by_cases c9 : ((a0.getD (x1 : Int).toNat (⟨0, 0, 0, 0⟩ : sector_field)).n) < ((a0.getD (x1 : Int).toNat (⟨0, 0, 0, 0⟩ : sector_field)).least)
   ·rw [if_pos c9] at j_1
    rw [decide_eq_true c9] at F
    iterate 5 refine of_ F fun a F => ?_
    refine qw F (r_pickT (F.t 16 rfl) (F.k (.bool true))) fun a F => ?_
    refine rgend ?_
    replace F := F.only [22, 5, 6, 7] (l' := [(22, _), (5, _), (6, _), (7, _)]) rfl
    refine wp_cond_true (F.ev rfl) ?_
    refine rg ?_
    refine as_ F (v := .bool false) rfl fun a F => ?_
    refine rgend ?_
    replace F := F.only [2] (l' := [(2, _)]) rfl
    refine wp_ret ?_
    try dsimp only at j_1
    obtain rfl := Option.some.inj j_1
    obtain rfl := u_1 _ rfl
    try dsimp only at h
    obtain rfl := Option.some.inj h
    exact RET _ _ (ret1 F rfl rfl ⟨_, rfl, rfl, H.px2.px1.px0.fx0⟩)
   rw [if_neg c9] at j_1
   rw [decide_eq_false c9] at F
   refine qw F (r_fa (off := 0) (F.t 4 rfl) fa130_0) fun a F => ?_
   refine qw F (r_ld (F.t 17 rfl) (cel_cell (o := 0) (H.cell 0 rfl) rfl) one2) fun a F => ?_
   refine qw F (r_fa (off := 3) (F.t 4 rfl) fa130_3) fun a F => ?_
   refine qw F (r_ld (F.t 19 rfl) (cel_cell (o := 3) (H.cell 0 rfl) rfl) one2) fun a F => ?_
   refine qw F (r_gt (F.t 18 rfl) (F.t 20 rfl)) fun a F => ?_
   refine qw F (r_pickF (F.t 16 rfl) (F.t 21 rfl)) fun a F => ?_
   refine rgend ?_
   replace F := F.only [22, 5, 6, 7] (l' := [(22, _), (5, _), (6, _), (7, _)]) rfl
   by_cases c10 : ((a0.getD (x1 : Int).toNat (⟨0, 0, 0, 0⟩ : sector_field)).n) > ((a0.getD (x1 : Int).toNat (⟨0, 0, 0, 0⟩ : sector_field)).most)
   ·rw [if_pos c10] at j_1
    rw [decide_eq_true c10] at F
    refine wp_cond_true (F.ev rfl) ?_
    refine rg ?_
    refine as_ F (v := .bool false) rfl fun a F => ?_
    refine rgend ?_
    replace F := F.only [2] (l' := [(2, _)]) rfl
    refine wp_ret ?_
    try dsimp only at j_1
    obtain rfl := Option.some.inj j_1
    obtain rfl := u_1 _ rfl
    try dsimp only at h
    obtain rfl := Option.some.inj h
    exact RET _ _ (ret1 F rfl rfl ⟨_, rfl, rfl, H.px2.px1.px0.fx0⟩)
   rw [if_neg c10] at j_1
   rw [decide_eq_false c10] at F
   refine wp_cond_false (F.ev rfl) ?_
   refine wp_skip ?_
   refine wp_region_lit ?_
   refine qw F (r_add (F.t 7 rfl) (F.k (.int .i64 1))) fun a F => ?_
   refine mv F rfl fun a F => ?_
   refine wpList_nil ?_
   try dsimp only at j_1
   obtain rfl := Option.some.inj j_1
   exact ⟨_, rfl, F.only [5, 6, 7] rfl, H.px1.px0.fx0⟩
  rw [if_neg c3] at j_1
  rw [decide_eq_false c3] at F
  refine wp_cond_false (F.ev rfl) ?_
  refine wp_exit ?_
  try dsimp only at j_1
  obtain rfl := Option.some.inj j_1
  obtain rfl := u_1 _ rfl
  repeat (with_reducible refine exT ?_)
  with_reducible refine exB ?_
  exact ⟨rfl, F.only [] rfl, H.px0⟩
 rintro a w ⟨rfl, F, H⟩
 try dsimp only at h F H
 refine rg ?_
 refine as_ F (v := .bool true) rfl fun a F => ?_
 refine rgend ?_
 refine wp_ret ?_
 try dsimp only at h
 obtain rfl := Option.some.inj h
 exact RET _ _ (ret1 F rfl rfl ⟨_, rfl, rfl, H⟩)
def sector_Right_f (a0 : api_Sector) : Option (Bool) :=
 ((sector_fields_f a0).bind fun x2 => ((sector_right_f x2).bind fun x6 => some x6))
theorem sector_Right_ok {w0 w : World} {ps : List PF} {fs : List SF} {a0 : api_Sector} {A0_4 : Option Addr} {c0_4 : Nat} {r0 : Bool} (H : Hp w0 (rd kByte A0_4 c0_4 a0.Body :: ps) fs w) (h : sector_Right_f a0 = some r0) :
  Calls Try.prog 93 [.agg #[.int .i64 a0.Gen, .int .i64 a0.Place, .int .i64 a0.Parts, .int .i64 a0.Kept, .slice A0_4 a0.Body.length c0_4]].toArray w fun e w' => ∃ v, e = .returned v ∧ v = .bool r0 ∧ Hp w0 ps fs w' := by
 refine enter [.agg #[.int .i64 a0.Gen, .int .i64 a0.Place, .int .i64 a0.Parts, .int .i64 a0.Kept, .slice A0_4 a0.Body.length c0_4]] 6 Try.func93 fun Q a NP RET NRM F => ?_
 replace NP := np NP
 unfold sector_Right_f at h
 refine rg ?_
 refine ls (lbox F H rfl (cs := [.int .i64 a0.Gen, .int .i64 a0.Place, .int .i64 a0.Parts, .int .i64 a0.Kept, .slice A0_4 a0.Body.length c0_4]) rfl fun g1 w a H F => ?_)
 refine as_ F (v := .bool false) rfl fun a F => ?_
 refine rgend ?_
 refine rg ?_
 refine qw F (r_ldA (F.t 1 rfl) (cel_range (o := 0) (n := 5) (vs := [.int .i64 a0.Gen, .int .i64 a0.Place, .int .i64 a0.Parts, .int .i64 a0.Kept, .slice A0_4 a0.Body.length c0_4]) (H.cell 0 rfl) rfl) agg53 rfl) fun a F => ?_
 obtain ⟨x2, e3, h⟩ := Option.bind_eq_some_iff.1 h
 try dsimp only at h
 refine ls (call F Try.func102 (sector_fields_ok (a0 := a0) (H.p0) e3) rfl rfl fun v w hR a F => ?_)
 obtain ⟨A4, c5, rfl, H⟩ := hR
 obtain ⟨x6, e7, h⟩ := Option.bind_eq_some_iff.1 h
 try dsimp only at h
 refine ls (call F Try.func101 (sector_right_ok (H.p0) e7) rfl rfl fun v w hR a F => ?_)
 obtain ⟨rfl, H⟩ := hR
 refine as_ F rfl fun a F => ?_
 refine rgend ?_
 replace F := F.only [2] (l' := [(2, _)]) rfl
 refine wp_ret ?_
 try dsimp only at h
 obtain rfl := Option.some.inj h
 exact RET _ _ (ret1 F rfl rfl ⟨_, rfl, rfl, H.px1.px0.fx0⟩)
def sector_bytes_b1 (x4 : List sector_field) (x9 : Int) : (Int × Int × (Arr 64)) → Option (Int × Int × (Arr 64) ⊕ Int × (Arr 64))
 | (x19, x20, x21) => (if x20 ≥ 0 then (if 0 ≤ (IntKind.i64.wrap (8 * x20)) then (if 0 ≤ x19 ∧ x19 < (64 : Int) then some (.inl (IntKind.i64.wrap (x19 + 1), IntKind.i64.wrap (x20 - 1), (x21.put x19 (IntKind.u8.wrap (((x4.getD (x9 : Int).toNat (⟨0, 0, 0, 0⟩ : sector_field)).n).fdiv (2 ^ (min (IntKind.i64.wrap (8 * x20)).toNat 64))))))) else none) else none) else some (.inr (x19, x21)))
def sector_bytes_b0 (x4 : List sector_field) : (Int × Int × (Arr 64)) → Option (Int × Int × (Arr 64) ⊕ Arr 64)
 | (x8, x9, x10) => (if x9 < (x4.length : Int) then (if 0 ≤ x9 ∧ x9 < (x4.length : Int) then ((lp (sector_bytes_b1 x4 x9) (x8, IntKind.i64.wrap (((x4.getD (x9 : Int).toNat (⟨0, 0, 0, 0⟩ : sector_field)).many) - 1), x10)).bind fun (x22, x23) => some (.inl (x22, IntKind.i64.wrap (x9 + 1), x23))) else none) else some (.inr x10))
def sector_bytes_f (a0 : api_Sector) : Option (Arr 64) :=
 ((sector_fields_f a0).bind fun x4 => ((lp (sector_bytes_b0 x4) (0, 0, (Arr.zero 64))).bind fun x11 => some (x11.cpy 14 a0.Body)))
theorem sector_bytes_ok {w0 w : World} {ps : List PF} {fs : List SF} {a0 : api_Sector} {A0_4 : Option Addr} {c0_4 : Nat} {r0 : Arr 64} (H : Hp w0 (rd kByte A0_4 c0_4 a0.Body :: ps) fs w) (h : sector_bytes_f a0 = some r0) :
  Calls Try.prog 94 [.agg #[.int .i64 a0.Gen, .int .i64 a0.Place, .int .i64 a0.Parts, .int .i64 a0.Kept, .slice A0_4 a0.Body.length c0_4]].toArray w fun e w' => ∃ v, e = .returned v ∧ v = .agg (arrOf r0.l).toArray ∧ Hp w0 ps fs w' := by
 refine enter [.agg #[.int .i64 a0.Gen, .int .i64 a0.Place, .int .i64 a0.Parts, .int .i64 a0.Kept, .slice A0_4 a0.Body.length c0_4]] 38 Try.func94 fun Q a NP RET NRM F => ?_
 replace NP := np NP
 unfold sector_bytes_f at h
 refine rg ?_
 refine ls (lbox F H rfl (cs := [.int .i64 a0.Gen, .int .i64 a0.Place, .int .i64 a0.Parts, .int .i64 a0.Kept, .slice A0_4 a0.Body.length c0_4]) rfl fun g1 w a H F => ?_)
 refine ls (lal F H ti89 (cs := (arrOf (Arr.zero 64).l)) rfl fun g2 w a H F => ?_)
 refine rgend ?_
 refine rg ?_
 refine ls (lal F H ti89 (cs := (arrOf (Arr.zero 64).l)) rfl fun g3 w a H F => ?_)
 refine rgend ?_
 refine rg ?_
 refine as_ F (v := .int .i64 0) rfl fun a F => ?_
 refine rgend ?_
 refine wp_seq ?_
 refine rg ?_
 refine qw F (r_ldA (F.t 1 rfl) (cel_range (o := 0) (n := 5) (vs := [.int .i64 a0.Gen, .int .i64 a0.Place, .int .i64 a0.Parts, .int .i64 a0.Kept, .slice A0_4 a0.Body.length c0_4]) (H.cell 2 rfl) rfl) agg53 rfl) fun a F => ?_
 obtain ⟨x4, e5, h⟩ := Option.bind_eq_some_iff.1 h
 try dsimp only at h
 refine ls (call F Try.func102 (sector_fields_ok (a0 := a0) (H.p0) e5) rfl rfl fun v w hR a F => ?_)
 obtain ⟨A6, c7, rfl, H⟩ := hR
 refine qw F (r_len (F.t 9 rfl) Try.underlying127) fun a F => ?_
 refine mv F (v := .int .i64 0) rfl fun a F => ?_
 refine rgend ?_
 obtain ⟨o_11, k_11, h⟩ := Option.bind_eq_some_iff.1 h
 refine cut (fun a w => ∃ (x11 : Arr 64), x11 = o_11 ∧ Fr 38 [] [(1, pt g1), (2, pt g2), (3, pt g3)] a ∧ Hp w0 (rd kByte A0_4 c0_4 a0.Body :: ps) (cel g2 (arrOf (Arr.zero 64).l) 89 :: cel g3 (arrOf x11.l) 89 :: cel g1 [.int .i64 a0.Gen, .int .i64 a0.Place, .int .i64 a0.Parts, .int .i64 a0.Kept, .slice A0_4 a0.Body.length c0_4] 53 :: fs) w) (wp_block ?_) ?_
 ·refine wloop (sector_bytes_b0 x4) (fun (s : Int × Int × (Arr 64)) a w => Fr 38 [] [(1, pt g1), (2, pt g2), (3, pt g3), (4, .int .i64 s.1), (9, .slice A6 x4.length c7), (10, .int .i64 (x4.length : Int)), (11, .int .i64 s.2.1)] a ∧ Hp w0 (rd k_sector_field A6 c7 x4 :: rd kByte A0_4 c0_4 a0.Body :: ps) (cel g2 (arrOf (Arr.zero 64).l) 89 :: cel g3 (arrOf s.2.2.l) 89 :: cel g1 [.int .i64 a0.Gen, .int .i64 a0.Place, .int .i64 a0.Parts, .int .i64 a0.Kept, .slice A0_4 a0.Body.length c0_4] 53 :: fs) w) k_11 ⟨F.only [1, 2, 3, 4, 9, 10, 11] rfl, H.f2.f1.f2⟩ ?_
  rintro ⟨x8, x9, x10⟩ a w q_11 j_11 u_11 ⟨F, H⟩
  unfold sector_bytes_b0 at j_11
  try dsimp only at j_11 F H
  refine rg ?_
  refine qw F (r_lt (F.t 11 rfl) (F.t 10 rfl)) fun a F => ?_
  refine rgend ?_
  refine wp_seq ?_
  by_cases c13 : x9 < (x4.length : Int)
  ·rw [if_pos c13] at j_11
   rw [decide_eq_true c13] at F
   refine wp_cond_true (F.ev rfl) ?_
   refine wp_skip ?_
   refine wp_seq ?_
   refine wp_block ?_
   refine rg ?_
   obtain ⟨c14, j_11⟩ := guardO j_11
   obtain ⟨g15, o16, s17, hr, H⟩ := H.ix (⟨0, 0, 0, 0⟩ : sector_field) 0 rfl (F.t 9 rfl) (F.t 11 rfl) Try.underlying127 sz130 (by decide) c14.1 c14.2
   obtain ⟨rfl, H⟩ := H.open_sector_field 1 rfl
   refine qw F (hr _ _ _ _ _ _) fun a F => ?_
   refine qw F (r_ldA (F.t 13 rfl) (H.range 0 rfl) agg130 rfl) fun a F => ?_
   refine ls (lal F H ti130 (cs := [.int .i64 0, .int .i64 0, .int .i64 0, .int .i64 0]) rfl fun g18 w a H F => ?_)
   refine stF F [.int .i64 ((x4.getD (x9 : Int).toNat (⟨0, 0, 0, 0⟩ : sector_field)).n), .int .i64 ((x4.getD (x9 : Int).toNat (⟨0, 0, 0, 0⟩ : sector_field)).many), .int .i64 ((x4.getD (x9 : Int).toNat (⟨0, 0, 0, 0⟩ : sector_field)).least), .int .i64 ((x4.getD (x9 : Int).toNat (⟨0, 0, 0, 0⟩ : sector_field)).most)] H rfl rfl sz130 fun w a H F => ?_
   refine rgend ?_
   refine rg ?_
   refine qw F (r_fa (off := 1) (F.t 6 rfl) fa130_1) fun a F => ?_
   refine qw F (r_ld (F.t 15 rfl) (cel_cell (o := 1) (H.cell 0 rfl) rfl) one3) fun a F => ?_
   refine qw F (r_sub (F.t 16 rfl) (F.k (.int .i64 1))) fun a F => ?_
   refine as_ F rfl fun a F => ?_
   refine rgend ?_
   replace F := F.only [7, 6, 1, 2, 3, 4, 9, 10, 11] (l' := [(7, _), (6, _), (1, _), (2, _), (3, _), (4, _), (9, _), (10, _), (11, _)]) rfl
   obtain ⟨o_23, k_23, j_11⟩ := Option.bind_eq_some_iff.1 j_11
   refine cut (fun a w => ∃ (x22 : Int) (x23 : Arr 64), (x22, x23) = o_23 ∧ Fr 38 [] [(1, pt g1), (2, pt g2), (3, pt g3), (4, .int .i64 x22), (9, .slice A6 x4.length c7), (10, .int .i64 (x4.length : Int)), (11, .int .i64 x9)] a ∧ Hp w0 (rd k_sector_field A6 c7 x4 :: rd kByte A0_4 c0_4 a0.Body :: ps) (cel g2 (arrOf (Arr.zero 64).l) 89 :: cel g3 (arrOf x23.l) 89 :: cel g1 [.int .i64 a0.Gen, .int .i64 a0.Place, .int .i64 a0.Parts, .int .i64 a0.Kept, .slice A0_4 a0.Body.length c0_4] 53 :: fs) w) (wp_block ?_) ?_
   ·refine wloop (sector_bytes_b1 x4 x9) (fun (s : Int × Int × (Arr 64)) a w => Fr 38 [] [(1, pt g1), (2, pt g2), (3, pt g3), (4, .int .i64 s.1), (6, pt g18), (7, .int .i64 s.2.1), (9, .slice A6 x4.length c7), (10, .int .i64 (x4.length : Int)), (11, .int .i64 x9)] a ∧ Hp w0 (rd k_sector_field A6 c7 x4 :: rd kByte A0_4 c0_4 a0.Body :: ps) (cel g18 [.int .i64 ((x4.getD (x9 : Int).toNat (⟨0, 0, 0, 0⟩ : sector_field)).n), .int .i64 ((x4.getD (x9 : Int).toNat (⟨0, 0, 0, 0⟩ : sector_field)).many), .int .i64 ((x4.getD (x9 : Int).toNat (⟨0, 0, 0, 0⟩ : sector_field)).least), .int .i64 ((x4.getD (x9 : Int).toNat (⟨0, 0, 0, 0⟩ : sector_field)).most)] 130 :: cel g2 (arrOf (Arr.zero 64).l) 89 :: cel g3 (arrOf s.2.2.l) 89 :: cel g1 [.int .i64 a0.Gen, .int .i64 a0.Place, .int .i64 a0.Parts, .int .i64 a0.Kept, .slice A0_4 a0.Body.length c0_4] 53 :: fs) w) k_23 ⟨F.only [1, 2, 3, 4, 6, 7, 9, 10, 11] rfl, H.px1.px0⟩ ?_
    rintro ⟨x19, x20, x21⟩ a w q_23 j_23 u_23 ⟨F, H⟩
    unfold sector_bytes_b1 at j_23
    try dsimp only at j_23 F H
    refine wp_seq ?_
    refine rg ?_
    refine mv F rfl fun a F => ?_
    refine qw F (r_ge (F.t 18 rfl) (F.k (.int .i64 0))) fun a F => ?_
    refine rgend ?_
    by_cases c25 : x20 ≥ 0
    ·rw [if_pos c25] at j_23
     rw [decide_eq_true c25] at F
     refine wp_cond_true (F.ev rfl) ?_
     refine wp_skip ?_
     refine wp_seq ?_
     refine wp_block ?_
     refine rg ?_
     refine mv F rfl fun a F => ?_
     refine qw F (r_fa (off := 0) (F.t 6 rfl) fa130_0) fun a F => ?_
     refine qw F (r_ld (F.t 23 rfl) (cel_cell (o := 0) (H.cell 0 rfl) rfl) one2) fun a F => ?_
     refine mv F rfl fun a F => ?_
     refine qw F (r_mul (F.k (.int .i64 8)) (F.t 25 rfl)) fun a F => ?_
     obtain ⟨c26, j_23⟩ := guardO j_23
     refine qw F (r_shr (F.t 24 rfl) (F.t 26 rfl) c26) fun a F => ?_
     refine qw F (r_ci (F.t 27 rfl) Try.underlying5 Try.underlying2) fun a F => ?_
     obtain ⟨c27, j_23⟩ := guardO j_23
     refine qw F (r_ixArr (F.t 3 rfl) (F.t 22 rfl) Try.underlying89 sz5 c27.1 c27.2) fun a F => ?_
     obtain ⟨_, hr, H⟩ := Hp.putA (xs := x21) (j := x19) (H.f3.f2.f2.f3) (F.t 29 rfl) (F.t 28 rfl) sz5 (wrap_u8 _) c27.1 c27.2
     refine ls (qn F (.inl rfl) (hr _ _ _ _) fun a F => ?_)
     refine rgend ?_
     replace F := F.only [1, 2, 3, 4, 6, 7, 9, 10, 11] (l' := [(1, _), (2, _), (3, _), (4, _), (6, _), (7, _), (9, _), (10, _), (11, _)]) rfl
     refine wp_region_lit ?_
     refine mv F rfl fun a F => ?_
     refine qw F (r_add (F.t 30 rfl) (F.k (.int .i64 1))) fun a F => ?_
     refine as_ F rfl fun a F => ?_
     refine wpList_nil ?_
     refine wp_region_lit ?_
     refine mv F rfl fun a F => ?_
     refine qw F (r_sub (F.t 20 rfl) (F.k (.int .i64 1))) fun a F => ?_
     refine as_ F rfl fun a F => ?_
     refine wpList_nil ?_
     replace F := F.only [7, 4, 1, 2, 3, 6, 9, 10, 11] (l' := [(7, _), (4, _), (1, _), (2, _), (3, _), (6, _), (9, _), (10, _), (11, _)]) rfl
     try dsimp only at j_23
     obtain rfl := Option.some.inj j_23
     exact ⟨_, rfl, F.only [1, 2, 3, 4, 6, 7, 9, 10, 11] rfl, H.f3.f1.f3.f3⟩
    rw [if_neg c25] at j_23
    rw [decide_eq_false c25] at F
    refine wp_cond_false (F.ev rfl) ?_
    refine wp_exit ?_
    try dsimp only at j_23
    obtain rfl := Option.some.inj j_23
    obtain rfl := u_23 _ rfl
    repeat (with_reducible refine exT ?_)
    with_reducible refine exB ?_
    exact ⟨_, _, rfl, F.only [1, 2, 3, 4, 9, 10, 11] rfl, H.fx0⟩
   rintro a w ⟨x22, x23, rfl, F, H⟩
   try dsimp only at j_11 F H
   refine wp_region_lit ?_
   refine qw F (r_add (F.t 11 rfl) (F.k (.int .i64 1))) fun a F => ?_
   refine mv F rfl fun a F => ?_
   refine wpList_nil ?_
   try dsimp only at j_11
   obtain rfl := Option.some.inj j_11
   exact ⟨_, rfl, F.only [1, 2, 3, 4, 9, 10, 11] rfl, H⟩
  rw [if_neg c13] at j_11
  rw [decide_eq_false c13] at F
  refine wp_cond_false (F.ev rfl) ?_
  refine wp_exit ?_
  try dsimp only at j_11
  obtain rfl := Option.some.inj j_11
  obtain rfl := u_11 _ rfl
  repeat (with_reducible refine exT ?_)
  with_reducible refine exB ?_
  exact ⟨_, rfl, F.only [1, 2, 3] rfl, H.px0⟩
 rintro a w ⟨x11, rfl, F, H⟩
 try dsimp only at h F H
 refine wp_seq ?_
 replace H := H.drew
 have HS := H
 refine dr (fun w => Hp w0 (rd kByte A0_4 c0_4 a0.Body :: ps) (cel g2 (arrOf (Arr.zero 64).l) 89 :: cel g3 (arrOf x11.l) 89 :: cel g1 [.int .i64 a0.Gen, .int .i64 a0.Place, .int .i64 a0.Parts, .int .i64 a0.Kept, .slice A0_4 a0.Body.length c0_4] 53 :: fs) w) _ (by kernel_rfl) ?_ (n := 4)
 refine dk 0 F rfl NP HS (fun w S => (r_slB (o := 0) (l := 14) (h := 64) (o' := 14) (n' := 50) (c' := 50) (F.t 3 rfl) Try.underlying89 sz5 (.inr ⟨_, _, rfl, (F.k (.int .i64 14))⟩) (.inl ⟨rfl, rfl⟩) (by decide) (by decide) (by decide) rfl rfl rfl)) fun a F => ?_
 refine dk 1 F rfl NP HS (fun w S => (r_fa (off := 4) (F.t 1 rfl) fa53_4)) fun a F => ?_
 refine dk 2 F rfl NP HS (fun w S => (r_ld (F.t 34 rfl) (cel_cell (o := 4) (S.cell 2 rfl) rfl) one29)) fun a F => ?_
 obtain ⟨_, hr, H⟩ := Hp.cpyA (xs := x11) (lo := 14) (H.f2.f1.f2) 0 rfl (F.t 33 rfl) (F.t 35 rfl) Try.underlying29 sz5 rfl (by decide)
 refine d1 3 rfl (by kernel_rfl) (qv F (hr _ _ _ _ _) fun a F => ?_)
 have HS := H
 refine kga (by kernel_rfl) HS ?_
 refine ddone (by kernel_rfl) ?_
 replace F := F.only [2, 3] (l' := [(2, _), (3, _)]) rfl
 refine rg ?_
 refine qw F (r_ldA (F.t 3 rfl) (cel_range (o := 0) (n := 64) (vs := (arrOf (x11.cpy 14 a0.Body).l)) (H.cell 0 rfl) (arr_take (x11.cpy 14 a0.Body))) agg89 (arr_len (x11.cpy 14 a0.Body))) fun a F => ?_
 obtain ⟨_, hr, H⟩ := Hp.store (t := 89) (o := 0) (n := 64) (vs := (arrOf (x11.cpy 14 a0.Body).l)) (cs' := (arrOf (x11.cpy 14 a0.Body).l)) (H.f2.f1.f2) (F.t 2 rfl) (F.t 37 rfl) rfl sz89 (arr_len (x11.cpy 14 a0.Body)) (Nat.le_of_eq ((Nat.zero_add _).trans (arr_len (Arr.zero 64)).symm)) (arr_all _) (putAt_all ((arr_len (x11.cpy 14 a0.Body)).trans (arr_len (Arr.zero 64)).symm))
 refine ls (qn F (.inl rfl) (hr _ _ _ _) fun a F => ?_)
 refine rgend ?_
 refine wp_ret ?_
 try dsimp only at h
 obtain rfl := Option.some.inj h
 exact RET _ _ (retC1 F rfl rfl (ldvA (cel_range (o := 0) (n := 64) (vs := (arrOf (x11.cpy 14 a0.Body).l)) (H.cell 0 rfl) (arr_take (x11.cpy 14 a0.Body))) agg89 (arr_len (x11.cpy 14 a0.Body))) ⟨_, rfl, rfl, H.px0.fx2.fx1.fx0⟩)
def sector_Put_f (a0 : api_Sector) : Option (List Int) :=
 ((sector_Right_f a0).bind fun x2 => (if x2 = true then ((sector_bytes_f a0).bind fun x5 => some x5.l) else some []))
theorem sector_Put_ok {w0 w : World} {ps : List PF} {fs : List SF} {a0 : api_Sector} {A0_4 : Option Addr} {c0_4 : Nat} {r0 : List Int} (H : Hp w0 (rd kByte A0_4 c0_4 a0.Body :: ps) fs w) (h : sector_Put_f a0 = some r0) :
  Calls Try.prog 82 [.agg #[.int .i64 a0.Gen, .int .i64 a0.Place, .int .i64 a0.Parts, .int .i64 a0.Kept, .slice A0_4 a0.Body.length c0_4]].toArray w fun e w' => ∃ v, e = .returned v ∧ ∃ (A0 : Option Addr) (c0 : Nat), v = .slice A0 r0.length c0 ∧ Hp w0 (rd kByte A0 c0 r0 :: ps) fs w' := by
 refine enter [.agg #[.int .i64 a0.Gen, .int .i64 a0.Place, .int .i64 a0.Parts, .int .i64 a0.Kept, .slice A0_4 a0.Body.length c0_4]] 10 Try.func82 fun Q a NP RET NRM F => ?_
 replace NP := np NP
 unfold sector_Put_f at h
 refine rg ?_
 refine ls (lbox F H rfl (cs := [.int .i64 a0.Gen, .int .i64 a0.Place, .int .i64 a0.Parts, .int .i64 a0.Kept, .slice A0_4 a0.Body.length c0_4]) rfl fun g1 w a H F => ?_)
 refine as_ F (v := .slice none 0 0) rfl fun a F => ?_
 refine rgend ?_
 refine wp_seq ?_
 refine rg ?_
 refine qw F (r_ldA (F.t 1 rfl) (cel_range (o := 0) (n := 5) (vs := [.int .i64 a0.Gen, .int .i64 a0.Place, .int .i64 a0.Parts, .int .i64 a0.Kept, .slice A0_4 a0.Body.length c0_4]) (H.cell 0 rfl) rfl) agg53 rfl) fun a F => ?_
 obtain ⟨x2, e3, h⟩ := Option.bind_eq_some_iff.1 h
 try dsimp only at h
 refine ls (call F Try.func93 (sector_Right_ok (a0 := a0) (H.p0) e3) rfl rfl fun v w hR a F => ?_)
 obtain ⟨rfl, H⟩ := hR
 refine qw F (r_not (F.t 5 rfl)) fun a F => ?_
 refine rgend ?_
 replace F := F.only [6, 1] (l' := [(6, _), (1, _)]) rfl
 by_cases c4 : x2 = true
 ·rw [if_pos c4] at h
  rw [c4] at F
  refine wp_cond_false (F.ev rfl) ?_
  refine wp_skip ?_
  refine rg ?_
  refine qw F (r_ldA (F.t 1 rfl) (cel_range (o := 0) (n := 5) (vs := [.int .i64 a0.Gen, .int .i64 a0.Place, .int .i64 a0.Parts, .int .i64 a0.Kept, .slice A0_4 a0.Body.length c0_4]) (H.cell 0 rfl) rfl) agg53 rfl) fun a F => ?_
  obtain ⟨x5, e6, h⟩ := Option.bind_eq_some_iff.1 h
  try dsimp only at h
  refine ls (call F Try.func94 (sector_bytes_ok (a0 := a0) (H.p0) e6) rfl rfl fun v w hR a F => ?_)
  obtain ⟨rfl, H⟩ := hR
  refine ls (lal F H ti89 (cs := (arrOf (Arr.zero 64).l)) rfl fun g7 w a H F => ?_)
  obtain ⟨_, hr, H⟩ := Hp.store (t := 89) (o := 0) (n := 64) (vs := (arrOf x5.l)) (cs' := (arrOf x5.l)) (H) (F.t 3 rfl) (F.t 8 rfl) rfl sz89 (arr_len x5) (Nat.le_of_eq ((Nat.zero_add _).trans (arr_len (Arr.zero 64)).symm)) (arr_all _) (putAt_all ((arr_len x5).trans (arr_len (Arr.zero 64)).symm))
  refine ls (qn F (.inl rfl) (hr _ _ _ _) fun a F => ?_)
  refine rgend ?_
  replace F := F.only [3] (l' := [(3, _)]) rfl
  refine rg ?_
  refine qw F (r_slB (o := 0) (l := 0) (h := 64) (o' := 0) (n' := x5.l.length) (c' := 64) (F.t 3 rfl) Try.underlying89 sz5 (.inl ⟨rfl, rfl⟩) (.inl ⟨rfl, rfl⟩) (by decide) (by decide) (by decide) rfl x5.h rfl) fun a F => ?_
  refine as_ F rfl fun a F => ?_
  refine rgend ?_
  refine wp_ret ?_
  replace H := Hp.celRd (o := 0) (c := 64) (ys := x5.l) (H) (arr_take' x5) x5.b (Nat.le_of_eq x5.h) (by decide)
  try dsimp only at h
  obtain rfl := Option.some.inj h
  exact RET _ _ (ret1 F rfl rfl ⟨_, rfl, (some ⟨g7, 0, none⟩), 64, rfl, H.px1.fx0⟩)
 rw [if_neg c4] at h
 rw [Bool.eq_false_iff.2 c4] at F
 refine wp_cond_true (F.ev rfl) ?_
 refine rg ?_
 refine as_ F (v := .slice none 0 0) rfl fun a F => ?_
 refine rgend ?_
 refine wp_ret ?_
 replace H := H.nilRd kByte
 try dsimp only at h
 obtain rfl := Option.some.inj h
 exact RET _ _ (ret1 F rfl rfl ⟨_, rfl, none, 0, rfl, H.px1.fx0⟩)
def ref16_Number_b0 : (Int × (List Int) × Int) → Option (Int × (List Int) × Int ⊕ List Int)
 | (x3, x4, x7) => (if x7 ≥ 0 then (if 0 ≤ x7 ∧ x7 < (x4.length : Int) then some (.inl (IntKind.i64.wrap (x3.tdiv 256), (x4.set (x7 : Int).toNat (IntKind.u8.wrap (x3.tmod 256))), IntKind.i64.wrap (x7 - 1))) else none) else some (.inr x4))
def ref16_Number_f (a0 : Int) (a1 : Int) : Option (List Int) :=
 (if 0 ≤ a1 ∧ 1 * a1 ≤ 281474976710656 then ((lp ref16_Number_b0 (a0, List.replicate (a1 : Int).toNat (0 : Int), IntKind.i64.wrap (a1 - 1))).bind fun x8 => some x8) else none)
theorem ref16_Number_ok {w0 w : World} {ps : List PF} {fs : List SF} {a0 : Int} {a1 : Int} {r0 : List Int} (H : Hp w0 ps fs w) (h : ref16_Number_f a0 a1 = some r0) :
  Calls Try.prog 55 [.int .i64 a0, .int .i64 a1].toArray w fun e w' => ∃ v, e = .returned v ∧ ∃ (A0 : Option Addr) (c0 : Nat), v = .slice A0 r0.length c0 ∧ Hp w0 ps (own kByte 5 A0 c0 r0 :: fs) w' := by
 refine enter [.int .i64 a0, .int .i64 a1] 24 Try.func55 fun Q a NP RET NRM F => ?_
 replace NP := np NP
 unfold ref16_Number_f at h
 refine rg ?_
 refine as_ F (v := .slice none 0 0) rfl fun a F => ?_
 refine rgend ?_
 refine rg ?_
 refine mv F rfl fun a F => ?_
 obtain ⟨c2, h⟩ := guardO h
 obtain ⟨g1, _, hr, H⟩ := Hp.make (kd := kByte) (zx := (0 : Int)) H (F.t 7 rfl) (F.t 7 rfl) Try.underlying29 ti5 rfl rfl (by decide) c2.1 c2.2 (fun Z w => ⟨rfl, by decide⟩) rfl
 refine qw F (hr _ _ _ _ _) fun a F => ?_
 refine as_ F rfl fun a F => ?_
 refine rgend ?_
 refine wp_seq ?_
 refine rg ?_
 refine mv F rfl fun a F => ?_
 refine qw F (r_sub (F.t 9 rfl) (F.k (.int .i64 1))) fun a F => ?_
 refine as_ F rfl fun a F => ?_
 refine rgend ?_
 replace F := F.only [6, 5, 0] (l' := [(6, _), (5, _), (0, _)]) rfl
 obtain ⟨o_10, k_10, h⟩ := Option.bind_eq_some_iff.1 h
 refine cut (fun a w => ∃ (x8 : List Int), x8 = o_10 ∧ ∃ (A9 : Option Addr) (c10 : Nat), Fr 24 [] [(5, .slice A9 x8.length c10)] a ∧ Hp w0 ps (own kByte 5 A9 c10 x8 :: fs) w) (wp_block ?_) ?_
 ·refine wloop ref16_Number_b0 (fun (s : Int × (List Int) × Int) a w => ∃ (A5 : Option Addr) (c6 : Nat), Fr 24 [] [(0, .int .i64 s.1), (5, .slice A5 s.2.1.length c6), (6, .int .i64 s.2.2)] a ∧ Hp w0 ps (own kByte 5 A5 c6 s.2.1 :: fs) w) k_10 ⟨(some ⟨g1, 0, none⟩), (List.replicate (a1 : Int).toNat (0 : Int)).length, F.only [0, 5, 6] rfl, H⟩ ?_
  rintro ⟨x3, x4, x7⟩ a w q_10 j_10 u_10 ⟨A5, c6, F, H⟩
  unfold ref16_Number_b0 at j_10
  try dsimp only at j_10 F H
  refine wp_seq ?_
  refine rg ?_
  refine mv F rfl fun a F => ?_
  refine qw F (r_ge (F.t 11 rfl) (F.k (.int .i64 0))) fun a F => ?_
  refine rgend ?_
  by_cases c12 : x7 ≥ 0
  ·rw [if_pos c12] at j_10
   rw [decide_eq_true c12] at F
   refine wp_cond_true (F.ev rfl) ?_
   refine wp_skip ?_
   refine wp_seq ?_
   refine wp_block ?_
   refine rg ?_
   iterate 3 refine mv F rfl fun a F => ?_
   refine qw F (r_rem (F.t 17 rfl) (F.k (.int .i64 256)) (by decide)) fun a F => ?_
   refine qw F (r_ci (F.t 18 rfl) Try.underlying5 Try.underlying2) fun a F => ?_
   obtain ⟨c13, j_10⟩ := guardO j_10
   obtain ⟨g14, s15, hA, hq17, hl16, H⟩ := H.ixOwn2 0 0 rfl (F.t 15 rfl) (F.t 16 rfl) Try.underlying29 sz5 (by decide) c13.1 c13.2
   cases hA
   obtain ⟨rfl, hr18⟩ := H.says_byte 0 rfl
   refine qw F (hq17 _ _ _ _ _ _) fun a F => ?_
   obtain ⟨_, hr, H⟩ := Hp.setOwn (kd := kByte) (xs := x4) (j := (x7 : Int).toNat) (x1 := IntKind.u8.wrap (x3.tmod 256)) (H) (F.t 20 rfl) (F.t 19 rfl) rfl sz5 (by have := c13; omega) (fun Z hp => ⟨rfl, (wrap_u8 _)⟩)
   refine ls (qn F (.inl rfl) (hr _ _ _ _) fun a F => ?_)
   replace F := F.only [20, 19, 18, 17, 16, 15, 12, 11, 0, 5, 6] (l' := [(20, .pointer (some ⟨g14, (x7 : Int).toNat * kByte.sz, none⟩)), (19, .int .u8 (IntKind.u8.wrap (x3.tmod 256))), (18, .int .i64 (x3.tmod 256)), (17, .int .i64 x3), (16, .int .i64 x7), (15, .slice (some ⟨g14, 0, none⟩) ((x4.set (x7 : Int).toNat (IntKind.u8.wrap (x3.tmod 256)))).length c6), (12, .bool true), (11, .int .i64 x7), (0, .int .i64 x3), (5, .slice (some ⟨g14, 0, none⟩) ((x4.set (x7 : Int).toNat (IntKind.u8.wrap (x3.tmod 256)))).length c6), (6, .int .i64 x7)]) (by (try simp only [List.length_set]); rfl)
   refine rgend ?_
   replace F := F.only [0, 5, 6] (l' := [(0, _), (5, _), (6, _)]) rfl
   refine wp_region_lit ?_
   refine mv F rfl fun a F => ?_
   refine qw F (r_quo (F.t 21 rfl) (F.k (.int .i64 256)) (by decide)) fun a F => ?_
   refine as_ F rfl fun a F => ?_
   refine wpList_nil ?_
   refine wp_region_lit ?_
   refine mv F rfl fun a F => ?_
   refine qw F (r_sub (F.t 13 rfl) (F.k (.int .i64 1))) fun a F => ?_
   refine as_ F rfl fun a F => ?_
   refine wpList_nil ?_
   replace F := F.only [6, 0, 5] (l' := [(6, _), (0, _), (5, _)]) rfl
   try dsimp only at j_10
   obtain rfl := Option.some.inj j_10
   exact ⟨_, rfl, (some ⟨g14, 0, none⟩), c6, F.only [0, 5, 6] rfl, H.px0⟩
  rw [if_neg c12] at j_10
  rw [decide_eq_false c12] at F
  refine wp_cond_false (F.ev rfl) ?_
  refine wp_exit ?_
  try dsimp only at j_10
  obtain rfl := Option.some.inj j_10
  obtain rfl := u_10 _ rfl
  repeat (with_reducible refine exT ?_)
  with_reducible refine exB ?_
  exact ⟨_, rfl, A5, c6, F.only [5] rfl, H⟩
 rintro a w ⟨x8, rfl, A9, c10, F, H⟩
 try dsimp only at h F H
 refine rg ?_
 refine mv F rfl fun a F => ?_
 refine as_ F rfl fun a F => ?_
 refine rgend ?_
 refine wp_ret ?_
 try dsimp only at h
 obtain rfl := Option.some.inj h
 exact RET _ _ (ret1 F rfl rfl ⟨_, rfl, A9, c10, rfl, H⟩)
def ref16_Read_b0 (a0 : List Int) : (Int × Int) → Option (Int × Int ⊕ Int)
 | (x1, x2) => (if x2 < (a0.length : Int) then (if 0 ≤ x2 ∧ x2 < (a0.length : Int) then some (.inl (IntKind.i64.wrap ((IntKind.i64.wrap (x1 * 256)) + (IntKind.i64.wrap (a0.getD (x2 : Int).toNat 0))), IntKind.i64.wrap (x2 + 1))) else none) else some (.inr x1))
def ref16_Read_f (a0 : List Int) : Option (Int) :=
 ((lp (ref16_Read_b0 a0) (0, 0)).bind fun x3 => some x3)
theorem ref16_Read_ok {w0 w : World} {ps : List PF} {fs : List SF} {a0 : List Int} {A0_ : Option Addr} {c0_ : Nat} {r0 : Int} (H : Hp w0 (rd kByte A0_ c0_ a0 :: ps) fs w) (h : ref16_Read_f a0 = some r0) :
  Calls Try.prog 103 [.slice A0_ a0.length c0_].toArray w fun e w' => ∃ v, e = .returned v ∧ v = .int .i64 r0 ∧ Hp w0 ps fs w' := by
 refine enter [.slice A0_ a0.length c0_] 20 Try.func103 fun Q a NP RET NRM F => ?_
 replace NP := np NP
 unfold ref16_Read_f at h
 refine rg ?_
 refine as_ F (v := .int .i64 0) rfl fun a F => ?_
 refine rgend ?_
 refine rg ?_
 refine as_ F (v := .int .i64 0) rfl fun a F => ?_
 refine rgend ?_
 refine wp_seq ?_
 refine rg ?_
 refine as_ F (v := .int .i64 0) rfl fun a F => ?_
 refine rgend ?_
 obtain ⟨o_3, k_3, h⟩ := Option.bind_eq_some_iff.1 h
 refine cut (fun a w => ∃ (x3 : Int), x3 = o_3 ∧ Fr 20 [] [(3, .int .i64 x3)] a ∧ Hp w0 ps fs w) (wp_block ?_) ?_
 ·refine wloop (ref16_Read_b0 a0) (fun (s : Int × Int) a w => Fr 20 [] [(0, .slice A0_ a0.length c0_), (3, .int .i64 s.1), (4, .int .i64 s.2)] a ∧ Hp w0 (rd kByte A0_ c0_ a0 :: ps) fs w) k_3 ⟨F.only [0, 3, 4] rfl, H⟩ ?_
  rintro ⟨x1, x2⟩ a w q_3 j_3 u_3 ⟨F, H⟩
  unfold ref16_Read_b0 at j_3
  try dsimp only at j_3 F H
  refine wp_seq ?_
  refine rg ?_
  iterate 2 refine mv F rfl fun a F => ?_
  refine qw F (r_len (F.t 6 rfl) Try.underlying29) fun a F => ?_
  refine qw F (r_lt (F.t 5 rfl) (F.t 7 rfl)) fun a F => ?_
  refine rgend ?_
  by_cases c5 : x2 < (a0.length : Int)
  ·rw [if_pos c5] at j_3
   rw [decide_eq_true c5] at F
   refine wp_cond_true (F.ev rfl) ?_
   refine wp_skip ?_
   refine wp_seq ?_
   refine wp_block ?_
   refine wp_region_lit ?_
   refine mv F rfl fun a F => ?_
   refine qw F (r_mul (F.t 11 rfl) (F.k (.int .i64 256))) fun a F => ?_
   iterate 2 refine mv F rfl fun a F => ?_
   obtain ⟨c6, j_3⟩ := guardO j_3
   obtain ⟨g7, o8, s9, hr, H⟩ := H.ix 0 0 rfl (F.t 13 rfl) (F.t 14 rfl) Try.underlying29 sz5 (by decide) c6.1 c6.2
   obtain ⟨rfl, hr10⟩ := H.says_byte 1 rfl
   refine qw F (hr _ _ _ _ _ _) fun a F => ?_
   refine qw F (r_ld (F.t 15 rfl) (range_cell (j := 0) (H.range 0 rfl) rfl) one5) fun a F => ?_
   refine qw F (r_ci (F.t 16 rfl) Try.underlying2 Try.underlying5) fun a F => ?_
   refine qw F (r_add (F.t 12 rfl) (F.t 17 rfl)) fun a F => ?_
   refine as_ F rfl fun a F => ?_
   refine wpList_nil ?_
   replace F := F.only [3, 0, 4] (l' := [(3, _), (0, _), (4, _)]) rfl
   refine wp_region_lit ?_
   refine mv F rfl fun a F => ?_
   refine qw F (r_add (F.t 9 rfl) (F.k (.int .i64 1))) fun a F => ?_
   refine as_ F rfl fun a F => ?_
   refine wpList_nil ?_
   try dsimp only at j_3
   obtain rfl := Option.some.inj j_3
   exact ⟨_, rfl, F.only [0, 3, 4] rfl, H.px1.px0⟩
  rw [if_neg c5] at j_3
  rw [decide_eq_false c5] at F
  refine wp_cond_false (F.ev rfl) ?_
  refine wp_exit ?_
  try dsimp only at j_3
  obtain rfl := Option.some.inj j_3
  obtain rfl := u_3 _ rfl
  repeat (with_reducible refine exT ?_)
  with_reducible refine exB ?_
  exact ⟨_, rfl, F.only [3] rfl, H.px0⟩
 rintro a w ⟨x3, rfl, F, H⟩
 try dsimp only at h F H
 refine rg ?_
 refine mv F rfl fun a F => ?_
 refine as_ F rfl fun a F => ?_
 refine rgend ?_
 refine wp_ret ?_
 try dsimp only at h
 obtain rfl := Option.some.inj h
 exact RET _ _ (ret1 F rfl rfl ⟨_, rfl, rfl, H⟩)
def ref16_within_f (a0 : Int) (a1 : Int) (a2 : Int) : Option (Bool) :=
 (((if a0 ≥ a1 then some ((decide (a0 ≤ a2))) else some false) : Option (Bool)).bind fun x1 => some x1)
theorem ref16_within_ok {w0 w : World} {ps : List PF} {fs : List SF} {a0 : Int} {a1 : Int} {a2 : Int} {r0 : Bool} (H : Hp w0 ps fs w) (h : ref16_within_f a0 a1 a2 = some r0) :
  Calls Try.prog 83 [.int .i64 a0, .int .i64 a1, .int .i64 a2].toArray w fun e w' => ∃ v, e = .returned v ∧ v = .bool r0 ∧ Hp w0 ps fs w' := by
 refine enter [.int .i64 a0, .int .i64 a1, .int .i64 a2] 15 Try.func83 fun Q a NP RET NRM F => ?_
 replace NP := np NP
 unfold ref16_within_f at h
 refine rg ?_
 refine as_ F (v := .bool false) rfl fun a F => ?_
 refine rgend ?_
 refine wp_seq ?_
 obtain ⟨o_1, k_1, h⟩ := Option.bind_eq_some_iff.1 h
 refine cut (fun a w => ∃ (x1 : Bool), x1 = o_1 ∧ Fr 15 [] [(6, .bool x1)] a ∧ Hp w0 ps fs w) ?_ ?_
 ·skip
  refine wp_region_lit ?_
  iterate 2 refine mv F rfl fun a F => ?_
  refine qw F (r_ge (F.t 7 rfl) (F.t 8 rfl)) fun a F => ?_
  refine mv F rfl fun a F => ?_
  by_cases c3 : a0 ≥ a1
  ·rw [if_pos c3] at k_1
   rw [decide_eq_true c3] at F
   iterate 2 refine mv F rfl fun a F => ?_
   refine qw F (r_le (F.t 11 rfl) (F.t 12 rfl)) fun a F => ?_
   refine qw F (r_pickT (F.t 10 rfl) (F.t 13 rfl)) fun a F => ?_
   refine as_ F rfl fun a F => ?_
   refine wpList_nil ?_
   replace F := F.only [6] (l' := [(6, _)]) rfl
   try dsimp only at k_1
   obtain rfl := Option.some.inj k_1
   exact ⟨_, rfl, F.only [6] rfl, H⟩
  rw [if_neg c3] at k_1
  rw [decide_eq_false c3] at F
  iterate 3 refine of_ F fun a F => ?_
  refine qw F (r_pickF (F.t 10 rfl) (F.k (.bool false))) fun a F => ?_
  refine as_ F rfl fun a F => ?_
  refine wpList_nil ?_
  replace F := F.only [6] (l' := [(6, _)]) rfl
  try dsimp only at k_1
  obtain rfl := Option.some.inj k_1
  exact ⟨_, rfl, F.only [6] rfl, H⟩
 rintro a w ⟨x1, rfl, F, H⟩
 try dsimp only at h F H
 refine wp_ret ?_
 try dsimp only at h
 obtain rfl := Option.some.inj h
 exact RET _ _ (ret1 F rfl rfl ⟨_, rfl, rfl, H⟩)
def ref16_Right_f (a0 : api_Sector) : Option (Bool) :=
 (((if a0.Gen ≥ 1 then (if a0.Gen ≤ 281474976710656 then ((ref16_within_f a0.Place 0 4096).bind fun x6 => (if x6 = true then ((ref16_within_f a0.Parts 1 32).bind fun x9 => (if x9 = true then ((ref16_within_f a0.Kept 0 1000).bind fun x12 => (if x12 = true then ((ref16_within_f (a0.Body.length : Int) 1 50).bind fun x15 => some x15) else some false)) else some false)) else some false)) else some false) else some false) : Option (Bool)).bind fun x2 => some x2)
theorem ref16_Right_ok {w0 w : World} {ps : List PF} {fs : List SF} {a0 : api_Sector} {A0_4 : Option Addr} {c0_4 : Nat} {r0 : Bool} (H : Hp w0 (rd kByte A0_4 c0_4 a0.Body :: ps) fs w) (h : ref16_Right_f a0 = some r0) :
  Calls Try.prog 54 [.agg #[.int .i64 a0.Gen, .int .i64 a0.Place, .int .i64 a0.Parts, .int .i64 a0.Kept, .slice A0_4 a0.Body.length c0_4]].toArray w fun e w' => ∃ v, e = .returned v ∧ v = .bool r0 ∧ Hp w0 ps fs w' := by
 refine enter [.agg #[.int .i64 a0.Gen, .int .i64 a0.Place, .int .i64 a0.Parts, .int .i64 a0.Kept, .slice A0_4 a0.Body.length c0_4]] 32 Try.func54 fun Q a NP RET NRM F => ?_
 replace NP := np NP
 unfold ref16_Right_f at h
 refine rg ?_
 refine ls (lbox F H rfl (cs := [.int .i64 a0.Gen, .int .i64 a0.Place, .int .i64 a0.Parts, .int .i64 a0.Kept, .slice A0_4 a0.Body.length c0_4]) rfl fun g1 w a H F => ?_)
 refine as_ F (v := .bool false) rfl fun a F => ?_
 refine rgend ?_
 refine wp_seq ?_
 obtain ⟨o_2, k_2, h⟩ := Option.bind_eq_some_iff.1 h
 refine cut (fun a w => ∃ (x2 : Bool), x2 = o_2 ∧ Fr 32 [] [(2, .bool x2)] a ∧ Hp w0 ps fs w) ?_ ?_
 ·skip
  refine wp_region_lit ?_
  refine qw F (r_fa (off := 0) (F.t 1 rfl) fa53_0) fun a F => ?_
  refine qw F (r_ld (F.t 3 rfl) (cel_cell (o := 0) (H.cell 0 rfl) rfl) one2) fun a F => ?_
  refine qw F (r_ge (F.t 4 rfl) (F.k (.int .i64 1))) fun a F => ?_
  refine mv F rfl fun a F => ?_
  by_cases c4 : a0.Gen ≥ 1
  ·rw [if_pos c4] at k_2
   rw [decide_eq_true c4] at F
   refine qw F (r_fa (off := 0) (F.t 1 rfl) fa53_0) fun a F => ?_
   refine qw F (r_ld (F.t 7 rfl) (cel_cell (o := 0) (H.cell 0 rfl) rfl) one2) fun a F => ?_
   refine qw F (r_le (F.t 8 rfl) (F.k (.int .i64 281474976710656))) fun a F => ?_
   refine qw F (r_pickT (F.t 6 rfl) (F.t 9 rfl)) fun a F => ?_
   refine mv F rfl fun a F => ?_
   by_cases c5 : a0.Gen ≤ 281474976710656
   ·rw [if_pos c5] at k_2
    rw [decide_eq_true c5] at F
    refine qw F (r_fa (off := 1) (F.t 1 rfl) fa53_1) fun a F => ?_
    refine qw F (r_ld (F.t 12 rfl) (cel_cell (o := 1) (H.cell 0 rfl) rfl) one3) fun a F => ?_
    obtain ⟨x6, e7, k_2⟩ := Option.bind_eq_some_iff.1 k_2
    try dsimp only at k_2
    refine ls (call F Try.func83 (ref16_within_ok (H) e7) rfl rfl fun v w hR a F => ?_)
    obtain ⟨rfl, H⟩ := hR
    refine qw F (r_pickT (F.t 11 rfl) (F.t 14 rfl)) fun a F => ?_
    refine mv F rfl fun a F => ?_
    by_cases c8 : x6 = true
    ·rw [if_pos c8] at k_2
     rw [c8] at F
     refine qw F (r_fa (off := 2) (F.t 1 rfl) fa53_2) fun a F => ?_
     refine qw F (r_ld (F.t 17 rfl) (cel_cell (o := 2) (H.cell 0 rfl) rfl) one3) fun a F => ?_
     obtain ⟨x9, e10, k_2⟩ := Option.bind_eq_some_iff.1 k_2
     try dsimp only at k_2
     refine ls (call F Try.func83 (ref16_within_ok (H) e10) rfl rfl fun v w hR a F => ?_)
     obtain ⟨rfl, H⟩ := hR
     refine qw F (r_pickT (F.t 16 rfl) (F.t 19 rfl)) fun a F => ?_
     refine mv F rfl fun a F => ?_
     by_cases c11 : x9 = true
     ·rw [if_pos c11] at k_2
      rw [c11] at F
      refine qw F (r_fa (off := 3) (F.t 1 rfl) fa53_3) fun a F => ?_
      refine qw F (r_ld (F.t 22 rfl) (cel_cell (o := 3) (H.cell 0 rfl) rfl) one3) fun a F => ?_
      obtain ⟨x12, e13, k_2⟩ := Option.bind_eq_some_iff.1 k_2
      try dsimp only at k_2
      refine ls (call F Try.func83 (ref16_within_ok (H) e13) rfl rfl fun v w hR a F => ?_)
      obtain ⟨rfl, H⟩ := hR
      refine qw F (r_pickT (F.t 21 rfl) (F.t 24 rfl)) fun a F => ?_
      refine mv F rfl fun a F => ?_
      by_cases c14 : x12 = true
      ·rw [if_pos c14] at k_2
       rw [c14] at F
       refine qw F (r_fa (off := 4) (F.t 1 rfl) fa53_4) fun a F => ?_
       refine qw F (r_ld (F.t 27 rfl) (cel_cell (o := 4) (H.cell 0 rfl) rfl) one29) fun a F => ?_
       refine qw F (r_len (F.t 28 rfl) Try.underlying29) fun a F => ?_
       obtain ⟨x15, e16, k_2⟩ := Option.bind_eq_some_iff.1 k_2
       try dsimp only at k_2
       refine ls (call F Try.func83 (ref16_within_ok (H) e16) rfl rfl fun v w hR a F => ?_)
       obtain ⟨rfl, H⟩ := hR
       refine qw F (r_pickT (F.t 26 rfl) (F.t 30 rfl)) fun a F => ?_
       refine as_ F rfl fun a F => ?_
       refine wpList_nil ?_
       replace F := F.only [2] (l' := [(2, _)]) rfl
       try dsimp only at k_2
       obtain rfl := Option.some.inj k_2
       exact ⟨_, rfl, F.only [2] rfl, H.px0.fx0⟩
      rw [if_neg c14] at k_2
      rw [Bool.eq_false_iff.2 c14] at F
      iterate 4 refine of_ F fun a F => ?_
      refine qw F (r_pickF (F.t 26 rfl) (F.k (.bool false))) fun a F => ?_
      refine as_ F rfl fun a F => ?_
      refine wpList_nil ?_
      replace F := F.only [2] (l' := [(2, _)]) rfl
      try dsimp only at k_2
      obtain rfl := Option.some.inj k_2
      exact ⟨_, rfl, F.only [2] rfl, H.px0.fx0⟩
     rw [if_neg c11] at k_2
     rw [Bool.eq_false_iff.2 c11] at F
     iterate 3 refine of_ F fun a F => ?_
     refine qw F (r_pickF (F.t 21 rfl) (F.k (.bool false))) fun a F => ?_
     refine mv F rfl fun a F => ?_
     iterate 4 refine of_ F fun a F => ?_
     refine qw F (r_pickF (F.t 26 rfl) (F.k (.bool false))) fun a F => ?_
     refine as_ F rfl fun a F => ?_
     refine wpList_nil ?_
     replace F := F.only [2] (l' := [(2, _)]) rfl
     try dsimp only at k_2
     obtain rfl := Option.some.inj k_2
     exact ⟨_, rfl, F.only [2] rfl, H.px0.fx0⟩
    rw [if_neg c8] at k_2
    rw [Bool.eq_false_iff.2 c8] at F
    iterate 3 refine of_ F fun a F => ?_
    refine qw F (r_pickF (F.t 16 rfl) (F.k (.bool false))) fun a F => ?_
    refine mv F rfl fun a F => ?_
    iterate 3 refine of_ F fun a F => ?_
    refine qw F (r_pickF (F.t 21 rfl) (F.k (.bool false))) fun a F => ?_
    refine mv F rfl fun a F => ?_
    iterate 4 refine of_ F fun a F => ?_
    refine qw F (r_pickF (F.t 26 rfl) (F.k (.bool false))) fun a F => ?_
    refine as_ F rfl fun a F => ?_
    refine wpList_nil ?_
    replace F := F.only [2] (l' := [(2, _)]) rfl
    try dsimp only at k_2
    obtain rfl := Option.some.inj k_2
    exact ⟨_, rfl, F.only [2] rfl, H.px0.fx0⟩
   rw [if_neg c5] at k_2
   rw [decide_eq_false c5] at F
   iterate 3 refine of_ F fun a F => ?_
   refine qw F (r_pickF (F.t 11 rfl) (F.k (.bool false))) fun a F => ?_
   refine mv F rfl fun a F => ?_
   iterate 3 refine of_ F fun a F => ?_
   refine qw F (r_pickF (F.t 16 rfl) (F.k (.bool false))) fun a F => ?_
   refine mv F rfl fun a F => ?_
   iterate 3 refine of_ F fun a F => ?_
   refine qw F (r_pickF (F.t 21 rfl) (F.k (.bool false))) fun a F => ?_
   refine mv F rfl fun a F => ?_
   iterate 4 refine of_ F fun a F => ?_
   refine qw F (r_pickF (F.t 26 rfl) (F.k (.bool false))) fun a F => ?_
   refine as_ F rfl fun a F => ?_
   refine wpList_nil ?_
   replace F := F.only [2] (l' := [(2, _)]) rfl
   try dsimp only at k_2
   obtain rfl := Option.some.inj k_2
   exact ⟨_, rfl, F.only [2] rfl, H.px0.fx0⟩
  rw [if_neg c4] at k_2
  rw [decide_eq_false c4] at F
  iterate 3 refine of_ F fun a F => ?_
  refine qw F (r_pickF (F.t 6 rfl) (F.k (.bool false))) fun a F => ?_
  refine mv F rfl fun a F => ?_
  iterate 3 refine of_ F fun a F => ?_
  refine qw F (r_pickF (F.t 11 rfl) (F.k (.bool false))) fun a F => ?_
  refine mv F rfl fun a F => ?_
  iterate 3 refine of_ F fun a F => ?_
  refine qw F (r_pickF (F.t 16 rfl) (F.k (.bool false))) fun a F => ?_
  refine mv F rfl fun a F => ?_
  iterate 3 refine of_ F fun a F => ?_
  refine qw F (r_pickF (F.t 21 rfl) (F.k (.bool false))) fun a F => ?_
  refine mv F rfl fun a F => ?_
  iterate 4 refine of_ F fun a F => ?_
  refine qw F (r_pickF (F.t 26 rfl) (F.k (.bool false))) fun a F => ?_
  refine as_ F rfl fun a F => ?_
  refine wpList_nil ?_
  replace F := F.only [2] (l' := [(2, _)]) rfl
  try dsimp only at k_2
  obtain rfl := Option.some.inj k_2
  exact ⟨_, rfl, F.only [2] rfl, H.px0.fx0⟩
 rintro a w ⟨x2, rfl, F, H⟩
 try dsimp only at h F H
 refine wp_ret ?_
 try dsimp only at h
 obtain rfl := Option.some.inj h
 exact RET _ _ (ret1 F rfl rfl ⟨_, rfl, rfl, H⟩)
def ref16_Put_f (a0 : api_Sector) : Option (List Int) :=
 ((ref16_Right_f a0).bind fun x2 => (if x2 = true then ((ref16_Number_f a0.Gen 8).bind fun x5 => ((ref16_Number_f a0.Place 2).bind fun x9 => (if (x5.length + x9.length) * 1 ≤ 140737488355328 then (if ((x5 ++ x9).length + 1) * 1 ≤ 140737488355328 then ((ref16_Number_f a0.Kept 2).bind fun x20 => (if ((((x5 ++ x9) ++ ([IntKind.u8.wrap a0.Parts]))).length + x20.length) * 1 ≤ 140737488355328 then (if ((((((x5 ++ x9) ++ ([IntKind.u8.wrap a0.Parts]))) ++ x20)).length + 1) * 1 ≤ 140737488355328 then (if ((((((((x5 ++ x9) ++ ([IntKind.u8.wrap a0.Parts]))) ++ x20)) ++ ([IntKind.u8.wrap (a0.Body.length : Int)]))).length + a0.Body.length) * 1 ≤ 140737488355328 then (if 0 ≤ (IntKind.i64.wrap (50 - (a0.Body.length : Int))) ∧ ((((((((((x5 ++ x9) ++ ([IntKind.u8.wrap a0.Parts]))) ++ x20)) ++ ([IntKind.u8.wrap (a0.Body.length : Int)]))) ++ a0.Body)).length + (IntKind.i64.wrap (50 - (a0.Body.length : Int))).toNat) * 1 ≤ 140737488355328 then some ((((((((((((x5 ++ x9) ++ ([IntKind.u8.wrap a0.Parts]))) ++ x20)) ++ ([IntKind.u8.wrap (a0.Body.length : Int)]))) ++ a0.Body)) ++ List.replicate (IntKind.i64.wrap (50 - (a0.Body.length : Int))).toNat (0 : Int)))) else none) else none) else none) else none)) else none) else none))) else some []))
theorem ref16_Put_ok {w0 w : World} {ps : List PF} {fs : List SF} {a0 : api_Sector} {A0_4 : Option Addr} {c0_4 : Nat} {r0 : List Int} (H : Hp w0 (rd kByte A0_4 c0_4 a0.Body :: ps) fs w) (h : ref16_Put_f a0 = some r0) :
  Calls Try.prog 27 [.agg #[.int .i64 a0.Gen, .int .i64 a0.Place, .int .i64 a0.Parts, .int .i64 a0.Kept, .slice A0_4 a0.Body.length c0_4]].toArray w fun e w' => ∃ v, e = .returned v ∧ ∃ (A0 : Option Addr) (c0 : Nat), v = .slice A0 r0.length c0 ∧ Hp w0 (rd kByte A0 c0 r0 :: ps) fs w' := by
 refine enter [.agg #[.int .i64 a0.Gen, .int .i64 a0.Place, .int .i64 a0.Parts, .int .i64 a0.Kept, .slice A0_4 a0.Body.length c0_4]] 42 Try.func27 fun Q a NP RET NRM F => ?_
 replace NP := np NP
 unfold ref16_Put_f at h
 refine rg ?_
 refine ls (lbox F H rfl (cs := [.int .i64 a0.Gen, .int .i64 a0.Place, .int .i64 a0.Parts, .int .i64 a0.Kept, .slice A0_4 a0.Body.length c0_4]) rfl fun g1 w a H F => ?_)
 refine as_ F (v := .slice none 0 0) rfl fun a F => ?_
 refine rgend ?_
 refine wp_seq ?_
 refine rg ?_
 refine qw F (r_ldA (F.t 1 rfl) (cel_range (o := 0) (n := 5) (vs := [.int .i64 a0.Gen, .int .i64 a0.Place, .int .i64 a0.Parts, .int .i64 a0.Kept, .slice A0_4 a0.Body.length c0_4]) (H.cell 0 rfl) rfl) agg53 rfl) fun a F => ?_
 obtain ⟨x2, e3, h⟩ := Option.bind_eq_some_iff.1 h
 try dsimp only at h
 refine ls (call F Try.func54 (ref16_Right_ok (a0 := a0) (H.p0) e3) rfl rfl fun v w hR a F => ?_)
 obtain ⟨rfl, H⟩ := hR
 refine qw F (r_not (F.t 5 rfl)) fun a F => ?_
 refine rgend ?_
 replace F := F.only [6, 1] (l' := [(6, _), (1, _)]) rfl
 by_cases c4 : x2 = true
 ·rw [if_pos c4] at h
  rw [c4] at F
  refine wp_cond_false (F.ev rfl) ?_
  refine wp_skip ?_
  refine wp_seq ?_
  replace H := H.drew
  have HS := H
  refine dr (fun w => Hp w0 (rd kByte A0_4 c0_4 a0.Body :: ps) (cel g1 [.int .i64 a0.Gen, .int .i64 a0.Place, .int .i64 a0.Parts, .int .i64 a0.Kept, .slice A0_4 a0.Body.length c0_4] 53 :: fs) w) _ (by kernel_rfl) ?_ (n := 8)
  refine dk 0 F rfl NP HS (fun w S => (r_fa (off := 0) (F.t 1 rfl) fa53_0)) fun a F => ?_
  refine dk 1 F rfl NP HS (fun w S => (r_ld (F.t 7 rfl) (cel_cell (o := 0) (S.cell 0 rfl) rfl) one2)) fun a F => ?_
  refine dk 3 F rfl NP HS (fun w S => (r_fa (off := 1) (F.t 1 rfl) fa53_1)) fun a F => ?_
  refine dk 4 F rfl NP HS (fun w S => (r_ld (F.t 10 rfl) (cel_cell (o := 1) (S.cell 0 rfl) rfl) one3)) fun a F => ?_
  obtain ⟨x5, e6, h⟩ := Option.bind_eq_some_iff.1 h
  try dsimp only at h
  refine d1 2 rfl (by kernel_rfl) (call F Try.func55 (ref16_Number_ok (H) e6) rfl rfl fun v w hR a F => ?_)
  obtain ⟨A7, c8, rfl, H⟩ := hR
  have HS := H.fx0
  refine kg _ HS (fun w S => S) ?_
  obtain ⟨x9, e10, h⟩ := Option.bind_eq_some_iff.1 h
  try dsimp only at h
  refine d1 5 rfl (by kernel_rfl) (call F Try.func55 (ref16_Number_ok (H) e10) rfl rfl fun v w hR a F => ?_)
  obtain ⟨A11, c12, rfl, H⟩ := hR
  have HS := H.fx1.fx0
  refine kg _ HS (fun w S => S) ?_
  obtain ⟨c13, h⟩ := guardO h
  replace H := (H).freeze
  obtain ⟨A14, c15, _, hr, H⟩ := Hp.appendRd (kd := kByte) (xs := x5) (ys := x9) (H) 0 rfl (F.t 9 rfl) (F.t 12 rfl) Try.underlying29 ti5 rfl (by decide) (by decide) c13
  refine d1 6 rfl (by kernel_rfl) (qv F (hr _ _ _ _ _) fun a F => ?_)
  have HS := H.fx0
  refine kg _ HS (fun w S => S.px0) ?_
  refine dk 7 F rfl NP HS (fun w S => (r_as (F.t 13 rfl))) fun a F => ?_
  refine ddone (by kernel_rfl) ?_
  replace F := F.only [3, 1] (l' := [(3, _), (1, _)]) rfl
  refine rg ?_
  refine mv F rfl fun a F => ?_
  refine qw F (r_fa (off := 2) (F.t 1 rfl) fa53_2) fun a F => ?_
  refine qw F (r_ld (F.t 15 rfl) (cel_cell (o := 2) (H.cell 1 rfl) rfl) one3) fun a F => ?_
  refine qw F (r_ci (F.t 16 rfl) Try.underlying5 Try.underlying3) fun a F => ?_
  refine ls (lbs F H (e := 5) (vs := [(0, .int .u8 (IntKind.u8.wrap a0.Parts))]) (cs := [.int .u8 (IntKind.u8.wrap a0.Parts)]) rfl (fun w => by kernel_rfl) fun g16 w a H F => ?_)
  obtain ⟨c17, h⟩ := guardO h
  obtain ⟨A18, c19, _, hr, H⟩ := Hp.appendCelL (kd := kByte) (xs := (x5 ++ x9)) (ys := [IntKind.u8.wrap a0.Parts]) (H.f2.f1.f2) (F.t 14 rfl) (F.t 18 rfl) Try.underlying29 ti5 rfl (by decide) (by decide) rfl ((SayL.cons (kd := kByte) (c1 := [.int .u8 (IntKind.u8.wrap a0.Parts)]) (y := IntKind.u8.wrap a0.Parts) (fun Z hp => ⟨rfl, (wrap_u8 _)⟩) SayL.nil)) c17
  refine qw F (hr _ _ _ _ _) fun a F => ?_
  refine as_ F rfl fun a F => ?_
  refine rgend ?_
  replace F := F.only [3, 1] (l' := [(3, _), (1, _)]) rfl
  refine rg ?_
  refine mv F rfl fun a F => ?_
  refine qw F (r_fa (off := 3) (F.t 1 rfl) fa53_3) fun a F => ?_
  refine qw F (r_ld (F.t 21 rfl) (cel_cell (o := 3) (H.cell 1 rfl) rfl) one3) fun a F => ?_
  obtain ⟨x20, e21, h⟩ := Option.bind_eq_some_iff.1 h
  try dsimp only at h
  refine ls (call F Try.func55 (ref16_Number_ok (H) e21) rfl rfl fun v w hR a F => ?_)
  obtain ⟨A22, c23, rfl, H⟩ := hR
  obtain ⟨c24, h⟩ := guardO h
  replace H := (H).freeze
  obtain ⟨A25, c26, _, hr, H⟩ := Hp.appendRd (kd := kByte) (xs := ((x5 ++ x9) ++ ([IntKind.u8.wrap a0.Parts]))) (ys := x20) (H) 0 rfl (F.t 20 rfl) (F.t 23 rfl) Try.underlying29 ti5 rfl (by decide) (by decide) c24
  refine qw F (hr _ _ _ _ _) fun a F => ?_
  refine as_ F rfl fun a F => ?_
  refine rgend ?_
  replace F := F.only [3, 1] (l' := [(3, _), (1, _)]) rfl
  refine rg ?_
  refine mv F rfl fun a F => ?_
  refine qw F (r_fa (off := 4) (F.t 1 rfl) fa53_4) fun a F => ?_
  refine qw F (r_ld (F.t 26 rfl) (cel_cell (o := 4) (H.cell 1 rfl) rfl) one29) fun a F => ?_
  refine qw F (r_len (F.t 27 rfl) Try.underlying29) fun a F => ?_
  refine qw F (r_ci (F.t 28 rfl) Try.underlying5 Try.underlying3) fun a F => ?_
  refine ls (lbs F H (e := 5) (vs := [(0, .int .u8 (IntKind.u8.wrap (a0.Body.length : Int)))]) (cs := [.int .u8 (IntKind.u8.wrap (a0.Body.length : Int))]) rfl (fun w => by kernel_rfl) fun g27 w a H F => ?_)
  obtain ⟨c28, h⟩ := guardO h
  obtain ⟨A29, c30, _, hr, H⟩ := Hp.appendCelL (kd := kByte) (xs := ((((x5 ++ x9) ++ ([IntKind.u8.wrap a0.Parts]))) ++ x20)) (ys := [IntKind.u8.wrap (a0.Body.length : Int)]) (H.f2.f1.f2) (F.t 25 rfl) (F.t 30 rfl) Try.underlying29 ti5 rfl (by decide) (by decide) rfl ((SayL.cons (kd := kByte) (c1 := [.int .u8 (IntKind.u8.wrap (a0.Body.length : Int))]) (y := IntKind.u8.wrap (a0.Body.length : Int)) (fun Z hp => ⟨rfl, (wrap_u8 _)⟩) SayL.nil)) c28
  refine qw F (hr _ _ _ _ _) fun a F => ?_
  refine as_ F rfl fun a F => ?_
  refine rgend ?_
  replace F := F.only [3, 1] (l' := [(3, _), (1, _)]) rfl
  refine rg ?_
  refine mv F rfl fun a F => ?_
  refine qw F (r_fa (off := 4) (F.t 1 rfl) fa53_4) fun a F => ?_
  refine qw F (r_ld (F.t 33 rfl) (cel_cell (o := 4) (H.cell 1 rfl) rfl) one29) fun a F => ?_
  obtain ⟨c31, h⟩ := guardO h
  obtain ⟨A32, c33, _, hr, H⟩ := Hp.appendRd (kd := kByte) (xs := ((((((x5 ++ x9) ++ ([IntKind.u8.wrap a0.Parts]))) ++ x20)) ++ ([IntKind.u8.wrap (a0.Body.length : Int)]))) (ys := a0.Body) (H) 2 rfl (F.t 32 rfl) (F.t 34 rfl) Try.underlying29 ti5 rfl (by decide) (by decide) c31
  refine qw F (hr _ _ _ _ _) fun a F => ?_
  refine as_ F rfl fun a F => ?_
  refine rgend ?_
  replace F := F.only [3, 1] (l' := [(3, _), (1, _)]) rfl
  refine rg ?_
  refine mv F rfl fun a F => ?_
  refine qw F (r_fa (off := 4) (F.t 1 rfl) fa53_4) fun a F => ?_
  refine qw F (r_ld (F.t 37 rfl) (cel_cell (o := 4) (H.cell 1 rfl) rfl) one29) fun a F => ?_
  refine qw F (r_len (F.t 38 rfl) Try.underlying29) fun a F => ?_
  refine qw F (r_sub (F.k (.int .i64 50)) (F.t 39 rfl)) fun a F => ?_
  obtain ⟨c34, h⟩ := guardO h
  obtain ⟨A35, c36, _, hr, H⟩ := Hp.appendZ (kd := kByte) (xs := ((((((((x5 ++ x9) ++ ([IntKind.u8.wrap a0.Parts]))) ++ x20)) ++ ([IntKind.u8.wrap (a0.Body.length : Int)]))) ++ a0.Body)) (zx := (0 : Int)) (H) (F.t 36 rfl) (F.t 40 rfl) Try.underlying29 Try.underlying3 ti5 rfl rfl (by decide) c34.1 c34.2 rfl (fun Z w => ⟨rfl, by decide⟩)
  refine qw F (hr _ _ _ _ _) fun a F => ?_
  refine as_ F rfl fun a F => ?_
  refine rgend ?_
  replace F := F.only [2] (l' := [(2, _)]) rfl
  refine wp_ret ?_
  replace H := (H).freeze
  try dsimp only at h
  obtain rfl := Option.some.inj h
  exact RET _ _ (ret1 F rfl rfl ⟨_, rfl, A35, c36, rfl, H.px3.px2.px1.fx0⟩)
 rw [if_neg c4] at h
 rw [Bool.eq_false_iff.2 c4] at F
 refine wp_cond_true (F.ev rfl) ?_
 refine rg ?_
 refine as_ F (v := .slice none 0 0) rfl fun a F => ?_
 refine rgend ?_
 refine wp_ret ?_
 replace H := H.nilRd kByte
 try dsimp only at h
 obtain rfl := Option.some.inj h
 exact RET _ _ (ret1 F rfl rfl ⟨_, rfl, none, 0, rfl, H.px1.fx0⟩)
def slices_Clone_f (a0 : List Int) : Option (List Int) :=
 (if (0 + a0.length) * 1 ≤ 140737488355328 then some a0 else none)
theorem slices_Clone_ok {w0 w : World} {ps : List PF} {fs : List SF} {a0 : List Int} {A0_ : Option Addr} {c0_ : Nat} {r0 : List Int} (H : Hp w0 (rd kByte A0_ c0_ a0 :: ps) fs w) (h : slices_Clone_f a0 = some r0) :
  Calls Try.prog 39 [.slice A0_ a0.length c0_].toArray w fun e w' => ∃ v, e = .returned v ∧ ∃ (A0 : Option Addr) (c0 : Nat), v = .slice A0 r0.length c0 ∧ Hp w0 ps (own kByte 5 A0 c0 r0 :: fs) w' := by
 refine enter [.slice A0_ a0.length c0_] 8 Try.func39 fun Q a NP RET NRM F => ?_
 replace NP := np NP
 unfold slices_Clone_f at h
 refine rg ?_
 refine as_ F (v := .slice none 0 0) rfl fun a F => ?_
 refine rgend ?_
 refine wp_seq ?_
 refine rg ?_
 refine mv F rfl fun a F => ?_
 rcases A0_ with _ | A1
 ·skip
  obtain rfl := H.rdnil 0 rfl
  try (obtain ⟨_, h⟩ := guardO h)
  refine qw F (r_snil (F.t 3 rfl) (F.k (.slice none 0 0)) Try.underlying29) fun a F => ?_
  refine rgend ?_
  refine wp_cond_true (F.ev rfl) ?_
  refine rg ?_
  refine as_ F (v := .slice none 0 0) rfl fun a F => ?_
  refine rgend ?_
  replace F := F.only [2] (l' := [(2, _)]) rfl
  refine wp_ret ?_
  replace H := H.nilOwn kByte 5
  try dsimp only at h
  obtain rfl := Option.some.inj h
  exact RET _ _ (ret1 F rfl rfl ⟨_, rfl, none, 0, rfl, H.px0⟩)
 skip
 refine qw F (r_snil (F.t 3 rfl) (F.k (.slice none 0 0)) Try.underlying29) fun a F => ?_
 refine rgend ?_
 refine wp_cond_false (F.ev rfl) ?_
 refine wp_skip ?_
 refine rg ?_
 refine ls (lbs F H (e := 5) (vs := []) (cs := []) rfl (fun w => by kernel_rfl) fun g2 w a H F => ?_)
 refine mv F rfl fun a F => ?_
 replace H := Hp.litOwn (kd := kByte) (xs := []) (H) (SayL.nil) (Nat.le_of_ble_eq_true rfl)
 obtain ⟨c3, h⟩ := guardO h
 obtain ⟨A4, c5, _, hr, H⟩ := Hp.appendRd (kd := kByte) (xs := []) (ys := a0) (H) 0 rfl (F.t 5 rfl) (F.t 6 rfl) Try.underlying29 ti5 rfl (by decide) (by decide) c3
 rw [List.nil_append] at hr H
 refine qw F (hr _ _ _ _ _) fun a F => ?_
 refine as_ F rfl fun a F => ?_
 refine rgend ?_
 replace F := F.only [2] (l' := [(2, _)]) rfl
 refine wp_ret ?_
 try dsimp only at h
 obtain rfl := Option.some.inj h
 exact RET _ _ (ret1 F rfl rfl ⟨_, rfl, A4, c5, rfl, H.px0⟩)
def disk_Disk_there_f (a0 : disk_Disk) (a1 : Int) : Option (Bool) :=
 (((if a1 ≥ 0 then some ((decide (a1 < (a0.sectors.length : Int)))) else some false) : Option (Bool)).bind fun x1 => some x1)
theorem disk_Disk_there_ok {w0 w : World} {ps : List PF} {fs : List SF} {a0 : disk_Disk} {g0_ : Nat} {a1 : Int} {r0 : Bool} (H : Hp w0 ps (obj_disk_Disk g0_ a0 :: fs) w) (h : disk_Disk_there_f a0 a1 = some r0) :
  Calls Try.prog 53 [pt g0_, .int .i64 a1].toArray w fun e w' => ∃ v, e = .returned v ∧ v = .bool r0 ∧ Hp w0 ps (obj_disk_Disk g0_ a0 :: fs) w' := by
 refine enter [pt g0_, .int .i64 a1] 16 Try.func53 fun Q a NP RET NRM F => ?_
 replace NP := np NP
 unfold disk_Disk_there_f at h
 refine rg ?_
 refine as_ F (v := .bool false) rfl fun a F => ?_
 refine rgend ?_
 refine wp_seq ?_
 obtain ⟨o_1, k_1, h⟩ := Option.bind_eq_some_iff.1 h
 refine cut (fun a w => ∃ (x1 : Bool), x1 = o_1 ∧ Fr 16 [] [(4, .bool x1)] a ∧ Hp w0 ps (obj_disk_Disk g0_ a0 :: fs) w) ?_ ?_
 ·skip
  refine wp_region_lit ?_
  refine mv F rfl fun a F => ?_
  refine qw F (r_ge (F.t 5 rfl) (F.k (.int .i64 0))) fun a F => ?_
  refine mv F rfl fun a F => ?_
  by_cases c3 : a1 ≥ 0
  ·rw [if_pos c3] at k_1
   rw [decide_eq_true c3] at F
   iterate 2 refine mv F rfl fun a F => ?_
   refine qw F (r_nc (F.t 9 rfl)) fun a F => ?_
   refine qw F (r_fa (off := 0) (F.t 10 rfl) fa71_0) fun a F => ?_
   obtain ⟨A4, c5, A7, c8, g6, H⟩ := Hp.openO_disk_Disk (H)
   refine qw F (r_ld (F.t 11 rfl) (cel_cell (o := 0) (H.cell 0 rfl) rfl) one67) fun a F => ?_
   refine qw F (r_len (F.t 12 rfl) Try.underlying67) fun a F => ?_
   refine qw F (r_lt (F.t 8 rfl) (F.t 13 rfl)) fun a F => ?_
   refine qw F (r_pickT (F.t 7 rfl) (F.t 14 rfl)) fun a F => ?_
   refine as_ F rfl fun a F => ?_
   refine wpList_nil ?_
   replace F := F.only [4] (l' := [(4, _)]) rfl
   replace H := Hp.closeO_disk_Disk (x := a0) (H)
   try dsimp only at k_1
   obtain rfl := Option.some.inj k_1
   exact ⟨_, rfl, F.only [4] rfl, H⟩
  rw [if_neg c3] at k_1
  rw [decide_eq_false c3] at F
  iterate 7 refine of_ F fun a F => ?_
  refine qw F (r_pickF (F.t 7 rfl) (F.k (.bool false))) fun a F => ?_
  refine as_ F rfl fun a F => ?_
  refine wpList_nil ?_
  replace F := F.only [4] (l' := [(4, _)]) rfl
  try dsimp only at k_1
  obtain rfl := Option.some.inj k_1
  exact ⟨_, rfl, F.only [4] rfl, H⟩
 rintro a w ⟨x1, rfl, F, H⟩
 try dsimp only at h F H
 refine wp_ret ?_
 try dsimp only at h
 obtain rfl := Option.some.inj h
 exact RET _ _ (ret1 F rfl rfl ⟨_, rfl, rfl, H⟩)
def disk_Disk_Sectors_f (a0 : disk_Disk) : Option (Int) :=
 some (a0.sectors.length : Int)
theorem disk_Disk_Sectors_ok {w0 w : World} {ps : List PF} {fs : List SF} {a0 : disk_Disk} {g0_ : Nat} {r0 : Int} (H : Hp w0 ps (obj_disk_Disk g0_ a0 :: fs) w) (h : disk_Disk_Sectors_f a0 = some r0) :
  Calls Try.prog 76 [pt g0_].toArray w fun e w' => ∃ v, e = .returned v ∧ v = .int .i64 r0 ∧ Hp w0 ps (obj_disk_Disk g0_ a0 :: fs) w' := by
 refine enter [pt g0_] 8 Try.func76 fun Q a NP RET NRM F => ?_
 replace NP := np NP
 unfold disk_Disk_Sectors_f at h
 refine rg ?_
 refine as_ F (v := .int .i64 0) rfl fun a F => ?_
 refine rgend ?_
 refine rg ?_
 refine mv F rfl fun a F => ?_
 refine qw F (r_nc (F.t 3 rfl)) fun a F => ?_
 refine qw F (r_fa (off := 0) (F.t 4 rfl) fa71_0) fun a F => ?_
 obtain ⟨A1, c2, A4, c5, g3, H⟩ := Hp.openO_disk_Disk (H)
 refine qw F (r_ld (F.t 5 rfl) (cel_cell (o := 0) (H.cell 0 rfl) rfl) one67) fun a F => ?_
 refine qw F (r_len (F.t 6 rfl) Try.underlying67) fun a F => ?_
 refine as_ F rfl fun a F => ?_
 refine rgend ?_
 replace F := F.only [2] (l' := [(2, _)]) rfl
 refine wp_ret ?_
 replace H := Hp.closeO_disk_Disk (x := a0) (H)
 try dsimp only at h
 obtain rfl := Option.some.inj h
 exact RET _ _ (ret1 F rfl rfl ⟨_, rfl, rfl, H⟩)
def disk_Disk_Pending_f (a0 : disk_Disk) : Option (Int) :=
 some (a0.pending.length : Int)
theorem disk_Disk_Pending_ok {w0 w : World} {ps : List PF} {fs : List SF} {a0 : disk_Disk} {g0_ : Nat} {r0 : Int} (H : Hp w0 ps (obj_disk_Disk g0_ a0 :: fs) w) (h : disk_Disk_Pending_f a0 = some r0) :
  Calls Try.prog 34 [pt g0_].toArray w fun e w' => ∃ v, e = .returned v ∧ v = .int .i64 r0 ∧ Hp w0 ps (obj_disk_Disk g0_ a0 :: fs) w' := by
 refine enter [pt g0_] 8 Try.func34 fun Q a NP RET NRM F => ?_
 replace NP := np NP
 unfold disk_Disk_Pending_f at h
 refine rg ?_
 refine as_ F (v := .int .i64 0) rfl fun a F => ?_
 refine rgend ?_
 refine rg ?_
 refine mv F rfl fun a F => ?_
 refine qw F (r_nc (F.t 3 rfl)) fun a F => ?_
 refine qw F (r_fa (off := 2) (F.t 4 rfl) fa71_2) fun a F => ?_
 obtain ⟨A1, c2, A4, c5, g3, H⟩ := Hp.openO_disk_Disk (H)
 refine qw F (r_ld (F.t 5 rfl) (cel_cell (o := 2) (H.cell 0 rfl) rfl) one69) fun a F => ?_
 refine qw F (r_len (F.t 6 rfl) Try.underlying69) fun a F => ?_
 refine as_ F rfl fun a F => ?_
 refine rgend ?_
 replace F := F.only [2] (l' := [(2, _)]) rfl
 refine wp_ret ?_
 replace H := Hp.closeO_disk_Disk (x := a0) (H)
 try dsimp only at h
 obtain rfl := Option.some.inj h
 exact RET _ _ (ret1 F rfl rfl ⟨_, rfl, rfl, H⟩)
def ref15_Disk_Pending_f (a0 : ref15_Disk) : Option (Int) :=
 some (a0.P.length : Int)
theorem ref15_Disk_Pending_ok {w0 w : World} {ps : List PF} {fs : List SF} {a0 : ref15_Disk} {g0_ : Nat} {r0 : Int} (H : Hp w0 ps (obj_ref15_Disk g0_ a0 :: fs) w) (h : ref15_Disk_Pending_f a0 = some r0) :
  Calls Try.prog 66 [pt g0_].toArray w fun e w' => ∃ v, e = .returned v ∧ v = .int .i64 r0 ∧ Hp w0 ps (obj_ref15_Disk g0_ a0 :: fs) w' := by
 refine enter [pt g0_] 8 Try.func66 fun Q a NP RET NRM F => ?_
 replace NP := np NP
 unfold ref15_Disk_Pending_f at h
 refine rg ?_
 refine as_ F (v := .int .i64 0) rfl fun a F => ?_
 refine rgend ?_
 refine rg ?_
 refine mv F rfl fun a F => ?_
 refine qw F (r_nc (F.t 3 rfl)) fun a F => ?_
 refine qw F (r_fa (off := 2) (F.t 4 rfl) fa88_2) fun a F => ?_
 obtain ⟨A1, c2, A3, c4, A5, c6, H⟩ := Hp.openO_ref15_Disk (H)
 refine qw F (r_ld (F.t 5 rfl) (cel_cell (o := 2) (H.cell 0 rfl) rfl) one86) fun a F => ?_
 refine qw F (r_len (F.t 6 rfl) Try.underlying86) fun a F => ?_
 refine as_ F rfl fun a F => ?_
 refine rgend ?_
 replace F := F.only [2] (l' := [(2, _)]) rfl
 refine wp_ret ?_
 replace H := Hp.closeO_ref15_Disk (x := a0) (H)
 try dsimp only at h
 obtain rfl := Option.some.inj h
 exact RET _ _ (ret1 F rfl rfl ⟨_, rfl, rfl, H⟩)
end Go.Proofs.Ytpmkpiffbdcflaa
