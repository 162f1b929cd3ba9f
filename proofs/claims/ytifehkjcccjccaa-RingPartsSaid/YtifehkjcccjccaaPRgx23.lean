/- The Go functions that this seat's statements reach: each with the plain function that it computes, for every input at which that function answers. Written by a program of the session (wip/tools/hprint.py) over the kit's printer; contracts that the printer does not take are proved by hand among them. -/
import Derived.Test.YtifehkjcccjccaaPRgx0
import Derived.Test.YtifehkjcccjccaaPRgx2
import Derived.Test.YtifehkjcccjccaaPRgx5
import Derived.Test.YtifehkjcccjccaaPRgx7
import Derived.Test.YtifehkjcccjccaaPRgx10
import Derived.Test.YtifehkjcccjccaaPRgx11
import Derived.Test.YtifehkjcccjccaaPRgx12
import Derived.Test.YtifehkjcccjccaaPRgx13
namespace Go.Proofs.Ytifehkjcccjccaa.PRg
open Go.RowKit Go.Proofs.YtifehkjcccjccaaW.PrintWords Go.Proofs.YtifehkjcccjccaaW.PrintLast Go.Proofs.YtifehkjcccjccaaW.PrintMore
attribute [local go_sem] max2_int min2_int max_two min_two max_three min_three max_four min_four   -- for this text's walks alone
set_option linter.unusedVariables false
set_option linter.unusedSimpArgs false

/-! ### symbolonlaw01_RingParts: function 7 -/
def symbolonlaw01_RingParts.f (k : Nat) (l0 : List Int) (l1 : List Int) (a2 : Int) : Option (Bool) := (symbolonlaw01_head.f k).bind fun t340 => (if (mn (l0.length : Int) (l1.length : Int)) > 3000 then (some t340) else (if 0 ≤ (mn (l0.length : Int) (l1.length : Int)) then (if (mn (l0.length : Int) (l1.length : Int)) ≤ (l0.length : Int) then (if (mn (l0.length : Int) (l1.length : Int)) ≤ (l1.length : Int) then (if (wrap64 ((mn (l0.length : Int) (l1.length : Int)) + 1)) = 0 then (none) else (if t340 = true then ((ring_Sum.f k (l0.take ((mn (l0.length : Int) (l1.length : Int)) : Int).toNat)).bind fun t343 => (if 0 ≤ (Int.tmod (wrap64 (a2)) (wrap64 ((mn (l0.length : Int) (l1.length : Int)) + 1))) then (if (Int.tmod (wrap64 (a2)) (wrap64 ((mn (l0.length : Int) (l1.length : Int)) + 1))) ≤ ((l0.take ((mn (l0.length : Int) (l1.length : Int)) : Int).toNat).length : Int) then ((ring_Sum.f k ((l0.take ((mn (l0.length : Int) (l1.length : Int)) : Int).toNat).take ((Int.tmod (wrap64 (a2)) (wrap64 ((mn (l0.length : Int) (l1.length : Int)) + 1))) : Int).toNat)).bind fun t345 => ((ring_Sum.f k ((l0.take ((mn (l0.length : Int) (l1.length : Int)) : Int).toNat).drop ((Int.tmod (wrap64 (a2)) (wrap64 ((mn (l0.length : Int) (l1.length : Int)) + 1))) : Int).toNat)).bind fun t347 => (if t343 = (IntKind.u64.wrap (t345 + t347)) then ((ring_Dot.f k (l0.take ((mn (l0.length : Int) (l1.length : Int)) : Int).toNat) (l1.take ((mn (l0.length : Int) (l1.length : Int)) : Int).toNat)).bind fun t348 => (if (Int.tmod (wrap64 (a2)) (wrap64 ((mn (l0.length : Int) (l1.length : Int)) + 1))) ≤ ((l1.take ((mn (l0.length : Int) (l1.length : Int)) : Int).toNat).length : Int) then ((ring_Dot.f k ((l0.take ((mn (l0.length : Int) (l1.length : Int)) : Int).toNat).take ((Int.tmod (wrap64 (a2)) (wrap64 ((mn (l0.length : Int) (l1.length : Int)) + 1))) : Int).toNat) ((l1.take ((mn (l0.length : Int) (l1.length : Int)) : Int).toNat).take ((Int.tmod (wrap64 (a2)) (wrap64 ((mn (l0.length : Int) (l1.length : Int)) + 1))) : Int).toNat)).bind fun t351 => ((ring_Dot.f k ((l0.take ((mn (l0.length : Int) (l1.length : Int)) : Int).toNat).drop ((Int.tmod (wrap64 (a2)) (wrap64 ((mn (l0.length : Int) (l1.length : Int)) + 1))) : Int).toNat) ((l1.take ((mn (l0.length : Int) (l1.length : Int)) : Int).toNat).drop ((Int.tmod (wrap64 (a2)) (wrap64 ((mn (l0.length : Int) (l1.length : Int)) + 1))) : Int).toNat)).bind fun t354 => (if t348 = (IntKind.u64.wrap (t351 + t354)) then ((ring_Scale.f k 2 (l0.take ((mn (l0.length : Int) (l1.length : Int)) : Int).toNat)).bind fun t355 => ((ring_Add.f k (l0.take ((mn (l0.length : Int) (l1.length : Int)) : Int).toNat) (l0.take ((mn (l0.length : Int) (l1.length : Int)) : Int).toNat)).bind fun t358 => ((symbolonref01_Same.f k t355 t358).bind fun t361 => (if t361 = true then ((ring_Scale.f k 0 (l0.take ((mn (l0.length : Int) (l1.length : Int)) : Int).toNat)).bind fun t362 => ((ring_Sub.f k (l1.take ((mn (l0.length : Int) (l1.length : Int)) : Int).toNat) (l1.take ((mn (l0.length : Int) (l1.length : Int)) : Int).toNat)).bind fun t365 => ((symbolonref01_Same.f k t362 t365).bind fun t368 => (some t368)))) else (none))))) else (none)))) else (none))) else (none)))) else (none)) else (none))) else (none))) else (none)) else (none)) else (none)))
theorem symbolonlaw01_RingParts.mono : ∀ a0 a1 a2 k, LeO (symbolonlaw01_RingParts.f k a0 a1 a2) (symbolonlaw01_RingParts.f (k + 1) a0 a1 a2) := by
  intro a0 a1 a2 k
  unfold symbolonlaw01_RingParts.f
  repeat' first
      | (with_reducible exact ring_Add.mono _ _ _)
      | (with_reducible exact ring_Dot.mono _ _ _)
      | (with_reducible exact ring_Scale.mono _ _ _)
      | (with_reducible exact ring_Sub.mono _ _ _)
      | (with_reducible exact ring_Sum.mono _ _)
      | (with_reducible exact symbolonlaw01_head.mono _)
      | (with_reducible exact symbolonref01_Same.mono _ _ _)
      | (with_reducible exact LeO.refl _)
      | (with_reducible exact LeO.none _)
      | (with_reducible refine LeO.ite ?_ ?_)
      | (with_reducible refine LeO.bind ?_ (fun _ => ?_))
      | exact ring_Add.mono _ _ _
      | exact ring_Dot.mono _ _ _
      | exact ring_Scale.mono _ _ _
      | exact ring_Sub.mono _ _ _
      | exact ring_Sum.mono _ _
      | exact symbolonlaw01_head.mono _
      | exact symbolonref01_Same.mono _ _ _
      | exact LeO.none _
      | refine LeO.ite ?_ ?_
      | refine LeO.bind ?_ (fun _ => ?_)
def symbolonlaw01_RingParts.T8 : Bool × List (List Nat × List Nat) := (true, [([], []), ([0], [0]), ([1], [1]), ([2, 1, 1], [1, 2]), ([1], [1]), ([1], [1]), ([4, 5, 1], [1, 4, 5]), ([6, 3, 1], [1, 6]), ([1], [1]), ([1], [1]), ([8, 9, 1], [1, 8, 9]), ([10, 7, 1], [1, 10]), ([7, 11, 1], [1, 7, 11]), ([3, 12, 1], [1, 3, 12]), ([1, 13], [1, 13]), ([14, 11], [14]), ([15], [15]), ([15], [15]), ([16, 17, 15, 15], [15, 16, 17]), ([15], [15]), ([15], [15]), ([19, 20, 15], [15, 19, 20]), ([15], [15]), ([15], [15]), ([22, 23, 15], [15, 22, 23]), ([21, 24, 18, 15], [15, 21, 24]), ([15], [15]), ([15], [15]), ([26, 27, 15], [15, 26, 27]), ([15], [15]), ([15], [15]), ([29, 30, 15], [15, 29, 30]), ([28, 31, 25, 15], [15, 28, 31]), ([25, 32, 15], [15, 25, 32]), ([18, 33, 15], [15, 18, 33]), ([15, 34], [15, 34]), ([35, 32], [35]), ([36], [36]), ([37, 36, 36], [36, 37]), ([36], [36]), ([36], [36]), ([39, 40, 38, 36], [36, 39, 40]), ([38, 41, 41, 36], [36, 38, 41]), ([36, 42], [36, 42]), ([43, 42], [43]), ([44], [44]), ([45, 44, 44], [44, 45]), ([44], [44]), ([44], [44]), ([47, 48, 46, 44], [44, 47, 48]), ([46, 49, 49, 44], [44, 46, 49]), ([44, 50], [44, 50]), ([51, 50, 0, 1, 2, 3, 4, 5, 6, 7, 8, 9, 10, 11, 12, 13, 14, 15, 16, 17, 18, 19, 20, 21, 22, 23, 24, 25, 26, 27, 28, 29, 30, 31, 32, 33, 34, 35, 36, 37, 38, 39, 40, 41, 42, 43, 44, 45, 46, 47, 48, 49, 50, 51], [51])])
def symbolonlaw01_RingParts.B8 : List Nat := [0, 1, 3, 7, 3, 3, 51, 127, 3, 3, 771, 2047, 4095, 8191, 16383, 32767, 65535, 65535, 262143, 65535, 65535, 1638399, 65535, 65535, 12648447, 33554431, 65535, 65535, 201392127, 65535, 65535, 1610678271, 4294967295, 8589934591, 17179869183, 34359738367, 68719476735, 137438953471, 274877906943, 137438953471, 137438953471, 2199023255551, 4398046511103, 8796093022207, 17592186044415, 35184372088831, 70368744177663, 35184372088831, 35184372088831, 562949953421311, 1125899906842623, 2251799813685247, 4503599627370495]
theorem symbolonlaw01_RingParts.tab8 : rtab .any (opsOf Try.f7 8) = symbolonlaw01_RingParts.T8 := by kernel_rfl
theorem symbolonlaw01_RingParts.bits8 : waitsOk symbolonlaw01_RingParts.T8.2 symbolonlaw01_RingParts.B8 = true := by kernel_rfl
set_option maxHeartbeats 8000000 in
set_option maxRecDepth 100000 in
theorem symbolonlaw01_RingParts.calls (k : Nat) (A0 : Option Addr) (c0 : Nat) (l0 : List Int) (A1 : Option Addr) (c1 : Nat) (l1 : List Int) (a2 : Int) (r : Bool) (w : World) (hr0 : Kd.C (Kd.int .u64) w A0 l0.length l0) (hc0 : l0.length ≤ c0) (hr1 : Kd.C (Kd.int .u64) w A1 l1.length l1) (hc1 : l1.length ≤ c1) (h : symbolonlaw01_RingParts.f k l0 l1 a2 = some r) :
    Calls Try.prog 7 #[.slice A0 l0.length c0, .slice A1 l1.length c1, .int .u16 a2] w fun e w' => e = .returned (.bool r) ∧ Below w.heap.size w w' := by
  have HR0 := Aside0.mk hr0
  have HC0 := Aside0.mk hc0
  clear hr0 hc0
  have HR1 := Aside0.mk hr1
  have HC1 := Aside0.mk hc1
  clear hr1 hc1
  have HB := Aside0.mk (Below.refl w.heap.size w)
  have H : ((symbolonlaw01_head.f k).bind fun t340 => (if (mn (l0.length : Int) (l1.length : Int)) > 3000 then (some t340) else (if 0 ≤ (mn (l0.length : Int) (l1.length : Int)) then (if (mn (l0.length : Int) (l1.length : Int)) ≤ (l0.length : Int) then (if (mn (l0.length : Int) (l1.length : Int)) ≤ (l1.length : Int) then (if (wrap64 ((mn (l0.length : Int) (l1.length : Int)) + 1)) = 0 then (none) else (if t340 = true then ((ring_Sum.f k (l0.take ((mn (l0.length : Int) (l1.length : Int)) : Int).toNat)).bind fun t343 => (if 0 ≤ (Int.tmod (wrap64 (a2)) (wrap64 ((mn (l0.length : Int) (l1.length : Int)) + 1))) then (if (Int.tmod (wrap64 (a2)) (wrap64 ((mn (l0.length : Int) (l1.length : Int)) + 1))) ≤ ((l0.take ((mn (l0.length : Int) (l1.length : Int)) : Int).toNat).length : Int) then ((ring_Sum.f k ((l0.take ((mn (l0.length : Int) (l1.length : Int)) : Int).toNat).take ((Int.tmod (wrap64 (a2)) (wrap64 ((mn (l0.length : Int) (l1.length : Int)) + 1))) : Int).toNat)).bind fun t345 => ((ring_Sum.f k ((l0.take ((mn (l0.length : Int) (l1.length : Int)) : Int).toNat).drop ((Int.tmod (wrap64 (a2)) (wrap64 ((mn (l0.length : Int) (l1.length : Int)) + 1))) : Int).toNat)).bind fun t347 => (if t343 = (IntKind.u64.wrap (t345 + t347)) then ((ring_Dot.f k (l0.take ((mn (l0.length : Int) (l1.length : Int)) : Int).toNat) (l1.take ((mn (l0.length : Int) (l1.length : Int)) : Int).toNat)).bind fun t348 => (if (Int.tmod (wrap64 (a2)) (wrap64 ((mn (l0.length : Int) (l1.length : Int)) + 1))) ≤ ((l1.take ((mn (l0.length : Int) (l1.length : Int)) : Int).toNat).length : Int) then ((ring_Dot.f k ((l0.take ((mn (l0.length : Int) (l1.length : Int)) : Int).toNat).take ((Int.tmod (wrap64 (a2)) (wrap64 ((mn (l0.length : Int) (l1.length : Int)) + 1))) : Int).toNat) ((l1.take ((mn (l0.length : Int) (l1.length : Int)) : Int).toNat).take ((Int.tmod (wrap64 (a2)) (wrap64 ((mn (l0.length : Int) (l1.length : Int)) + 1))) : Int).toNat)).bind fun t351 => ((ring_Dot.f k ((l0.take ((mn (l0.length : Int) (l1.length : Int)) : Int).toNat).drop ((Int.tmod (wrap64 (a2)) (wrap64 ((mn (l0.length : Int) (l1.length : Int)) + 1))) : Int).toNat) ((l1.take ((mn (l0.length : Int) (l1.length : Int)) : Int).toNat).drop ((Int.tmod (wrap64 (a2)) (wrap64 ((mn (l0.length : Int) (l1.length : Int)) + 1))) : Int).toNat)).bind fun t354 => (if t348 = (IntKind.u64.wrap (t351 + t354)) then ((ring_Scale.f k 2 (l0.take ((mn (l0.length : Int) (l1.length : Int)) : Int).toNat)).bind fun t355 => ((ring_Add.f k (l0.take ((mn (l0.length : Int) (l1.length : Int)) : Int).toNat) (l0.take ((mn (l0.length : Int) (l1.length : Int)) : Int).toNat)).bind fun t358 => ((symbolonref01_Same.f k t355 t358).bind fun t361 => (if t361 = true then ((ring_Scale.f k 0 (l0.take ((mn (l0.length : Int) (l1.length : Int)) : Int).toNat)).bind fun t362 => ((ring_Sub.f k (l1.take ((mn (l0.length : Int) (l1.length : Int)) : Int).toNat) (l1.take ((mn (l0.length : Int) (l1.length : Int)) : Int).toNat)).bind fun t365 => ((symbolonref01_Same.f k t362 t365).bind fun t368 => (some t368)))) else (none))))) else (none)))) else (none))) else (none)))) else (none)) else (none))) else (none))) else (none)) else (none)) else (none)))) = some r := h
  clear h
  replace H := Option.bind_eq_some_iff.mp H
  obtain ⟨t340, A40, H⟩ := H
  replace H : (if (mn (l0.length : Int) (l1.length : Int)) > 3000 then (some t340) else (if 0 ≤ (mn (l0.length : Int) (l1.length : Int)) then (if (mn (l0.length : Int) (l1.length : Int)) ≤ (l0.length : Int) then (if (mn (l0.length : Int) (l1.length : Int)) ≤ (l1.length : Int) then (if (wrap64 ((mn (l0.length : Int) (l1.length : Int)) + 1)) = 0 then (none) else (if t340 = true then ((ring_Sum.f k (l0.take ((mn (l0.length : Int) (l1.length : Int)) : Int).toNat)).bind fun t343 => (if 0 ≤ (Int.tmod (wrap64 (a2)) (wrap64 ((mn (l0.length : Int) (l1.length : Int)) + 1))) then (if (Int.tmod (wrap64 (a2)) (wrap64 ((mn (l0.length : Int) (l1.length : Int)) + 1))) ≤ ((l0.take ((mn (l0.length : Int) (l1.length : Int)) : Int).toNat).length : Int) then ((ring_Sum.f k ((l0.take ((mn (l0.length : Int) (l1.length : Int)) : Int).toNat).take ((Int.tmod (wrap64 (a2)) (wrap64 ((mn (l0.length : Int) (l1.length : Int)) + 1))) : Int).toNat)).bind fun t345 => ((ring_Sum.f k ((l0.take ((mn (l0.length : Int) (l1.length : Int)) : Int).toNat).drop ((Int.tmod (wrap64 (a2)) (wrap64 ((mn (l0.length : Int) (l1.length : Int)) + 1))) : Int).toNat)).bind fun t347 => (if t343 = (IntKind.u64.wrap (t345 + t347)) then ((ring_Dot.f k (l0.take ((mn (l0.length : Int) (l1.length : Int)) : Int).toNat) (l1.take ((mn (l0.length : Int) (l1.length : Int)) : Int).toNat)).bind fun t348 => (if (Int.tmod (wrap64 (a2)) (wrap64 ((mn (l0.length : Int) (l1.length : Int)) + 1))) ≤ ((l1.take ((mn (l0.length : Int) (l1.length : Int)) : Int).toNat).length : Int) then ((ring_Dot.f k ((l0.take ((mn (l0.length : Int) (l1.length : Int)) : Int).toNat).take ((Int.tmod (wrap64 (a2)) (wrap64 ((mn (l0.length : Int) (l1.length : Int)) + 1))) : Int).toNat) ((l1.take ((mn (l0.length : Int) (l1.length : Int)) : Int).toNat).take ((Int.tmod (wrap64 (a2)) (wrap64 ((mn (l0.length : Int) (l1.length : Int)) + 1))) : Int).toNat)).bind fun t351 => ((ring_Dot.f k ((l0.take ((mn (l0.length : Int) (l1.length : Int)) : Int).toNat).drop ((Int.tmod (wrap64 (a2)) (wrap64 ((mn (l0.length : Int) (l1.length : Int)) + 1))) : Int).toNat) ((l1.take ((mn (l0.length : Int) (l1.length : Int)) : Int).toNat).drop ((Int.tmod (wrap64 (a2)) (wrap64 ((mn (l0.length : Int) (l1.length : Int)) + 1))) : Int).toNat)).bind fun t354 => (if t348 = (IntKind.u64.wrap (t351 + t354)) then ((ring_Scale.f k 2 (l0.take ((mn (l0.length : Int) (l1.length : Int)) : Int).toNat)).bind fun t355 => ((ring_Add.f k (l0.take ((mn (l0.length : Int) (l1.length : Int)) : Int).toNat) (l0.take ((mn (l0.length : Int) (l1.length : Int)) : Int).toNat)).bind fun t358 => ((symbolonref01_Same.f k t355 t358).bind fun t361 => (if t361 = true then ((ring_Scale.f k 0 (l0.take ((mn (l0.length : Int) (l1.length : Int)) : Int).toNat)).bind fun t362 => ((ring_Sub.f k (l1.take ((mn (l0.length : Int) (l1.length : Int)) : Int).toNat) (l1.take ((mn (l0.length : Int) (l1.length : Int)) : Int).toNat)).bind fun t365 => ((symbolonref01_Same.f k t362 t365).bind fun t368 => (some t368)))) else (none))))) else (none)))) else (none))) else (none)))) else (none)) else (none))) else (none))) else (none)) else (none)) else (none))) = some r := H
  have A4 := Aside0.mk A40
  clear A40
  obtain ⟨ji5, hji5⟩ : ∃ j_ : Int, (mn (l0.length : Int) (l1.length : Int)) = j_ := ⟨_, rfl⟩
  replace H : (if (ji5) > 3000 then (some t340) else (if 0 ≤ (ji5) then (if (ji5) ≤ (l0.length : Int) then (if (ji5) ≤ (l1.length : Int) then (if (wrap64 ((ji5) + 1)) = 0 then (none) else (if t340 = true then ((ring_Sum.f k (l0.take ((ji5) : Int).toNat)).bind fun t343 => (if 0 ≤ (Int.tmod (wrap64 (a2)) (wrap64 ((ji5) + 1))) then (if (Int.tmod (wrap64 (a2)) (wrap64 ((ji5) + 1))) ≤ ((l0.take ((ji5) : Int).toNat).length : Int) then ((ring_Sum.f k ((l0.take ((ji5) : Int).toNat).take ((Int.tmod (wrap64 (a2)) (wrap64 ((ji5) + 1))) : Int).toNat)).bind fun t345 => ((ring_Sum.f k ((l0.take ((ji5) : Int).toNat).drop ((Int.tmod (wrap64 (a2)) (wrap64 ((ji5) + 1))) : Int).toNat)).bind fun t347 => (if t343 = (IntKind.u64.wrap (t345 + t347)) then ((ring_Dot.f k (l0.take ((ji5) : Int).toNat) (l1.take ((ji5) : Int).toNat)).bind fun t348 => (if (Int.tmod (wrap64 (a2)) (wrap64 ((ji5) + 1))) ≤ ((l1.take ((ji5) : Int).toNat).length : Int) then ((ring_Dot.f k ((l0.take ((ji5) : Int).toNat).take ((Int.tmod (wrap64 (a2)) (wrap64 ((ji5) + 1))) : Int).toNat) ((l1.take ((ji5) : Int).toNat).take ((Int.tmod (wrap64 (a2)) (wrap64 ((ji5) + 1))) : Int).toNat)).bind fun t351 => ((ring_Dot.f k ((l0.take ((ji5) : Int).toNat).drop ((Int.tmod (wrap64 (a2)) (wrap64 ((ji5) + 1))) : Int).toNat) ((l1.take ((ji5) : Int).toNat).drop ((Int.tmod (wrap64 (a2)) (wrap64 ((ji5) + 1))) : Int).toNat)).bind fun t354 => (if t348 = (IntKind.u64.wrap (t351 + t354)) then ((ring_Scale.f k 2 (l0.take ((ji5) : Int).toNat)).bind fun t355 => ((ring_Add.f k (l0.take ((ji5) : Int).toNat) (l0.take ((ji5) : Int).toNat)).bind fun t358 => ((symbolonref01_Same.f k t355 t358).bind fun t361 => (if t361 = true then ((ring_Scale.f k 0 (l0.take ((ji5) : Int).toNat)).bind fun t362 => ((ring_Sub.f k (l1.take ((ji5) : Int).toNat) (l1.take ((ji5) : Int).toNat)).bind fun t365 => ((symbolonref01_Same.f k t362 t365).bind fun t368 => (some t368)))) else (none))))) else (none)))) else (none))) else (none)))) else (none)) else (none))) else (none))) else (none)) else (none)) else (none))) = some r := by first | (rw [hji5] at H; exact H) | (simp only [hji5] at H ⊢; exact H)
  obtain ⟨yc2, hyc2⟩ : ∃ y_, y_ = (l1.take ((ji5) : Int).toNat) := ⟨_, rfl⟩
  rw [← hyc2] at H
  have Nyc2 := Aside0.mk hyc2
  clear hyc2
  obtain ⟨yc1, hyc1⟩ : ∃ y_, y_ = (l0.take ((ji5) : Int).toNat) := ⟨_, rfl⟩
  rw [← hyc1] at H
  have Nyc1 := Aside0.mk hyc1
  clear hyc1
  (try rw [hji5] at A4)
  (try (have hji5l : 0 ≤ ji5 := by (rw [← hji5]; unfold mn; (repeat' split) <;> omega)))
  (try (have hji5m : 0 ≤ ji5 := by omega))
  have hji5_ : (if (l1.length : Int) < (l0.length : Int) then (l1.length : Int) else (l0.length : Int)) = ji5 := hji5
  have hji5_n : (if l1.length < l0.length then (l1.length : Int) else (l0.length : Int)) = ji5 := by rw [← hji5_]; simp only [Int.ofNat_lt]
  by_cases c6 : (ji5) > 3000
  · rw [if_pos c6] at H
    have c6b0 : decide (3000 < (ji5)) = true := decide_eq_true c6
    clear c6
    obtain rfl := Option.some.inj H
    go_enter Try.func7, Try.ntmps7
    go_wp2_with (first | ((with_reducible refine gate_callee (f := 16) rfl ?_); refine goesL_ (some 10) rfl rfl Try.func16 (by kernel_rfl) rfl #[] rfl (by (try simp only [List.map_toArray, List.map_cons, List.map_nil]); first | done | rfl | (simp only [List.length_drop, List.length_take]; rfl)) ?_; (with_reducible refine (symbolonlaw01_head.calls k  t340 _ A4.out).mono ?_); rintro e w7 ⟨rfl, hb⟩; refine ⟨_, rfl, ?_⟩; have n0_ := Aside0.mk (below_step (by repeat (first | (with_reducible first | exact HB.out | apply below_alloc | apply pw_below_drewN | apply below_drew1) | exact HB.out)) hb); clear HB; have HB := n0_; clear n0_; (try clear hb); (try clear hb2); (try clear hk); (try clear hi)))
    go_ret
    exact ⟨by first | rfl | (simp [errW_none, errW_some] <;> rfl) | (simp only [← hji5]; first | rfl | (simp [errW_none, errW_some] <;> rfl)) | (simp [*, errW_none, errW_some] <;> rfl), by repeat (first | (with_reducible first | exact HB.out | apply below_alloc | apply pw_below_drewN | apply below_drew1) | exact HB.out)⟩
  · rw [if_neg c6] at H
    have c6b0 : decide (3000 < (ji5)) = false := decide_eq_false c6
    clear c6
    by_cases c8 : 0 ≤ (ji5)
    · rw [if_pos c8] at H
      have c8b0 := eq_true c8
      have c8b1 : decide (0 ≤ (ji5)) = true := decide_eq_true c8
      clear c8
      by_cases c9 : (ji5) ≤ (l0.length : Int)
      · rw [if_pos c9] at H
        have c9b0 := eq_true c9
        have c9b1 : decide ((ji5) ≤ (l0.length : Int)) = true := decide_eq_true c9
        clear c9
        have c10b0 := eq_true (of_decide_eq_true (by first | (with_reducible assumption) | assumption) : 0 ≤ (ji5))
        by_cases c11 : (ji5) ≤ (l1.length : Int)
        · rw [if_pos c11] at H
          have c11b0 := eq_true c11
          have c11b1 : decide ((ji5) ≤ (l1.length : Int)) = true := decide_eq_true c11
          clear c11
          by_cases c12 : (wrap64 ((ji5) + 1)) = 0
          · rw [if_pos c12] at H
            exact absurd H (by simp)
          · rw [if_neg c12] at H
            have c12b0 : ((wrap64 ((ji5) + 1)) == 0) = false := beq_eq_false_iff_ne.mpr c12
            have c12b1 : ((wrap64 ((ji5) + 1)) != 0) = true := bne_iff_ne.mpr c12
            by_cases c13 : t340 = true
            · subst c13
              have H1 : ((ring_Sum.f k yc1).bind fun t343 => (if 0 ≤ (Int.tmod (wrap64 (a2)) (wrap64 ((ji5) + 1))) then (if (Int.tmod (wrap64 (a2)) (wrap64 ((ji5) + 1))) ≤ (yc1.length : Int) then ((ring_Sum.f k (yc1.take ((Int.tmod (wrap64 (a2)) (wrap64 ((ji5) + 1))) : Int).toNat)).bind fun t345 => ((ring_Sum.f k (yc1.drop ((Int.tmod (wrap64 (a2)) (wrap64 ((ji5) + 1))) : Int).toNat)).bind fun t347 => (if t343 = (IntKind.u64.wrap (t345 + t347)) then ((ring_Dot.f k yc1 yc2).bind fun t348 => (if (Int.tmod (wrap64 (a2)) (wrap64 ((ji5) + 1))) ≤ (yc2.length : Int) then ((ring_Dot.f k (yc1.take ((Int.tmod (wrap64 (a2)) (wrap64 ((ji5) + 1))) : Int).toNat) (yc2.take ((Int.tmod (wrap64 (a2)) (wrap64 ((ji5) + 1))) : Int).toNat)).bind fun t351 => ((ring_Dot.f k (yc1.drop ((Int.tmod (wrap64 (a2)) (wrap64 ((ji5) + 1))) : Int).toNat) (yc2.drop ((Int.tmod (wrap64 (a2)) (wrap64 ((ji5) + 1))) : Int).toNat)).bind fun t354 => (if t348 = (IntKind.u64.wrap (t351 + t354)) then ((ring_Scale.f k 2 yc1).bind fun t355 => ((ring_Add.f k yc1 yc1).bind fun t358 => ((symbolonref01_Same.f k t355 t358).bind fun t361 => (if t361 = true then ((ring_Scale.f k 0 yc1).bind fun t362 => ((ring_Sub.f k yc2 yc2).bind fun t365 => ((symbolonref01_Same.f k t362 t365).bind fun t368 => (some t368)))) else (none))))) else (none)))) else (none))) else (none)))) else (none)) else (none))) = some r := by rw [if_pos rfl] at H; exact H
              clear H
              have H := H1
              clear H1
              replace H := Option.bind_eq_some_iff.mp H
              obtain ⟨t343, A140, H⟩ := H
              replace H : (if 0 ≤ (Int.tmod (wrap64 (a2)) (wrap64 ((ji5) + 1))) then (if (Int.tmod (wrap64 (a2)) (wrap64 ((ji5) + 1))) ≤ (yc1.length : Int) then ((ring_Sum.f k (yc1.take ((Int.tmod (wrap64 (a2)) (wrap64 ((ji5) + 1))) : Int).toNat)).bind fun t345 => ((ring_Sum.f k (yc1.drop ((Int.tmod (wrap64 (a2)) (wrap64 ((ji5) + 1))) : Int).toNat)).bind fun t347 => (if t343 = (IntKind.u64.wrap (t345 + t347)) then ((ring_Dot.f k yc1 yc2).bind fun t348 => (if (Int.tmod (wrap64 (a2)) (wrap64 ((ji5) + 1))) ≤ (yc2.length : Int) then ((ring_Dot.f k (yc1.take ((Int.tmod (wrap64 (a2)) (wrap64 ((ji5) + 1))) : Int).toNat) (yc2.take ((Int.tmod (wrap64 (a2)) (wrap64 ((ji5) + 1))) : Int).toNat)).bind fun t351 => ((ring_Dot.f k (yc1.drop ((Int.tmod (wrap64 (a2)) (wrap64 ((ji5) + 1))) : Int).toNat) (yc2.drop ((Int.tmod (wrap64 (a2)) (wrap64 ((ji5) + 1))) : Int).toNat)).bind fun t354 => (if t348 = (IntKind.u64.wrap (t351 + t354)) then ((ring_Scale.f k 2 yc1).bind fun t355 => ((ring_Add.f k yc1 yc1).bind fun t358 => ((symbolonref01_Same.f k t355 t358).bind fun t361 => (if t361 = true then ((ring_Scale.f k 0 yc1).bind fun t362 => ((ring_Sub.f k yc2 yc2).bind fun t365 => ((symbolonref01_Same.f k t362 t365).bind fun t368 => (some t368)))) else (none))))) else (none)))) else (none))) else (none)))) else (none)) else (none)) = some r := H
              have A14 := Aside0.mk A140
              clear A140
              obtain ⟨ji15, hji15⟩ : ∃ j_ : Int, (Int.tmod (wrap64 (a2)) (wrap64 ((ji5) + 1))) = j_ := ⟨_, rfl⟩
              replace H : (if 0 ≤ (ji15) then (if (ji15) ≤ (yc1.length : Int) then ((ring_Sum.f k (yc1.take ((ji15) : Int).toNat)).bind fun t345 => ((ring_Sum.f k (yc1.drop ((ji15) : Int).toNat)).bind fun t347 => (if t343 = (IntKind.u64.wrap (t345 + t347)) then ((ring_Dot.f k yc1 yc2).bind fun t348 => (if (ji15) ≤ (yc2.length : Int) then ((ring_Dot.f k (yc1.take ((ji15) : Int).toNat) (yc2.take ((ji15) : Int).toNat)).bind fun t351 => ((ring_Dot.f k (yc1.drop ((ji15) : Int).toNat) (yc2.drop ((ji15) : Int).toNat)).bind fun t354 => (if t348 = (IntKind.u64.wrap (t351 + t354)) then ((ring_Scale.f k 2 yc1).bind fun t355 => ((ring_Add.f k yc1 yc1).bind fun t358 => ((symbolonref01_Same.f k t355 t358).bind fun t361 => (if t361 = true then ((ring_Scale.f k 0 yc1).bind fun t362 => ((ring_Sub.f k yc2 yc2).bind fun t365 => ((symbolonref01_Same.f k t362 t365).bind fun t368 => (some t368)))) else (none))))) else (none)))) else (none))) else (none)))) else (none)) else (none)) = some r := by first | (rw [hji15] at H; exact H) | (simp only [hji15] at H ⊢; exact H)
              obtain ⟨yc6, hyc6⟩ : ∃ y_, y_ = (yc2.drop ((ji15) : Int).toNat) := ⟨_, rfl⟩
              rw [← hyc6] at H
              have Nyc6 := Aside0.mk hyc6
              clear hyc6
              obtain ⟨yc5, hyc5⟩ : ∃ y_, y_ = (yc2.take ((ji15) : Int).toNat) := ⟨_, rfl⟩
              rw [← hyc5] at H
              have Nyc5 := Aside0.mk hyc5
              clear hyc5
              obtain ⟨yc4, hyc4⟩ : ∃ y_, y_ = (yc1.drop ((ji15) : Int).toNat) := ⟨_, rfl⟩
              rw [← hyc4] at H
              have Nyc4 := Aside0.mk hyc4
              clear hyc4
              obtain ⟨yc3, hyc3⟩ : ∃ y_, y_ = (yc1.take ((ji15) : Int).toNat) := ⟨_, rfl⟩
              rw [← hyc3] at H
              have Nyc3 := Aside0.mk hyc3
              clear hyc3
              (try rw [hji15] at A4)
              (try rw [hji15] at A14)
              by_cases c16 : 0 ≤ (ji15)
              · rw [if_pos c16] at H
                have c16b0 := eq_true c16
                have c16b1 : decide (0 ≤ (ji15)) = true := decide_eq_true c16
                clear c16
                by_cases c17 : (ji15) ≤ (yc1.length : Int)
                · rw [if_pos c17] at H
                  have c17b0 := eq_true c17
                  have c17b1 : decide ((ji15) ≤ (yc1.length : Int)) = true := decide_eq_true c17
                  clear c17
                  replace H := Option.bind_eq_some_iff.mp H
                  obtain ⟨t345, A180, H⟩ := H
                  replace H : ((ring_Sum.f k yc4).bind fun t347 => (if t343 = (IntKind.u64.wrap (t345 + t347)) then ((ring_Dot.f k yc1 yc2).bind fun t348 => (if (ji15) ≤ (yc2.length : Int) then ((ring_Dot.f k yc3 yc5).bind fun t351 => ((ring_Dot.f k yc4 yc6).bind fun t354 => (if t348 = (IntKind.u64.wrap (t351 + t354)) then ((ring_Scale.f k 2 yc1).bind fun t355 => ((ring_Add.f k yc1 yc1).bind fun t358 => ((symbolonref01_Same.f k t355 t358).bind fun t361 => (if t361 = true then ((ring_Scale.f k 0 yc1).bind fun t362 => ((ring_Sub.f k yc2 yc2).bind fun t365 => ((symbolonref01_Same.f k t362 t365).bind fun t368 => (some t368)))) else (none))))) else (none)))) else (none))) else (none))) = some r := H
                  have A18 := Aside0.mk A180
                  clear A180
                  have c19b0 := eq_true (of_decide_eq_true (by first | (with_reducible assumption) | assumption) : 0 ≤ (ji15))
                  have c20b0 := eq_true (of_decide_eq_true (by first | (with_reducible assumption) | assumption) : (ji15) ≤ (yc1.length : Int))
                  replace H := Option.bind_eq_some_iff.mp H
                  obtain ⟨t347, A210, H⟩ := H
                  replace H : (if t343 = (IntKind.u64.wrap (t345 + t347)) then ((ring_Dot.f k yc1 yc2).bind fun t348 => (if (ji15) ≤ (yc2.length : Int) then ((ring_Dot.f k yc3 yc5).bind fun t351 => ((ring_Dot.f k yc4 yc6).bind fun t354 => (if t348 = (IntKind.u64.wrap (t351 + t354)) then ((ring_Scale.f k 2 yc1).bind fun t355 => ((ring_Add.f k yc1 yc1).bind fun t358 => ((symbolonref01_Same.f k t355 t358).bind fun t361 => (if t361 = true then ((ring_Scale.f k 0 yc1).bind fun t362 => ((ring_Sub.f k yc2 yc2).bind fun t365 => ((symbolonref01_Same.f k t362 t365).bind fun t368 => (some t368)))) else (none))))) else (none)))) else (none))) else (none)) = some r := H
                  have A21 := Aside0.mk A210
                  clear A210
                  by_cases c22 : t343 = (IntKind.u64.wrap (t345 + t347))
                  · rw [if_pos c22] at H
                    have c22b0 : (t343 == (IntKind.u64.wrap (t345 + t347))) = true := beq_iff_eq.mpr c22
                    have c22b1 : (t343 != (IntKind.u64.wrap (t345 + t347))) = false := bne_eq_false_iff_eq.mpr c22
                    clear c22
                    replace H := Option.bind_eq_some_iff.mp H
                    obtain ⟨t348, A230, H⟩ := H
                    replace H : (if (ji15) ≤ (yc2.length : Int) then ((ring_Dot.f k yc3 yc5).bind fun t351 => ((ring_Dot.f k yc4 yc6).bind fun t354 => (if t348 = (IntKind.u64.wrap (t351 + t354)) then ((ring_Scale.f k 2 yc1).bind fun t355 => ((ring_Add.f k yc1 yc1).bind fun t358 => ((symbolonref01_Same.f k t355 t358).bind fun t361 => (if t361 = true then ((ring_Scale.f k 0 yc1).bind fun t362 => ((ring_Sub.f k yc2 yc2).bind fun t365 => ((symbolonref01_Same.f k t362 t365).bind fun t368 => (some t368)))) else (none))))) else (none)))) else (none)) = some r := H
                    have A23 := Aside0.mk A230
                    clear A230
                    have c24b0 := eq_true (of_decide_eq_true (by first | (with_reducible assumption) | assumption) : 0 ≤ (ji15))
                    have c25b0 := eq_true (of_decide_eq_true (by first | (with_reducible assumption) | assumption) : (ji15) ≤ (yc1.length : Int))
                    have c26b0 := eq_true (of_decide_eq_true (by first | (with_reducible assumption) | assumption) : 0 ≤ (ji15))
                    by_cases c27 : (ji15) ≤ (yc2.length : Int)
                    · rw [if_pos c27] at H
                      have c27b0 := eq_true c27
                      have c27b1 : decide ((ji15) ≤ (yc2.length : Int)) = true := decide_eq_true c27
                      clear c27
                      replace H := Option.bind_eq_some_iff.mp H
                      obtain ⟨t351, A280, H⟩ := H
                      replace H : ((ring_Dot.f k yc4 yc6).bind fun t354 => (if t348 = (IntKind.u64.wrap (t351 + t354)) then ((ring_Scale.f k 2 yc1).bind fun t355 => ((ring_Add.f k yc1 yc1).bind fun t358 => ((symbolonref01_Same.f k t355 t358).bind fun t361 => (if t361 = true then ((ring_Scale.f k 0 yc1).bind fun t362 => ((ring_Sub.f k yc2 yc2).bind fun t365 => ((symbolonref01_Same.f k t362 t365).bind fun t368 => (some t368)))) else (none))))) else (none))) = some r := H
                      have A28 := Aside0.mk A280
                      clear A280
                      have c29b0 := eq_true (of_decide_eq_true (by first | (with_reducible assumption) | assumption) : 0 ≤ (ji15))
                      have c30b0 := eq_true (of_decide_eq_true (by first | (with_reducible assumption) | assumption) : (ji15) ≤ (yc1.length : Int))
                      have c31b0 := eq_true (of_decide_eq_true (by first | (with_reducible assumption) | assumption) : 0 ≤ (ji15))
                      have c32b0 := eq_true (of_decide_eq_true (by first | (with_reducible assumption) | assumption) : (ji15) ≤ (yc2.length : Int))
                      replace H := Option.bind_eq_some_iff.mp H
                      obtain ⟨t354, A330, H⟩ := H
                      replace H : (if t348 = (IntKind.u64.wrap (t351 + t354)) then ((ring_Scale.f k 2 yc1).bind fun t355 => ((ring_Add.f k yc1 yc1).bind fun t358 => ((symbolonref01_Same.f k t355 t358).bind fun t361 => (if t361 = true then ((ring_Scale.f k 0 yc1).bind fun t362 => ((ring_Sub.f k yc2 yc2).bind fun t365 => ((symbolonref01_Same.f k t362 t365).bind fun t368 => (some t368)))) else (none))))) else (none)) = some r := H
                      have A33 := Aside0.mk A330
                      clear A330
                      by_cases c34 : t348 = (IntKind.u64.wrap (t351 + t354))
                      · rw [if_pos c34] at H
                        have c34b0 : (t348 == (IntKind.u64.wrap (t351 + t354))) = true := beq_iff_eq.mpr c34
                        have c34b1 : (t348 != (IntKind.u64.wrap (t351 + t354))) = false := bne_eq_false_iff_eq.mpr c34
                        clear c34
                        replace H := Option.bind_eq_some_iff.mp H
                        obtain ⟨t355, A350, H⟩ := H
                        replace H : ((ring_Add.f k yc1 yc1).bind fun t358 => ((symbolonref01_Same.f k t355 t358).bind fun t361 => (if t361 = true then ((ring_Scale.f k 0 yc1).bind fun t362 => ((ring_Sub.f k yc2 yc2).bind fun t365 => ((symbolonref01_Same.f k t362 t365).bind fun t368 => (some t368)))) else (none)))) = some r := H
                        have A35 := Aside0.mk A350
                        clear A350
                        replace H := Option.bind_eq_some_iff.mp H
                        obtain ⟨t358, A360, H⟩ := H
                        replace H : ((symbolonref01_Same.f k t355 t358).bind fun t361 => (if t361 = true then ((ring_Scale.f k 0 yc1).bind fun t362 => ((ring_Sub.f k yc2 yc2).bind fun t365 => ((symbolonref01_Same.f k t362 t365).bind fun t368 => (some t368)))) else (none))) = some r := H
                        have A36 := Aside0.mk A360
                        clear A360
                        replace H := Option.bind_eq_some_iff.mp H
                        obtain ⟨t361, A370, H⟩ := H
                        replace H : (if t361 = true then ((ring_Scale.f k 0 yc1).bind fun t362 => ((ring_Sub.f k yc2 yc2).bind fun t365 => ((symbolonref01_Same.f k t362 t365).bind fun t368 => (some t368)))) else (none)) = some r := H
                        have A37 := Aside0.mk A370
                        clear A370
                        by_cases c38 : t361 = true
                        · subst c38
                          have H1 : ((ring_Scale.f k 0 yc1).bind fun t362 => ((ring_Sub.f k yc2 yc2).bind fun t365 => ((symbolonref01_Same.f k t362 t365).bind fun t368 => (some t368)))) = some r := by rw [if_pos rfl] at H; exact H
                          clear H
                          have H := H1
                          clear H1
                          replace H := Option.bind_eq_some_iff.mp H
                          obtain ⟨t362, A390, H⟩ := H
                          replace H : ((ring_Sub.f k yc2 yc2).bind fun t365 => ((symbolonref01_Same.f k t362 t365).bind fun t368 => (some t368))) = some r := H
                          have A39 := Aside0.mk A390
                          clear A390
                          replace H := Option.bind_eq_some_iff.mp H
                          obtain ⟨t365, A400, H⟩ := H
                          replace H : ((symbolonref01_Same.f k t362 t365).bind fun t368 => (some t368)) = some r := H
                          have A40 := Aside0.mk A400
                          clear A400
                          replace H := Option.bind_eq_some_iff.mp H
                          obtain ⟨t368, A410, H⟩ := H
                          replace H : (some t368) = some r := H
                          have A41 := Aside0.mk A410
                          clear A410
                          obtain rfl := Option.some.inj H
                          go_enter Try.func7, Try.ntmps7
                          try go_wp2_with (first | ((with_reducible refine gate_callee (f := 16) rfl ?_); refine goesL_ (some 10) rfl rfl Try.func16 (by kernel_rfl) rfl #[] rfl (by (try simp only [List.map_toArray, List.map_cons, List.map_nil]); first | done | rfl | (simp only [List.length_drop, List.length_take]; rfl)) ?_; (with_reducible refine (symbolonlaw01_head.calls k  true _ A4.out).mono ?_); rintro e w42 ⟨rfl, hb⟩; refine ⟨_, rfl, ?_⟩; have n0_ := Aside0.mk (below_step (by repeat (first | (with_reducible first | exact HB.out | apply below_alloc | apply pw_below_drewN | apply below_drew1) | exact HB.out)) hb); clear HB; have HB := n0_; clear n0_; (try clear hb); (try clear hb2); (try clear hk); (try clear hi); obtain ⟨i043, hi043, _, hsz43, _⟩ := info_parts info23; obtain ⟨hcut43, hA43, hC43⟩ := print_take_of (P := Try.prog) (Value.int .u64) 0 22 23 .i64 Try.underlying22 hi043 hsz43 A0 c0 l0 (ji5) (of_decide_eq_true (by first | (with_reducible assumption) | assumption)) (of_decide_eq_true (by first | (with_reducible assumption) | assumption)) HC0.out; (try rw [← Nyc1.out] at hcut43); (try rw [← Nyc1.out] at hA43); (try rw [← Nyc1.out] at hC43); (try rw [← Nyc2.out] at hcut43); (try rw [← Nyc2.out] at hA43); (try rw [← Nyc2.out] at hC43); (try rw [← Nyc3.out] at hcut43); (try rw [← Nyc3.out] at hA43); (try rw [← Nyc3.out] at hC43); (try rw [← Nyc4.out] at hcut43); (try rw [← Nyc4.out] at hA43); (try rw [← Nyc4.out] at hC43); (try rw [← Nyc5.out] at hcut43); (try rw [← Nyc5.out] at hA43); (try rw [← Nyc5.out] at hC43); (try rw [← Nyc6.out] at hcut43); (try rw [← Nyc6.out] at hA43); (try rw [← Nyc6.out] at hC43); have HR341 := Aside0.mk (Kd.C_of_reads (h1 := fun _ => rfl) (hA43 _ (Kd.reads_of_C HR0.out))); have HC341 := Aside0.mk hC43; clear hA43 hC43 hi043 hsz43; obtain ⟨i044, hi044, _, hsz44, _⟩ := info_parts info23; obtain ⟨hcut44, hA44, hC44⟩ := print_take_of (P := Try.prog) (Value.int .u64) 0 22 23 .i64 Try.underlying22 hi044 hsz44 A1 c1 l1 (ji5) (of_decide_eq_true (by first | (with_reducible assumption) | assumption)) (of_decide_eq_true (by first | (with_reducible assumption) | assumption)) HC1.out; (try rw [← Nyc1.out] at hcut44); (try rw [← Nyc1.out] at hA44); (try rw [← Nyc1.out] at hC44); (try rw [← Nyc2.out] at hcut44); (try rw [← Nyc2.out] at hA44); (try rw [← Nyc2.out] at hC44); (try rw [← Nyc3.out] at hcut44); (try rw [← Nyc3.out] at hA44); (try rw [← Nyc3.out] at hC44); (try rw [← Nyc4.out] at hcut44); (try rw [← Nyc4.out] at hA44); (try rw [← Nyc4.out] at hC44); (try rw [← Nyc5.out] at hcut44); (try rw [← Nyc5.out] at hA44); (try rw [← Nyc5.out] at hC44); (try rw [← Nyc6.out] at hcut44); (try rw [← Nyc6.out] at hA44); (try rw [← Nyc6.out] at hC44); have HR342 := Aside0.mk (Kd.C_of_reads (h1 := fun _ => rfl) (hA44 _ (Kd.reads_of_C HR1.out))); have HC342 := Aside0.mk hC44; clear hA44 hC44 hi044 hsz44))
                          have n0_ := Aside0.mk (below_drew1 HB.out)
                          clear HB
                          have HB := n0_
                          clear n0_
                          obtain ⟨i046, hi046, _, hsz46, _⟩ := info_parts info23
                          obtain ⟨hcut46, hA46, hC46⟩ := print_take_of (P := Try.prog) (Value.int .u64) 0 22 23 .i64 Try.underlying22 hi046 hsz46 A0 c0 yc1 (ji15) (of_decide_eq_true (by first | (with_reducible assumption) | assumption)) (of_decide_eq_true (by first | (with_reducible assumption) | assumption)) HC341.out
                          (try rw [← Nyc1.out] at hcut46)
                          (try rw [← Nyc1.out] at hA46)
                          (try rw [← Nyc1.out] at hC46)
                          (try rw [← Nyc2.out] at hcut46)
                          (try rw [← Nyc2.out] at hA46)
                          (try rw [← Nyc2.out] at hC46)
                          (try rw [← Nyc3.out] at hcut46)
                          (try rw [← Nyc3.out] at hA46)
                          (try rw [← Nyc3.out] at hC46)
                          (try rw [← Nyc4.out] at hcut46)
                          (try rw [← Nyc4.out] at hA46)
                          (try rw [← Nyc4.out] at hC46)
                          (try rw [← Nyc5.out] at hcut46)
                          (try rw [← Nyc5.out] at hA46)
                          (try rw [← Nyc5.out] at hC46)
                          (try rw [← Nyc6.out] at hcut46)
                          (try rw [← Nyc6.out] at hA46)
                          (try rw [← Nyc6.out] at hC46)
                          have HR344 := Aside0.mk (Kd.C_of_reads (h1 := fun _ => rfl) (hA46 _ (Kd.reads_of_C HR341.out)))
                          have HC344 := Aside0.mk hC46
                          clear hA46 hC46 hi046 hsz46
                          obtain ⟨i047, hi047, _, hsz47, _⟩ := info_parts info23
                          obtain ⟨A47, hcut47, hA47, hC47⟩ := print_drop_of (P := Try.prog) (Value.int .u64) 0 22 23 .i64 Try.underlying22 hi047 hsz47 A0 c0 yc1 (ji15) (of_decide_eq_true (by first | (with_reducible assumption) | assumption)) (of_decide_eq_true (by first | (with_reducible assumption) | assumption)) HC341.out
                          (try rw [← Nyc1.out] at hcut47)
                          (try rw [← Nyc1.out] at hA47)
                          (try rw [← Nyc1.out] at hC47)
                          (try rw [← Nyc2.out] at hcut47)
                          (try rw [← Nyc2.out] at hA47)
                          (try rw [← Nyc2.out] at hC47)
                          (try rw [← Nyc3.out] at hcut47)
                          (try rw [← Nyc3.out] at hA47)
                          (try rw [← Nyc3.out] at hC47)
                          (try rw [← Nyc4.out] at hcut47)
                          (try rw [← Nyc4.out] at hA47)
                          (try rw [← Nyc4.out] at hC47)
                          (try rw [← Nyc5.out] at hcut47)
                          (try rw [← Nyc5.out] at hA47)
                          (try rw [← Nyc5.out] at hC47)
                          (try rw [← Nyc6.out] at hcut47)
                          (try rw [← Nyc6.out] at hA47)
                          (try rw [← Nyc6.out] at hC47)
                          have HR346 := Aside0.mk (Kd.C_of_reads (h1 := fun _ => rfl) (hA47 _ (Kd.reads_of_C HR341.out)))
                          have HC346 := Aside0.mk hC47
                          clear hA47 hC47 hi047 hsz47
                          obtain ⟨i050, hi050, _, hsz50, _⟩ := info_parts info23
                          obtain ⟨hcut50, hA50, hC50⟩ := print_take_of (P := Try.prog) (Value.int .u64) 0 22 23 .i64 Try.underlying22 hi050 hsz50 A1 c1 yc2 (ji15) (of_decide_eq_true (by first | (with_reducible assumption) | assumption)) (of_decide_eq_true (by first | (with_reducible assumption) | assumption)) HC342.out
                          (try rw [← Nyc1.out] at hcut50)
                          (try rw [← Nyc1.out] at hA50)
                          (try rw [← Nyc1.out] at hC50)
                          (try rw [← Nyc2.out] at hcut50)
                          (try rw [← Nyc2.out] at hA50)
                          (try rw [← Nyc2.out] at hC50)
                          (try rw [← Nyc3.out] at hcut50)
                          (try rw [← Nyc3.out] at hA50)
                          (try rw [← Nyc3.out] at hC50)
                          (try rw [← Nyc4.out] at hcut50)
                          (try rw [← Nyc4.out] at hA50)
                          (try rw [← Nyc4.out] at hC50)
                          (try rw [← Nyc5.out] at hcut50)
                          (try rw [← Nyc5.out] at hA50)
                          (try rw [← Nyc5.out] at hC50)
                          (try rw [← Nyc6.out] at hcut50)
                          (try rw [← Nyc6.out] at hA50)
                          (try rw [← Nyc6.out] at hC50)
                          have HR350 := Aside0.mk (Kd.C_of_reads (h1 := fun _ => rfl) (hA50 _ (Kd.reads_of_C HR342.out)))
                          have HC350 := Aside0.mk hC50
                          clear hA50 hC50 hi050 hsz50
                          obtain ⟨i053, hi053, _, hsz53, _⟩ := info_parts info23
                          obtain ⟨A53, hcut53, hA53, hC53⟩ := print_drop_of (P := Try.prog) (Value.int .u64) 0 22 23 .i64 Try.underlying22 hi053 hsz53 A1 c1 yc2 (ji15) (of_decide_eq_true (by first | (with_reducible assumption) | assumption)) (of_decide_eq_true (by first | (with_reducible assumption) | assumption)) HC342.out
                          (try rw [← Nyc1.out] at hcut53)
                          (try rw [← Nyc1.out] at hA53)
                          (try rw [← Nyc1.out] at hC53)
                          (try rw [← Nyc2.out] at hcut53)
                          (try rw [← Nyc2.out] at hA53)
                          (try rw [← Nyc2.out] at hC53)
                          (try rw [← Nyc3.out] at hcut53)
                          (try rw [← Nyc3.out] at hA53)
                          (try rw [← Nyc3.out] at hC53)
                          (try rw [← Nyc4.out] at hcut53)
                          (try rw [← Nyc4.out] at hA53)
                          (try rw [← Nyc4.out] at hC53)
                          (try rw [← Nyc5.out] at hcut53)
                          (try rw [← Nyc5.out] at hA53)
                          (try rw [← Nyc5.out] at hC53)
                          (try rw [← Nyc6.out] at hcut53)
                          (try rw [← Nyc6.out] at hA53)
                          (try rw [← Nyc6.out] at hC53)
                          have HR353 := Aside0.mk (Kd.C_of_reads (h1 := fun _ => rfl) (hA53 _ (Kd.reads_of_C HR342.out)))
                          have HC353 := Aside0.mk hC53
                          clear hA53 hC53 hi053 hsz53
                          refine start_ (n := 53) (S := fun w' => True) (ds := []) #[false, false, false, false, false, false, false, false, false, false, false, false, false, false, false, false, false, false, false, false, false, false, false, false, false, false, false, false, false, false, false, false, false, false, false, false, false, false, false, false, false, false, false, false, false, false, false, false, false, false, false, false, false] (by kernel_rfl) rfl rfl trivial (fun hHeld => ?_); refine with_tabW symbolonlaw01_RingParts.tab8 symbolonlaw01_RingParts.bits8 (fun HT_ HW_ => ?_)
                          generalize w42.drew = w45 at HB HR344 HR346 hHeld ⊢
                          refine pure_ (i := 0) (N := some 30) (v := ?_) (a' := ?_) #[true, false, false, false, false, false, false, false, false, false, false, false, false, false, false, false, false, false, false, false, false, false, false, false, false, false, false, false, false, false, false, false, false, false, false, false, false, false, false, false, false, false, false, false, false, false, false, false, false, false, false, false, false] rfl rfl (any_of HT_.out (by kernel_rfl)) (fun _ _ _ h => h) (Or.inl ⟨by rfl, ?_⟩) ?_ ?_
                          rotate_left
                          · intro w'
                            go_simp
                            with_reducible rfl
                          rotate_left
                          · simp only [Act.put, List.setIfInBounds_toArray, List.set_cons_zero, List.set_cons_succ, i64_w, i32_w]
                            rfl
                          refine pure_ (i := 1) (N := some 31) (v := ?_) (a' := ?_) #[true, true, false, false, false, false, false, false, false, false, false, false, false, false, false, false, false, false, false, false, false, false, false, false, false, false, false, false, false, false, false, false, false, false, false, false, false, false, false, false, false, false, false, false, false, false, false, false, false, false, false, false, false] rfl rfl (any_of HT_.out (by kernel_rfl)) (fun _ _ _ h => h) (Or.inl ⟨by rfl, ?_⟩) ?_ ?_
                          rotate_left
                          · intro w'
                            go_simp
                            with_reducible rfl
                          rotate_left
                          · simp only [Act.put, List.setIfInBounds_toArray, List.set_cons_zero, List.set_cons_succ, i64_w, i32_w]
                            rfl
                          refine pure_ (i := 2) (N := some 32) (v := ?_) (a' := ?_) #[true, true, true, false, false, false, false, false, false, false, false, false, false, false, false, false, false, false, false, false, false, false, false, false, false, false, false, false, false, false, false, false, false, false, false, false, false, false, false, false, false, false, false, false, false, false, false, false, false, false, false, false, false] rfl rfl (any_of HT_.out (by kernel_rfl)) (fun _ _ _ h => h) (Or.inl ⟨by rfl, ?_⟩) ?_ ?_
                          rotate_left
                          · intro w'
                            go_simp
                            with_reducible rfl
                          rotate_left
                          · simp only [Act.put, List.setIfInBounds_toArray, List.set_cons_zero, List.set_cons_succ, i64_w, i32_w]
                            rfl
                          refine pure_ (i := 4) (N := some 34) (v := ?_) (a' := ?_) #[true, true, true, false, true, false, false, false, false, false, false, false, false, false, false, false, false, false, false, false, false, false, false, false, false, false, false, false, false, false, false, false, false, false, false, false, false, false, false, false, false, false, false, false, false, false, false, false, false, false, false, false, false] rfl rfl (any_of HT_.out (by kernel_rfl)) (fun _ _ _ h => h) (Or.inl ⟨by rfl, ?_⟩) ?_ ?_
                          rotate_left
                          · intro w'
                            go_simp
                            with_reducible rfl
                          rotate_left
                          · simp only [Act.put, List.setIfInBounds_toArray, List.set_cons_zero, List.set_cons_succ, i64_w, i32_w]
                            rfl
                          refine pure_ (i := 5) (N := some 35) (v := ?_) (a' := ?_) #[true, true, true, false, true, true, false, false, false, false, false, false, false, false, false, false, false, false, false, false, false, false, false, false, false, false, false, false, false, false, false, false, false, false, false, false, false, false, false, false, false, false, false, false, false, false, false, false, false, false, false, false, false] rfl rfl (any_of HT_.out (by kernel_rfl)) (fun _ _ _ h => h) (Or.inl ⟨by rfl, ?_⟩) ?_ ?_
                          rotate_left
                          · intro w'
                            go_simp
                            with_reducible rfl
                          rotate_left
                          · simp only [Act.put, List.setIfInBounds_toArray, List.set_cons_zero, List.set_cons_succ, i64_w, i32_w]
                            rfl
                          refine pure_ (i := 6) (N := some 36) (v := ?_) (a' := ?_) #[true, true, true, false, true, true, true, false, false, false, false, false, false, false, false, false, false, false, false, false, false, false, false, false, false, false, false, false, false, false, false, false, false, false, false, false, false, false, false, false, false, false, false, false, false, false, false, false, false, false, false, false, false] rfl rfl (any_of HT_.out (by kernel_rfl)) (fun _ _ _ h => h) (Or.inl ⟨by rfl, ?_⟩) ?_ ?_
                          rotate_left
                          · intro w'
                            go_simp
                            with_reducible rfl
                          rotate_left
                          · simp only [Act.put, List.setIfInBounds_toArray, List.set_cons_zero, List.set_cons_succ, i64_w, i32_w]
                            rfl
                          refine pure_ (i := 8) (N := some 38) (v := ?_) (a' := ?_) #[true, true, true, false, true, true, true, false, true, false, false, false, false, false, false, false, false, false, false, false, false, false, false, false, false, false, false, false, false, false, false, false, false, false, false, false, false, false, false, false, false, false, false, false, false, false, false, false, false, false, false, false, false] rfl rfl (any_of HT_.out (by kernel_rfl)) (fun _ _ _ h => h) (Or.inl ⟨by rfl, ?_⟩) ?_ ?_
                          rotate_left
                          · intro w'
                            go_simp
                            with_reducible rfl
                          rotate_left
                          · simp only [Act.put, List.setIfInBounds_toArray, List.set_cons_zero, List.set_cons_succ, i64_w, i32_w]
                            rfl
                          refine pure_ (i := 9) (N := some 39) (v := ?_) (a' := ?_) #[true, true, true, false, true, true, true, false, true, true, false, false, false, false, false, false, false, false, false, false, false, false, false, false, false, false, false, false, false, false, false, false, false, false, false, false, false, false, false, false, false, false, false, false, false, false, false, false, false, false, false, false, false] rfl rfl (any_of HT_.out (by kernel_rfl)) (fun _ _ _ h => h) (Or.inl ⟨by rfl, ?_⟩) ?_ ?_
                          rotate_left
                          · intro w'
                            go_simp
                            with_reducible rfl
                          rotate_left
                          · simp only [Act.put, List.setIfInBounds_toArray, List.set_cons_zero, List.set_cons_succ, i64_w, i32_w]
                            rfl
                          refine pure_ (i := 10) (N := some 40) (v := ?_) (a' := ?_) #[true, true, true, false, true, true, true, false, true, true, true, false, false, false, false, false, false, false, false, false, false, false, false, false, false, false, false, false, false, false, false, false, false, false, false, false, false, false, false, false, false, false, false, false, false, false, false, false, false, false, false, false, false] rfl rfl (any_of HT_.out (by kernel_rfl)) (fun _ _ _ h => h) (Or.inl ⟨by rfl, ?_⟩) ?_ ?_
                          rotate_left
                          · intro w'
                            go_simp
                            with_reducible rfl
                          rotate_left
                          · simp only [Act.put, List.setIfInBounds_toArray, List.set_cons_zero, List.set_cons_succ, i64_w, i32_w]
                            rfl
                          refine one_ (i := 3) (N := some 33) #[true, true, true, true, true, true, true, false, true, true, true, false, false, false, false, false, false, false, false, false, false, false, false, false, false, false, false, false, false, false, false, false, false, false, false, false, false, false, false, false, false, false, false, false, false, false, false, false, false, false, false, false, false] rfl rfl (one_of HT_.out (by kernel_rfl)) (by decide) (fun K hK => ?_)
                          refine goes_ Try.func29 (by kernel_rfl) rfl #[.slice A0 yc1.length c0] (by rfl) rfl rfl (by (try simp only [List.map_toArray, List.map_cons, List.map_nil]); first | done | (simp only [hji5]; rfl) | rfl | (simp only [List.length_drop, List.length_take]; rfl)) ?_
                          with_reducible refine (ring_Sum.calls k _ _ yc1 t343 _ ?side1 ?side2 A14.out).mono ?_
                          (case side1 => repeat (first | exact (Kd.C_below HR341.out HB.out) | (with_reducible refine Kd.C_alloc ?_ _) | (with_reducible refine Kd.C_drewN ?_ _) | (with_reducible refine Kd.C_drew ?_)))
                          (case side2 => exact HC341.out)
                          rintro e w' ⟨rfl, ⟨nd, rfl⟩⟩
                          refine ⟨_, rfl, ?_⟩
                          refine hK.out _ _ trivial (fun hHeld => ?_)
                          clear hK K
                          refine norm_ (a' := ?_) ?_ ?_
                          rotate_left
                          · show Act.put _ (some 33) _ = _
                            simp only [Act.put, List.setIfInBounds_toArray, List.set_cons_zero, List.set_cons_succ, i64_w, i32_w]
                            rfl
                          refine one_ (i := 7) (N := some 37) #[true, true, true, true, true, true, true, true, true, true, true, false, false, false, false, false, false, false, false, false, false, false, false, false, false, false, false, false, false, false, false, false, false, false, false, false, false, false, false, false, false, false, false, false, false, false, false, false, false, false, false, false, false] rfl rfl (one_of HT_.out (by kernel_rfl)) (by decide) (fun K hK => ?_)
                          refine goes_ Try.func29 (by kernel_rfl) rfl #[.slice A0 yc3.length c0] (by rfl) rfl rfl (by (try simp only [List.map_toArray, List.map_cons, List.map_nil]); first | done | (simp only [hji15, hji5]; rfl) | rfl | (simp only [List.length_drop, List.length_take]; rfl)) ?_
                          with_reducible refine (ring_Sum.calls k _ _ yc3 t345 _ ?side1 ?side2 A18.out).mono ?_
                          (case side1 => repeat (first | exact (Kd.C_below HR344.out (by repeat (first | (with_reducible first | exact HB.out | apply below_alloc | apply pw_below_drewN | apply below_drew1) | exact HB.out))) | (with_reducible refine Kd.C_alloc ?_ _) | (with_reducible refine Kd.C_drewN ?_ _) | (with_reducible refine Kd.C_drew ?_)))
                          (case side2 => exact HC344.out)
                          rintro e w' ⟨rfl, ⟨nd, rfl⟩⟩
                          refine ⟨_, rfl, ?_⟩
                          refine hK.out _ _ trivial (fun hHeld => ?_)
                          clear hK K
                          refine norm_ (a' := ?_) ?_ ?_
                          rotate_left
                          · show Act.put _ (some 37) _ = _
                            simp only [Act.put, List.setIfInBounds_toArray, List.set_cons_zero, List.set_cons_succ, i64_w, i32_w]
                            rfl
                          refine one_ (i := 11) (N := some 41) #[true, true, true, true, true, true, true, true, true, true, true, true, false, false, false, false, false, false, false, false, false, false, false, false, false, false, false, false, false, false, false, false, false, false, false, false, false, false, false, false, false, false, false, false, false, false, false, false, false, false, false, false, false] rfl rfl (one_of HT_.out (by kernel_rfl)) (by decide) (fun K hK => ?_)
                          refine goes_ Try.func29 (by kernel_rfl) rfl #[.slice A47 yc4.length (c0 - (ji15).toNat)] (by rfl) rfl rfl (by (try simp only [List.map_toArray, List.map_cons, List.map_nil]); first | done | (simp only [hji15, hji5]; rfl) | rfl | (simp only [List.length_drop, List.length_take]; rfl)) ?_
                          with_reducible refine (ring_Sum.calls k _ _ yc4 t347 _ ?side1 ?side2 A21.out).mono ?_
                          (case side1 => repeat (first | exact (Kd.C_below HR346.out (by repeat (first | (with_reducible first | exact HB.out | apply below_alloc | apply pw_below_drewN | apply below_drew1) | exact HB.out))) | (with_reducible refine Kd.C_alloc ?_ _) | (with_reducible refine Kd.C_drewN ?_ _) | (with_reducible refine Kd.C_drew ?_)))
                          (case side2 => exact HC346.out)
                          rintro e w' ⟨rfl, ⟨nd, rfl⟩⟩
                          refine ⟨_, rfl, ?_⟩
                          refine hK.out _ _ trivial (fun hHeld => ?_)
                          clear hK K
                          refine norm_ (a' := ?_) ?_ ?_
                          rotate_left
                          · show Act.put _ (some 41) _ = _
                            simp only [Act.put, List.setIfInBounds_toArray, List.set_cons_zero, List.set_cons_succ, i64_w, i32_w]
                            rfl
                          refine pure_ (i := 12) (N := some 42) (v := ?_) (a' := ?_) #[true, true, true, true, true, true, true, true, true, true, true, true, true, false, false, false, false, false, false, false, false, false, false, false, false, false, false, false, false, false, false, false, false, false, false, false, false, false, false, false, false, false, false, false, false, false, false, false, false, false, false, false, false] rfl rfl (any_of HT_.out (by kernel_rfl)) (fun _ _ _ h => h) (Or.inl ⟨by rfl, ?_⟩) ?_ ?_
                          rotate_left
                          · intro w'
                            go_simp
                            with_reducible rfl
                          rotate_left
                          · simp only [Act.put, List.setIfInBounds_toArray, List.set_cons_zero, List.set_cons_succ, i64_w, i32_w]
                            rfl
                          refine pure_ (i := 13) (N := some 43) (v := ?_) (a' := ?_) #[true, true, true, true, true, true, true, true, true, true, true, true, true, true, false, false, false, false, false, false, false, false, false, false, false, false, false, false, false, false, false, false, false, false, false, false, false, false, false, false, false, false, false, false, false, false, false, false, false, false, false, false, false] rfl rfl (any_of HT_.out (by kernel_rfl)) (fun _ _ _ h => h) (Or.inl ⟨by rfl, ?_⟩) ?_ ?_
                          rotate_left
                          · intro w'
                            go_simp
                            with_reducible rfl
                          rotate_left
                          · simp only [Act.put, List.setIfInBounds_toArray, List.set_cons_zero, List.set_cons_succ, i64_w, i32_w]
                            rfl
                          refine pure_ (i := 14) (N := some 44) (v := ?_) (a' := ?_) #[true, true, true, true, true, true, true, true, true, true, true, true, true, true, true, false, false, false, false, false, false, false, false, false, false, false, false, false, false, false, false, false, false, false, false, false, false, false, false, false, false, false, false, false, false, false, false, false, false, false, false, false, false] rfl rfl (any_of HT_.out (by kernel_rfl)) (fun _ _ _ h => h) (Or.inl ⟨by rfl, ?_⟩) ?_ ?_
                          rotate_left
                          · intro w'
                            go_simp
                            with_reducible rfl
                          rotate_left
                          · simp only [Act.put, List.setIfInBounds_toArray, List.set_cons_zero, List.set_cons_succ, i64_w, i32_w]
                            rfl
                          refine pure_ (i := 15) (N := some 45) (v := ?_) (a' := ?_) #[true, true, true, true, true, true, true, true, true, true, true, true, true, true, true, true, false, false, false, false, false, false, false, false, false, false, false, false, false, false, false, false, false, false, false, false, false, false, false, false, false, false, false, false, false, false, false, false, false, false, false, false, false] rfl rfl (any_of HT_.out (by kernel_rfl)) (fun _ _ _ h => h) (Or.inl ⟨by rfl, ?_⟩) ?_ ?_
                          rotate_left
                          · intro w'
                            go_simp
                            with_reducible rfl
                          rotate_left
                          · simp only [Act.put, List.setIfInBounds_toArray, List.set_cons_zero, List.set_cons_succ, i64_w, i32_w]
                            rfl
                          refine pure_ (i := 16) (N := some 46) (v := ?_) (a' := ?_) #[true, true, true, true, true, true, true, true, true, true, true, true, true, true, true, true, true, false, false, false, false, false, false, false, false, false, false, false, false, false, false, false, false, false, false, false, false, false, false, false, false, false, false, false, false, false, false, false, false, false, false, false, false] rfl rfl (any_of HT_.out (by kernel_rfl)) (fun _ _ _ h => h) (Or.inl ⟨by rfl, ?_⟩) ?_ ?_
                          rotate_left
                          · intro w'
                            go_simp
                            with_reducible rfl
                          rotate_left
                          · simp only [Act.put, List.setIfInBounds_toArray, List.set_cons_zero, List.set_cons_succ, i64_w, i32_w]
                            rfl
                          refine pure_ (i := 17) (N := some 47) (v := ?_) (a' := ?_) #[true, true, true, true, true, true, true, true, true, true, true, true, true, true, true, true, true, true, false, false, false, false, false, false, false, false, false, false, false, false, false, false, false, false, false, false, false, false, false, false, false, false, false, false, false, false, false, false, false, false, false, false, false] rfl rfl (any_of HT_.out (by kernel_rfl)) (fun _ _ _ h => h) (Or.inl ⟨by rfl, ?_⟩) ?_ ?_
                          rotate_left
                          · intro w'
                            go_simp
                            with_reducible rfl
                          rotate_left
                          · simp only [Act.put, List.setIfInBounds_toArray, List.set_cons_zero, List.set_cons_succ, i64_w, i32_w]
                            rfl
                          refine pure_ (i := 19) (N := some 49) (v := ?_) (a' := ?_) #[true, true, true, true, true, true, true, true, true, true, true, true, true, true, true, true, true, true, false, true, false, false, false, false, false, false, false, false, false, false, false, false, false, false, false, false, false, false, false, false, false, false, false, false, false, false, false, false, false, false, false, false, false] rfl rfl (any_of HT_.out (by kernel_rfl)) (fun _ _ _ h => h) (Or.inl ⟨by rfl, ?_⟩) ?_ ?_
                          rotate_left
                          · intro w'
                            go_simp
                            with_reducible rfl
                          rotate_left
                          · simp only [Act.put, List.setIfInBounds_toArray, List.set_cons_zero, List.set_cons_succ, i64_w, i32_w]
                            rfl
                          refine pure_ (i := 20) (N := some 50) (v := ?_) (a' := ?_) #[true, true, true, true, true, true, true, true, true, true, true, true, true, true, true, true, true, true, false, true, true, false, false, false, false, false, false, false, false, false, false, false, false, false, false, false, false, false, false, false, false, false, false, false, false, false, false, false, false, false, false, false, false] rfl rfl (any_of HT_.out (by kernel_rfl)) (fun _ _ _ h => h) (Or.inl ⟨by rfl, ?_⟩) ?_ ?_
                          rotate_left
                          · intro w'
                            go_simp
                            with_reducible rfl
                          rotate_left
                          · simp only [Act.put, List.setIfInBounds_toArray, List.set_cons_zero, List.set_cons_succ, i64_w, i32_w]
                            rfl
                          refine pure_ (i := 21) (N := some 51) (v := ?_) (a' := ?_) #[true, true, true, true, true, true, true, true, true, true, true, true, true, true, true, true, true, true, false, true, true, true, false, false, false, false, false, false, false, false, false, false, false, false, false, false, false, false, false, false, false, false, false, false, false, false, false, false, false, false, false, false, false] rfl rfl (any_of HT_.out (by kernel_rfl)) (fun _ _ _ h => h) (Or.inl ⟨by rfl, ?_⟩) ?_ ?_
                          rotate_left
                          · intro w'
                            go_simp
                            with_reducible rfl
                          rotate_left
                          · simp only [Act.put, List.setIfInBounds_toArray, List.set_cons_zero, List.set_cons_succ, i64_w, i32_w]
                            rfl
                          refine pure_ (i := 22) (N := some 52) (v := ?_) (a' := ?_) #[true, true, true, true, true, true, true, true, true, true, true, true, true, true, true, true, true, true, false, true, true, true, true, false, false, false, false, false, false, false, false, false, false, false, false, false, false, false, false, false, false, false, false, false, false, false, false, false, false, false, false, false, false] rfl rfl (any_of HT_.out (by kernel_rfl)) (fun _ _ _ h => h) (Or.inl ⟨by rfl, ?_⟩) ?_ ?_
                          rotate_left
                          · intro w'
                            go_simp
                            with_reducible rfl
                          rotate_left
                          · simp only [Act.put, List.setIfInBounds_toArray, List.set_cons_zero, List.set_cons_succ, i64_w, i32_w]
                            rfl
                          refine pure_ (i := 23) (N := some 53) (v := ?_) (a' := ?_) #[true, true, true, true, true, true, true, true, true, true, true, true, true, true, true, true, true, true, false, true, true, true, true, true, false, false, false, false, false, false, false, false, false, false, false, false, false, false, false, false, false, false, false, false, false, false, false, false, false, false, false, false, false] rfl rfl (any_of HT_.out (by kernel_rfl)) (fun _ _ _ h => h) (Or.inl ⟨by rfl, ?_⟩) ?_ ?_
                          rotate_left
                          · intro w'
                            go_simp
                            with_reducible rfl
                          rotate_left
                          · simp only [Act.put, List.setIfInBounds_toArray, List.set_cons_zero, List.set_cons_succ, i64_w, i32_w]
                            rfl
                          refine pure_ (i := 24) (N := some 54) (v := ?_) (a' := ?_) #[true, true, true, true, true, true, true, true, true, true, true, true, true, true, true, true, true, true, false, true, true, true, true, true, true, false, false, false, false, false, false, false, false, false, false, false, false, false, false, false, false, false, false, false, false, false, false, false, false, false, false, false, false] rfl rfl (any_of HT_.out (by kernel_rfl)) (fun _ _ _ h => h) (Or.inl ⟨by rfl, ?_⟩) ?_ ?_
                          rotate_left
                          · intro w'
                            go_simp
                            with_reducible rfl
                          rotate_left
                          · simp only [Act.put, List.setIfInBounds_toArray, List.set_cons_zero, List.set_cons_succ, i64_w, i32_w]
                            rfl
                          refine pure_ (i := 26) (N := some 56) (v := ?_) (a' := ?_) #[true, true, true, true, true, true, true, true, true, true, true, true, true, true, true, true, true, true, false, true, true, true, true, true, true, false, true, false, false, false, false, false, false, false, false, false, false, false, false, false, false, false, false, false, false, false, false, false, false, false, false, false, false] rfl rfl (any_of HT_.out (by kernel_rfl)) (fun _ _ _ h => h) (Or.inl ⟨by rfl, ?_⟩) ?_ ?_
                          rotate_left
                          · intro w'
                            go_simp
                            with_reducible rfl
                          rotate_left
                          · simp only [Act.put, List.setIfInBounds_toArray, List.set_cons_zero, List.set_cons_succ, i64_w, i32_w]
                            rfl
                          refine pure_ (i := 27) (N := some 57) (v := ?_) (a' := ?_) #[true, true, true, true, true, true, true, true, true, true, true, true, true, true, true, true, true, true, false, true, true, true, true, true, true, false, true, true, false, false, false, false, false, false, false, false, false, false, false, false, false, false, false, false, false, false, false, false, false, false, false, false, false] rfl rfl (any_of HT_.out (by kernel_rfl)) (fun _ _ _ h => h) (Or.inl ⟨by rfl, ?_⟩) ?_ ?_
                          rotate_left
                          · intro w'
                            go_simp
                            with_reducible rfl
                          rotate_left
                          · simp only [Act.put, List.setIfInBounds_toArray, List.set_cons_zero, List.set_cons_succ, i64_w, i32_w]
                            rfl
                          refine pure_ (i := 28) (N := some 58) (v := ?_) (a' := ?_) #[true, true, true, true, true, true, true, true, true, true, true, true, true, true, true, true, true, true, false, true, true, true, true, true, true, false, true, true, true, false, false, false, false, false, false, false, false, false, false, false, false, false, false, false, false, false, false, false, false, false, false, false, false] rfl rfl (any_of HT_.out (by kernel_rfl)) (fun _ _ _ h => h) (Or.inl ⟨by rfl, ?_⟩) ?_ ?_
                          rotate_left
                          · intro w'
                            go_simp
                            with_reducible rfl
                          rotate_left
                          · simp only [Act.put, List.setIfInBounds_toArray, List.set_cons_zero, List.set_cons_succ, i64_w, i32_w]
                            rfl
                          refine pure_ (i := 29) (N := some 59) (v := ?_) (a' := ?_) #[true, true, true, true, true, true, true, true, true, true, true, true, true, true, true, true, true, true, false, true, true, true, true, true, true, false, true, true, true, true, false, false, false, false, false, false, false, false, false, false, false, false, false, false, false, false, false, false, false, false, false, false, false] rfl rfl (any_of HT_.out (by kernel_rfl)) (fun _ _ _ h => h) (Or.inl ⟨by rfl, ?_⟩) ?_ ?_
                          rotate_left
                          · intro w'
                            go_simp
                            with_reducible rfl
                          rotate_left
                          · simp only [Act.put, List.setIfInBounds_toArray, List.set_cons_zero, List.set_cons_succ, i64_w, i32_w]
                            rfl
                          refine pure_ (i := 30) (N := some 60) (v := ?_) (a' := ?_) #[true, true, true, true, true, true, true, true, true, true, true, true, true, true, true, true, true, true, false, true, true, true, true, true, true, false, true, true, true, true, true, false, false, false, false, false, false, false, false, false, false, false, false, false, false, false, false, false, false, false, false, false, false] rfl rfl (any_of HT_.out (by kernel_rfl)) (fun _ _ _ h => h) (Or.inl ⟨by rfl, ?_⟩) ?_ ?_
                          rotate_left
                          · intro w'
                            go_simp
                            with_reducible rfl
                          rotate_left
                          · simp only [Act.put, List.setIfInBounds_toArray, List.set_cons_zero, List.set_cons_succ, i64_w, i32_w]
                            rfl
                          refine pure_ (i := 31) (N := some 61) (v := ?_) (a' := ?_) #[true, true, true, true, true, true, true, true, true, true, true, true, true, true, true, true, true, true, false, true, true, true, true, true, true, false, true, true, true, true, true, true, false, false, false, false, false, false, false, false, false, false, false, false, false, false, false, false, false, false, false, false, false] rfl rfl (any_of HT_.out (by kernel_rfl)) (fun _ _ _ h => h) (Or.inl ⟨by rfl, ?_⟩) ?_ ?_
                          rotate_left
                          · intro w'
                            go_simp
                            with_reducible rfl
                          rotate_left
                          · simp only [Act.put, List.setIfInBounds_toArray, List.set_cons_zero, List.set_cons_succ, i64_w, i32_w]
                            rfl
                          refine one_ (i := 18) (N := some 48) #[true, true, true, true, true, true, true, true, true, true, true, true, true, true, true, true, true, true, true, true, true, true, true, true, true, false, true, true, true, true, true, true, false, false, false, false, false, false, false, false, false, false, false, false, false, false, false, false, false, false, false, false, false] rfl rfl (one_of HT_.out (by kernel_rfl)) (by decide) (fun K hK => ?_)
                          refine goes_ Try.func31 (by kernel_rfl) rfl #[.slice A0 yc1.length c0, .slice A1 yc2.length c1] (by rfl) rfl rfl (by (try simp only [List.map_toArray, List.map_cons, List.map_nil]); first | done | (simp only [hji5]; rfl) | rfl | (simp only [List.length_drop, List.length_take]; rfl)) ?_
                          with_reducible refine (ring_Dot.calls k _ _ yc1 _ _ yc2 t348 _ ?side1 ?side2 ?side3 ?side4 A23.out).mono ?_
                          (case side1 => repeat (first | exact (Kd.C_below HR341.out (by repeat (first | (with_reducible first | exact HB.out | apply below_alloc | apply pw_below_drewN | apply below_drew1) | exact HB.out))) | (with_reducible refine Kd.C_alloc ?_ _) | (with_reducible refine Kd.C_drewN ?_ _) | (with_reducible refine Kd.C_drew ?_)))
                          (case side2 => exact HC341.out)
                          (case side3 => repeat (first | exact (Kd.C_below HR342.out (by repeat (first | (with_reducible first | exact HB.out | apply below_alloc | apply pw_below_drewN | apply below_drew1) | exact HB.out))) | (with_reducible refine Kd.C_alloc ?_ _) | (with_reducible refine Kd.C_drewN ?_ _) | (with_reducible refine Kd.C_drew ?_)))
                          (case side4 => exact HC342.out)
                          rintro e w48 ⟨rfl, hb⟩
                          refine ⟨_, rfl, ?_⟩
                          have n0_ := Aside0.mk (below_step (by repeat (first | (with_reducible first | exact HB.out | apply below_alloc | apply pw_below_drewN | apply below_drew1) | exact HB.out)) hb)
                          clear HB
                          have HB := n0_
                          clear n0_
                          (try clear hb)
                          (try clear hb2)
                          (try clear hk)
                          (try clear hi)
                          refine hK.out _ _ trivial (fun hHeld => ?_)
                          clear hK K
                          refine norm_ (a' := ?_) ?_ ?_
                          rotate_left
                          · show Act.put _ (some 48) _ = _
                            simp only [Act.put, List.setIfInBounds_toArray, List.set_cons_zero, List.set_cons_succ, i64_w, i32_w]
                            rfl
                          refine one_ (i := 25) (N := some 55) #[true, true, true, true, true, true, true, true, true, true, true, true, true, true, true, true, true, true, true, true, true, true, true, true, true, true, true, true, true, true, true, true, false, false, false, false, false, false, false, false, false, false, false, false, false, false, false, false, false, false, false, false, false] rfl rfl (one_of HT_.out (by kernel_rfl)) (by decide) (fun K hK => ?_)
                          refine goes_ Try.func31 (by kernel_rfl) rfl #[.slice A0 yc3.length c0, .slice A1 yc5.length c1] (by rfl) rfl rfl (by (try simp only [List.map_toArray, List.map_cons, List.map_nil]); first | done | (simp only [hji15, hji5]; rfl) | rfl | (simp only [List.length_drop, List.length_take]; rfl)) ?_
                          with_reducible refine (ring_Dot.calls k _ _ yc3 _ _ yc5 t351 _ ?side1 ?side2 ?side3 ?side4 A28.out).mono ?_
                          (case side1 => repeat (first | exact (Kd.C_below HR344.out HB.out) | (with_reducible refine Kd.C_alloc ?_ _) | (with_reducible refine Kd.C_drewN ?_ _) | (with_reducible refine Kd.C_drew ?_)))
                          (case side2 => exact HC344.out)
                          (case side3 => repeat (first | exact (Kd.C_below HR350.out HB.out) | (with_reducible refine Kd.C_alloc ?_ _) | (with_reducible refine Kd.C_drewN ?_ _) | (with_reducible refine Kd.C_drew ?_)))
                          (case side4 => exact HC350.out)
                          rintro e w51 ⟨rfl, hb⟩
                          refine ⟨_, rfl, ?_⟩
                          have n0_ := Aside0.mk (below_step (by repeat (first | (with_reducible first | exact HB.out | apply below_alloc | apply pw_below_drewN | apply below_drew1) | exact HB.out)) hb)
                          clear HB
                          have HB := n0_
                          clear n0_
                          (try clear hb)
                          (try clear hb2)
                          (try clear hk)
                          (try clear hi)
                          refine hK.out _ _ trivial (fun hHeld => ?_)
                          clear hK K
                          refine norm_ (a' := ?_) ?_ ?_
                          rotate_left
                          · show Act.put _ (some 55) _ = _
                            simp only [Act.put, List.setIfInBounds_toArray, List.set_cons_zero, List.set_cons_succ, i64_w, i32_w]
                            rfl
                          refine one_ (i := 32) (N := some 62) #[true, true, true, true, true, true, true, true, true, true, true, true, true, true, true, true, true, true, true, true, true, true, true, true, true, true, true, true, true, true, true, true, true, false, false, false, false, false, false, false, false, false, false, false, false, false, false, false, false, false, false, false, false] rfl rfl (one_of HT_.out (by kernel_rfl)) (by decide) (fun K hK => ?_)
                          refine goes_ Try.func31 (by kernel_rfl) rfl #[.slice A47 yc4.length (c0 - (ji15).toNat), .slice A53 yc6.length (c1 - (ji15).toNat)] (by rfl) rfl rfl (by (try simp only [List.map_toArray, List.map_cons, List.map_nil]); first | done | (simp only [hji15, hji5]; rfl) | rfl | (simp only [List.length_drop, List.length_take]; rfl)) ?_
                          with_reducible refine (ring_Dot.calls k _ _ yc4 _ _ yc6 t354 _ ?side1 ?side2 ?side3 ?side4 A33.out).mono ?_
                          (case side1 => repeat (first | exact (Kd.C_below HR346.out HB.out) | (with_reducible refine Kd.C_alloc ?_ _) | (with_reducible refine Kd.C_drewN ?_ _) | (with_reducible refine Kd.C_drew ?_)))
                          (case side2 => exact HC346.out)
                          (case side3 => repeat (first | exact (Kd.C_below HR353.out HB.out) | (with_reducible refine Kd.C_alloc ?_ _) | (with_reducible refine Kd.C_drewN ?_ _) | (with_reducible refine Kd.C_drew ?_)))
                          (case side4 => exact HC353.out)
                          rintro e w54 ⟨rfl, hb⟩
                          refine ⟨_, rfl, ?_⟩
                          have n0_ := Aside0.mk (below_step (by repeat (first | (with_reducible first | exact HB.out | apply below_alloc | apply pw_below_drewN | apply below_drew1) | exact HB.out)) hb)
                          clear HB
                          have HB := n0_
                          clear n0_
                          (try clear hb)
                          (try clear hb2)
                          (try clear hk)
                          (try clear hi)
                          refine hK.out _ _ trivial (fun hHeld => ?_)
                          clear hK K
                          refine norm_ (a' := ?_) ?_ ?_
                          rotate_left
                          · show Act.put _ (some 62) _ = _
                            simp only [Act.put, List.setIfInBounds_toArray, List.set_cons_zero, List.set_cons_succ, i64_w, i32_w]
                            rfl
                          refine pure_ (i := 33) (N := some 63) (v := ?_) (a' := ?_) #[true, true, true, true, true, true, true, true, true, true, true, true, true, true, true, true, true, true, true, true, true, true, true, true, true, true, true, true, true, true, true, true, true, true, false, false, false, false, false, false, false, false, false, false, false, false, false, false, false, false, false, false, false] rfl rfl (any_of HT_.out (by kernel_rfl)) (fun _ _ _ h => h) (Or.inl ⟨by rfl, ?_⟩) ?_ ?_
                          rotate_left
                          · intro w'
                            go_simp
                            with_reducible rfl
                          rotate_left
                          · simp only [Act.put, List.setIfInBounds_toArray, List.set_cons_zero, List.set_cons_succ, i64_w, i32_w]
                            rfl
                          refine pure_ (i := 34) (N := some 64) (v := ?_) (a' := ?_) #[true, true, true, true, true, true, true, true, true, true, true, true, true, true, true, true, true, true, true, true, true, true, true, true, true, true, true, true, true, true, true, true, true, true, true, false, false, false, false, false, false, false, false, false, false, false, false, false, false, false, false, false, false] rfl rfl (any_of HT_.out (by kernel_rfl)) (fun _ _ _ h => h) (Or.inl ⟨by rfl, ?_⟩) ?_ ?_
                          rotate_left
                          · intro w'
                            go_simp
                            with_reducible rfl
                          rotate_left
                          · simp only [Act.put, List.setIfInBounds_toArray, List.set_cons_zero, List.set_cons_succ, i64_w, i32_w]
                            rfl
                          refine pure_ (i := 35) (N := some 65) (v := ?_) (a' := ?_) #[true, true, true, true, true, true, true, true, true, true, true, true, true, true, true, true, true, true, true, true, true, true, true, true, true, true, true, true, true, true, true, true, true, true, true, true, false, false, false, false, false, false, false, false, false, false, false, false, false, false, false, false, false] rfl rfl (any_of HT_.out (by kernel_rfl)) (fun _ _ _ h => h) (Or.inl ⟨by rfl, ?_⟩) ?_ ?_
                          rotate_left
                          · intro w'
                            go_simp
                            with_reducible rfl
                          rotate_left
                          · simp only [Act.put, List.setIfInBounds_toArray, List.set_cons_zero, List.set_cons_succ, i64_w, i32_w]
                            rfl
                          refine pure_ (i := 36) (N := some 66) (v := ?_) (a' := ?_) #[true, true, true, true, true, true, true, true, true, true, true, true, true, true, true, true, true, true, true, true, true, true, true, true, true, true, true, true, true, true, true, true, true, true, true, true, true, false, false, false, false, false, false, false, false, false, false, false, false, false, false, false, false] rfl rfl (any_of HT_.out (by kernel_rfl)) (fun _ _ _ h => h) (Or.inl ⟨by rfl, ?_⟩) ?_ ?_
                          rotate_left
                          · intro w'
                            go_simp
                            with_reducible rfl
                          rotate_left
                          · simp only [Act.put, List.setIfInBounds_toArray, List.set_cons_zero, List.set_cons_succ, i64_w, i32_w]
                            rfl
                          refine pure_ (i := 37) (N := some 67) (v := ?_) (a' := ?_) #[true, true, true, true, true, true, true, true, true, true, true, true, true, true, true, true, true, true, true, true, true, true, true, true, true, true, true, true, true, true, true, true, true, true, true, true, true, true, false, false, false, false, false, false, false, false, false, false, false, false, false, false, false] rfl rfl (any_of HT_.out (by kernel_rfl)) (fun _ _ _ h => h) (Or.inl ⟨by rfl, ?_⟩) ?_ ?_
                          rotate_left
                          · intro w'
                            go_simp
                            with_reducible rfl
                          rotate_left
                          · simp only [Act.put, List.setIfInBounds_toArray, List.set_cons_zero, List.set_cons_succ, i64_w, i32_w]
                            rfl
                          refine pure_ (i := 39) (N := some 69) (v := ?_) (a' := ?_) #[true, true, true, true, true, true, true, true, true, true, true, true, true, true, true, true, true, true, true, true, true, true, true, true, true, true, true, true, true, true, true, true, true, true, true, true, true, true, false, true, false, false, false, false, false, false, false, false, false, false, false, false, false] rfl rfl (any_of HT_.out (by kernel_rfl)) (fun _ _ _ h => h) (Or.inl ⟨by rfl, ?_⟩) ?_ ?_
                          rotate_left
                          · intro w'
                            go_simp
                            with_reducible rfl
                          rotate_left
                          · simp only [Act.put, List.setIfInBounds_toArray, List.set_cons_zero, List.set_cons_succ, i64_w, i32_w]
                            rfl
                          refine pure_ (i := 40) (N := some 70) (v := ?_) (a' := ?_) #[true, true, true, true, true, true, true, true, true, true, true, true, true, true, true, true, true, true, true, true, true, true, true, true, true, true, true, true, true, true, true, true, true, true, true, true, true, true, false, true, true, false, false, false, false, false, false, false, false, false, false, false, false] rfl rfl (any_of HT_.out (by kernel_rfl)) (fun _ _ _ h => h) (Or.inl ⟨by rfl, ?_⟩) ?_ ?_
                          rotate_left
                          · intro w'
                            go_simp
                            with_reducible rfl
                          rotate_left
                          · simp only [Act.put, List.setIfInBounds_toArray, List.set_cons_zero, List.set_cons_succ, i64_w, i32_w]
                            rfl
                          refine one_ (i := 38) (N := some 68) #[true, true, true, true, true, true, true, true, true, true, true, true, true, true, true, true, true, true, true, true, true, true, true, true, true, true, true, true, true, true, true, true, true, true, true, true, true, true, true, true, true, false, false, false, false, false, false, false, false, false, false, false, false] rfl rfl (one_of HT_.out (by kernel_rfl)) (by decide) (fun K hK => ?_)
                          refine goes_ Try.func27 (by kernel_rfl) rfl #[.int .u64 2, .slice A0 yc1.length c0] (by rfl) rfl rfl (by (try simp only [List.map_toArray, List.map_cons, List.map_nil]); first | done | (simp only [hji5]; rfl) | rfl | (simp only [List.length_drop, List.length_take]; rfl)) ?_
                          with_reducible refine (ring_Scale.calls k 2 _ _ yc1 t355 _ ?side1 ?side2 A35.out).mono ?_
                          (case side1 => repeat (first | exact (Kd.C_below HR341.out HB.out) | (with_reducible refine Kd.C_alloc ?_ _) | (with_reducible refine Kd.C_drewN ?_ _) | (with_reducible refine Kd.C_drew ?_)))
                          (case side2 => exact HC341.out)
                          rintro e w55 ⟨v356, rfl, ho0, hb⟩
                          refine ⟨_, rfl, ?_⟩
                          have n0_ := Aside0.mk (Kd.R_lower ho0 (below_size (by repeat (first | (with_reducible first | exact HB.out | apply below_alloc | apply pw_below_drewN | apply below_drew1) | exact HB.out))))
                          have n1_ := Aside0.mk (below_step (by repeat (first | (with_reducible first | exact HB.out | apply below_alloc | apply pw_below_drewN | apply below_drew1) | exact HB.out)) hb)
                          clear HB
                          have HO357 := n0_
                          have HB := n1_
                          clear n0_ n1_
                          (try clear hb)
                          (try clear hb2)
                          (try clear hk)
                          (try clear hi)
                          (try clear ho0)
                          refine hK.out _ _ trivial (fun hHeld => ?_)
                          clear hK K
                          refine norm_ (a' := ?_) ?_ ?_
                          rotate_left
                          · show Act.put _ (some 68) _ = _
                            simp only [Act.put, List.setIfInBounds_toArray, List.set_cons_zero, List.set_cons_succ, i64_w, i32_w]
                            rfl
                          refine one_ (i := 41) (N := some 71) #[true, true, true, true, true, true, true, true, true, true, true, true, true, true, true, true, true, true, true, true, true, true, true, true, true, true, true, true, true, true, true, true, true, true, true, true, true, true, true, true, true, true, false, false, false, false, false, false, false, false, false, false, false] rfl rfl (one_of HT_.out (by kernel_rfl)) (by decide) (fun K hK => ?_)
                          refine goes_ Try.func21 (by kernel_rfl) rfl #[.slice A0 yc1.length c0, .slice A0 yc1.length c0] (by rfl) rfl rfl (by (try simp only [List.map_toArray, List.map_cons, List.map_nil]); first | done | (simp only [hji5]; rfl) | rfl | (simp only [List.length_drop, List.length_take]; rfl)) ?_
                          with_reducible refine (ring_Add.calls k _ _ yc1 _ _ yc1 t358 _ ?side1 ?side2 ?side3 ?side4 A36.out).mono ?_
                          (case side1 => repeat (first | exact (Kd.C_below HR341.out HB.out) | (with_reducible refine Kd.C_alloc ?_ _) | (with_reducible refine Kd.C_drewN ?_ _) | (with_reducible refine Kd.C_drew ?_)))
                          (case side2 => exact HC341.out)
                          (case side3 => repeat (first | exact (Kd.C_below HR341.out HB.out) | (with_reducible refine Kd.C_alloc ?_ _) | (with_reducible refine Kd.C_drewN ?_ _) | (with_reducible refine Kd.C_drew ?_)))
                          (case side4 => exact HC341.out)
                          rintro e w56 ⟨v359, rfl, ho0, hb⟩
                          refine ⟨_, rfl, ?_⟩
                          have n0_ := Aside0.mk (Kd.R_elder' (by (with_reducible repeat (first | apply Kd.R_alloc | apply Kd.R_drewN | apply Kd.R_drew)); exact HO357.out) (Kd.R_base ho0) hb)
                          have n1_ := Aside0.mk (Kd.R_lower (Kd.R_new' ho0 (Kd.R_lt (by (with_reducible repeat (first | apply Kd.R_alloc | apply Kd.R_drewN | apply Kd.R_drew)); exact HO357.out))) (below_size (by repeat (first | (with_reducible first | exact HB.out | apply below_alloc | apply pw_below_drewN | apply below_drew1) | exact HB.out))))
                          have n2_ := Aside0.mk (below_step (by repeat (first | (with_reducible first | exact HB.out | apply below_alloc | apply pw_below_drewN | apply below_drew1) | exact HB.out)) hb)
                          clear HO357
                          clear HB
                          have HO357 := n0_
                          have HO360 := n1_
                          have HB := n2_
                          clear n0_ n1_ n2_
                          (try clear hb)
                          (try clear hb2)
                          (try clear hk)
                          (try clear hi)
                          (try clear ho0)
                          obtain ⟨Ao57, co57, eo57⟩ := Kd.R_slice HO357.out
                          (first | subst eo57 | (injection eo57 with f1_ f2_ f3_; have f4_ := f1_.symm; have f5_ := f3_.symm; clear f1_ f2_ f3_; subst f4_; subst f5_))
                          obtain ⟨Ao58, co58, eo58⟩ := Kd.R_slice HO360.out
                          (first | subst eo58 | (injection eo58 with f1_ f2_ f3_; have f4_ := f1_.symm; have f5_ := f3_.symm; clear f1_ f2_ f3_; subst f4_; subst f5_))
                          refine hK.out _ _ trivial (fun hHeld => ?_)
                          clear hK K
                          refine norm_ (a' := ?_) ?_ ?_
                          rotate_left
                          · show Act.put _ (some 71) _ = _
                            simp only [Act.put, List.setIfInBounds_toArray, List.set_cons_zero, List.set_cons_succ, i64_w, i32_w]
                            rfl
                          refine one_ (i := 42) (N := some 72) #[true, true, true, true, true, true, true, true, true, true, true, true, true, true, true, true, true, true, true, true, true, true, true, true, true, true, true, true, true, true, true, true, true, true, true, true, true, true, true, true, true, true, true, false, false, false, false, false, false, false, false, false, false] rfl rfl (one_of HT_.out (by kernel_rfl)) (by decide) (fun K hK => ?_)
                          refine goes_ Try.func20 (by kernel_rfl) rfl #[.slice Ao57 t355.length co57, .slice Ao58 t358.length co58] (by rfl) rfl rfl (by (try simp only [List.map_toArray, List.map_cons, List.map_nil]); first | done | rfl | (simp only [List.length_drop, List.length_take]; rfl)) ?_
                          with_reducible refine (symbolonref01_Same.calls k _ _ t355 _ _ t358 true _ ?side1 ?side2 ?side3 ?side4 A37.out).mono ?_
                          (case side1 => repeat (first | exact (Kd.R_reads' HO357.out).2.2 | (with_reducible refine Kd.C_alloc ?_ _) | (with_reducible refine Kd.C_drewN ?_ _) | (with_reducible refine Kd.C_drew ?_)))
                          (case side2 => exact (Kd.R_reads' HO357.out).2.1)
                          (case side3 => repeat (first | exact (Kd.R_reads' HO360.out).2.2 | (with_reducible refine Kd.C_alloc ?_ _) | (with_reducible refine Kd.C_drewN ?_ _) | (with_reducible refine Kd.C_drew ?_)))
                          (case side4 => exact (Kd.R_reads' HO360.out).2.1)
                          rintro e w' ⟨rfl, ⟨nd, rfl⟩⟩
                          refine ⟨_, rfl, ?_⟩
                          refine hK.out _ _ trivial (fun hHeld => ?_)
                          clear hK K
                          refine norm_ (a' := ?_) ?_ ?_
                          rotate_left
                          · show Act.put _ (some 72) _ = _
                            simp only [Act.put, List.setIfInBounds_toArray, List.set_cons_zero, List.set_cons_succ, i64_w, i32_w]
                            rfl
                          refine pure_ (i := 43) (N := some 73) (v := ?_) (a' := ?_) #[true, true, true, true, true, true, true, true, true, true, true, true, true, true, true, true, true, true, true, true, true, true, true, true, true, true, true, true, true, true, true, true, true, true, true, true, true, true, true, true, true, true, true, true, false, false, false, false, false, false, false, false, false] rfl rfl (any_of HT_.out (by kernel_rfl)) (fun _ _ _ h => h) (Or.inl ⟨by rfl, ?_⟩) ?_ ?_
                          rotate_left
                          · intro w'
                            go_simp
                            with_reducible rfl
                          rotate_left
                          · simp only [Act.put, List.setIfInBounds_toArray, List.set_cons_zero, List.set_cons_succ, i64_w, i32_w]
                            rfl
                          refine pure_ (i := 44) (N := some 74) (v := ?_) (a' := ?_) #[true, true, true, true, true, true, true, true, true, true, true, true, true, true, true, true, true, true, true, true, true, true, true, true, true, true, true, true, true, true, true, true, true, true, true, true, true, true, true, true, true, true, true, true, true, false, false, false, false, false, false, false, false] rfl rfl (any_of HT_.out (by kernel_rfl)) (fun _ _ _ h => h) (Or.inl ⟨by rfl, ?_⟩) ?_ ?_
                          rotate_left
                          · intro w'
                            go_simp
                            with_reducible rfl
                          rotate_left
                          · simp only [Act.put, List.setIfInBounds_toArray, List.set_cons_zero, List.set_cons_succ, i64_w, i32_w]
                            rfl
                          refine pure_ (i := 45) (N := some 75) (v := ?_) (a' := ?_) #[true, true, true, true, true, true, true, true, true, true, true, true, true, true, true, true, true, true, true, true, true, true, true, true, true, true, true, true, true, true, true, true, true, true, true, true, true, true, true, true, true, true, true, true, true, true, false, false, false, false, false, false, false] rfl rfl (any_of HT_.out (by kernel_rfl)) (fun _ _ _ h => h) (Or.inl ⟨by rfl, ?_⟩) ?_ ?_
                          rotate_left
                          · intro w'
                            go_simp
                            with_reducible rfl
                          rotate_left
                          · simp only [Act.put, List.setIfInBounds_toArray, List.set_cons_zero, List.set_cons_succ, i64_w, i32_w]
                            rfl
                          refine pure_ (i := 47) (N := some 77) (v := ?_) (a' := ?_) #[true, true, true, true, true, true, true, true, true, true, true, true, true, true, true, true, true, true, true, true, true, true, true, true, true, true, true, true, true, true, true, true, true, true, true, true, true, true, true, true, true, true, true, true, true, true, false, true, false, false, false, false, false] rfl rfl (any_of HT_.out (by kernel_rfl)) (fun _ _ _ h => h) (Or.inl ⟨by rfl, ?_⟩) ?_ ?_
                          rotate_left
                          · intro w'
                            go_simp
                            with_reducible rfl
                          rotate_left
                          · simp only [Act.put, List.setIfInBounds_toArray, List.set_cons_zero, List.set_cons_succ, i64_w, i32_w]
                            rfl
                          refine pure_ (i := 48) (N := some 78) (v := ?_) (a' := ?_) #[true, true, true, true, true, true, true, true, true, true, true, true, true, true, true, true, true, true, true, true, true, true, true, true, true, true, true, true, true, true, true, true, true, true, true, true, true, true, true, true, true, true, true, true, true, true, false, true, true, false, false, false, false] rfl rfl (any_of HT_.out (by kernel_rfl)) (fun _ _ _ h => h) (Or.inl ⟨by rfl, ?_⟩) ?_ ?_
                          rotate_left
                          · intro w'
                            go_simp
                            with_reducible rfl
                          rotate_left
                          · simp only [Act.put, List.setIfInBounds_toArray, List.set_cons_zero, List.set_cons_succ, i64_w, i32_w]
                            rfl
                          refine one_ (i := 46) (N := some 76) #[true, true, true, true, true, true, true, true, true, true, true, true, true, true, true, true, true, true, true, true, true, true, true, true, true, true, true, true, true, true, true, true, true, true, true, true, true, true, true, true, true, true, true, true, true, true, true, true, true, false, false, false, false] rfl rfl (one_of HT_.out (by kernel_rfl)) (by decide) (fun K hK => ?_)
                          refine goes_ Try.func27 (by kernel_rfl) rfl #[.int .u64 0, .slice A0 yc1.length c0] (by rfl) rfl rfl (by (try simp only [List.map_toArray, List.map_cons, List.map_nil]); first | done | (simp only [hji5]; rfl) | rfl | (simp only [List.length_drop, List.length_take]; rfl)) ?_
                          with_reducible refine (ring_Scale.calls k 0 _ _ yc1 t362 _ ?side1 ?side2 A39.out).mono ?_
                          (case side1 => repeat (first | exact (Kd.C_below HR341.out (by repeat (first | (with_reducible first | exact HB.out | apply below_alloc | apply pw_below_drewN | apply below_drew1) | exact HB.out))) | (with_reducible refine Kd.C_alloc ?_ _) | (with_reducible refine Kd.C_drewN ?_ _) | (with_reducible refine Kd.C_drew ?_)))
                          (case side2 => exact HC341.out)
                          rintro e w59 ⟨v363, rfl, ho0, hb⟩
                          refine ⟨_, rfl, ?_⟩
                          have n0_ := Aside0.mk (Kd.R_elder' (by (with_reducible repeat (first | apply Kd.R_alloc | apply Kd.R_drewN | apply Kd.R_drew)); exact HO357.out) (Kd.R_base ho0) hb)
                          have n1_ := Aside0.mk (Kd.R_elder' (by (with_reducible repeat (first | apply Kd.R_alloc | apply Kd.R_drewN | apply Kd.R_drew)); exact HO360.out) (Kd.R_base ho0) hb)
                          have n2_ := Aside0.mk (Kd.R_lower (Kd.R_new' (Kd.R_new' ho0 (Kd.R_lt (by (with_reducible repeat (first | apply Kd.R_alloc | apply Kd.R_drewN | apply Kd.R_drew)); exact HO357.out))) (Kd.R_lt (by (with_reducible repeat (first | apply Kd.R_alloc | apply Kd.R_drewN | apply Kd.R_drew)); exact HO360.out))) (below_size (by repeat (first | (with_reducible first | exact HB.out | apply below_alloc | apply pw_below_drewN | apply below_drew1) | exact HB.out))))
                          have n3_ := Aside0.mk (below_step (by repeat (first | (with_reducible first | exact HB.out | apply below_alloc | apply pw_below_drewN | apply below_drew1) | exact HB.out)) hb)
                          clear HO357
                          clear HO360
                          clear HB
                          have HO357 := n0_
                          have HO360 := n1_
                          have HO364 := n2_
                          have HB := n3_
                          clear n0_ n1_ n2_ n3_
                          (try clear hb)
                          (try clear hb2)
                          (try clear hk)
                          (try clear hi)
                          (try clear ho0)
                          refine hK.out _ _ trivial (fun hHeld => ?_)
                          clear hK K
                          refine norm_ (a' := ?_) ?_ ?_
                          rotate_left
                          · show Act.put _ (some 76) _ = _
                            simp only [Act.put, List.setIfInBounds_toArray, List.set_cons_zero, List.set_cons_succ, i64_w, i32_w]
                            rfl
                          refine one_ (i := 49) (N := some 79) #[true, true, true, true, true, true, true, true, true, true, true, true, true, true, true, true, true, true, true, true, true, true, true, true, true, true, true, true, true, true, true, true, true, true, true, true, true, true, true, true, true, true, true, true, true, true, true, true, true, true, false, false, false] rfl rfl (one_of HT_.out (by kernel_rfl)) (by decide) (fun K hK => ?_)
                          refine goes_ Try.func23 (by kernel_rfl) rfl #[.slice A1 yc2.length c1, .slice A1 yc2.length c1] (by rfl) rfl rfl (by (try simp only [List.map_toArray, List.map_cons, List.map_nil]); first | done | (simp only [hji5]; rfl) | rfl | (simp only [List.length_drop, List.length_take]; rfl)) ?_
                          with_reducible refine (ring_Sub.calls k _ _ yc2 _ _ yc2 t365 _ ?side1 ?side2 ?side3 ?side4 A40.out).mono ?_
                          (case side1 => repeat (first | exact (Kd.C_below HR342.out HB.out) | (with_reducible refine Kd.C_alloc ?_ _) | (with_reducible refine Kd.C_drewN ?_ _) | (with_reducible refine Kd.C_drew ?_)))
                          (case side2 => exact HC342.out)
                          (case side3 => repeat (first | exact (Kd.C_below HR342.out HB.out) | (with_reducible refine Kd.C_alloc ?_ _) | (with_reducible refine Kd.C_drewN ?_ _) | (with_reducible refine Kd.C_drew ?_)))
                          (case side4 => exact HC342.out)
                          rintro e w60 ⟨v366, rfl, ho0, hb⟩
                          refine ⟨_, rfl, ?_⟩
                          have n0_ := Aside0.mk (Kd.R_elder' (by (with_reducible repeat (first | apply Kd.R_alloc | apply Kd.R_drewN | apply Kd.R_drew)); exact HO357.out) (Kd.R_base ho0) hb)
                          have n1_ := Aside0.mk (Kd.R_elder' (by (with_reducible repeat (first | apply Kd.R_alloc | apply Kd.R_drewN | apply Kd.R_drew)); exact HO360.out) (Kd.R_base ho0) hb)
                          have n2_ := Aside0.mk (Kd.R_elder' (by (with_reducible repeat (first | apply Kd.R_alloc | apply Kd.R_drewN | apply Kd.R_drew)); exact HO364.out) (Kd.R_base ho0) hb)
                          have n3_ := Aside0.mk (Kd.R_lower (Kd.R_new' (Kd.R_new' (Kd.R_new' ho0 (Kd.R_lt (by (with_reducible repeat (first | apply Kd.R_alloc | apply Kd.R_drewN | apply Kd.R_drew)); exact HO357.out))) (Kd.R_lt (by (with_reducible repeat (first | apply Kd.R_alloc | apply Kd.R_drewN | apply Kd.R_drew)); exact HO360.out))) (Kd.R_lt (by (with_reducible repeat (first | apply Kd.R_alloc | apply Kd.R_drewN | apply Kd.R_drew)); exact HO364.out))) (below_size (by repeat (first | (with_reducible first | exact HB.out | apply below_alloc | apply pw_below_drewN | apply below_drew1) | exact HB.out))))
                          have n4_ := Aside0.mk (below_step (by repeat (first | (with_reducible first | exact HB.out | apply below_alloc | apply pw_below_drewN | apply below_drew1) | exact HB.out)) hb)
                          clear HO357
                          clear HO360
                          clear HO364
                          clear HB
                          have HO357 := n0_
                          have HO360 := n1_
                          have HO364 := n2_
                          have HO367 := n3_
                          have HB := n4_
                          clear n0_ n1_ n2_ n3_ n4_
                          (try clear hb)
                          (try clear hb2)
                          (try clear hk)
                          (try clear hi)
                          (try clear ho0)
                          obtain ⟨Ao61, co61, eo61⟩ := Kd.R_slice HO364.out
                          (first | subst eo61 | (injection eo61 with f1_ f2_ f3_; have f4_ := f1_.symm; have f5_ := f3_.symm; clear f1_ f2_ f3_; subst f4_; subst f5_))
                          obtain ⟨Ao62, co62, eo62⟩ := Kd.R_slice HO367.out
                          (first | subst eo62 | (injection eo62 with f1_ f2_ f3_; have f4_ := f1_.symm; have f5_ := f3_.symm; clear f1_ f2_ f3_; subst f4_; subst f5_))
                          refine hK.out _ _ trivial (fun hHeld => ?_)
                          clear hK K
                          refine norm_ (a' := ?_) ?_ ?_
                          rotate_left
                          · show Act.put _ (some 79) _ = _
                            simp only [Act.put, List.setIfInBounds_toArray, List.set_cons_zero, List.set_cons_succ, i64_w, i32_w]
                            rfl
                          refine one_ (i := 50) (N := some 80) #[true, true, true, true, true, true, true, true, true, true, true, true, true, true, true, true, true, true, true, true, true, true, true, true, true, true, true, true, true, true, true, true, true, true, true, true, true, true, true, true, true, true, true, true, true, true, true, true, true, true, true, false, false] rfl rfl (one_of HT_.out (by kernel_rfl)) (by decide) (fun K hK => ?_)
                          refine goes_ Try.func20 (by kernel_rfl) rfl #[.slice Ao61 t362.length co61, .slice Ao62 t365.length co62] (by rfl) rfl rfl (by (try simp only [List.map_toArray, List.map_cons, List.map_nil]); first | done | rfl | (simp only [List.length_drop, List.length_take]; rfl)) ?_
                          with_reducible refine (symbolonref01_Same.calls k _ _ t362 _ _ t365 t368 _ ?side1 ?side2 ?side3 ?side4 A41.out).mono ?_
                          (case side1 => repeat (first | exact (Kd.R_reads' HO364.out).2.2 | (with_reducible refine Kd.C_alloc ?_ _) | (with_reducible refine Kd.C_drewN ?_ _) | (with_reducible refine Kd.C_drew ?_)))
                          (case side2 => exact (Kd.R_reads' HO364.out).2.1)
                          (case side3 => repeat (first | exact (Kd.R_reads' HO367.out).2.2 | (with_reducible refine Kd.C_alloc ?_ _) | (with_reducible refine Kd.C_drewN ?_ _) | (with_reducible refine Kd.C_drew ?_)))
                          (case side4 => exact (Kd.R_reads' HO367.out).2.1)
                          rintro e w' ⟨rfl, ⟨nd, rfl⟩⟩
                          refine ⟨_, rfl, ?_⟩
                          refine hK.out _ _ trivial (fun hHeld => ?_)
                          clear hK K
                          refine norm_ (a' := ?_) ?_ ?_
                          rotate_left
                          · show Act.put _ (some 80) _ = _
                            simp only [Act.put, List.setIfInBounds_toArray, List.set_cons_zero, List.set_cons_succ, i64_w, i32_w]
                            rfl
                          refine pure_ (i := 51) (N := some 81) (v := ?_) (a' := ?_) #[true, true, true, true, true, true, true, true, true, true, true, true, true, true, true, true, true, true, true, true, true, true, true, true, true, true, true, true, true, true, true, true, true, true, true, true, true, true, true, true, true, true, true, true, true, true, true, true, true, true, true, true, false] rfl rfl (any_of HT_.out (by kernel_rfl)) (fun _ _ _ h => h) (Or.inl ⟨by rfl, ?_⟩) ?_ ?_
                          rotate_left
                          · intro w'
                            go_simp
                            with_reducible rfl
                          rotate_left
                          · simp only [Act.put, List.setIfInBounds_toArray, List.set_cons_zero, List.set_cons_succ, i64_w, i32_w]
                            rfl
                          refine pure_ (i := 52) (N := some 6) (v := ?_) (a' := ?_) #[true, true, true, true, true, true, true, true, true, true, true, true, true, true, true, true, true, true, true, true, true, true, true, true, true, true, true, true, true, true, true, true, true, true, true, true, true, true, true, true, true, true, true, true, true, true, true, true, true, true, true, true, true] rfl rfl (any_of HT_.out (by kernel_rfl)) (fun _ _ _ h => h) (Or.inl ⟨by rfl, ?_⟩) ?_ ?_
                          rotate_left
                          · intro w'
                            go_simp
                            with_reducible rfl
                          rotate_left
                          · simp only [Act.put, List.setIfInBounds_toArray, List.set_cons_zero, List.set_cons_succ, i64_w, i32_w]
                            rfl
                          refine done_ (done_of HT_.out (by kernel_rfl)) ?_
                          try go_wp2
                          go_ret
                          exact ⟨by first | rfl | (simp [errW_none, errW_some] <;> rfl) | (simp only [← hji5, ← hji15]; first | rfl | (simp [errW_none, errW_some] <;> rfl)) | (simp [*, errW_none, errW_some] <;> rfl), by repeat (first | (with_reducible first | exact HB.out | apply below_alloc | apply pw_below_drewN | apply below_drew1) | exact HB.out)⟩
                        · replace c38 := Bool.eq_false_iff.mpr c38
                          subst c38
                          have H1 : (none) = some r := by rw [if_neg (show ¬ (false = true) by decide)] at H; exact H
                          clear H
                          have H := H1
                          clear H1
                          exact absurd H (by simp)
                      · rw [if_neg c34] at H
                        exact absurd H (by simp)
                    · rw [if_neg c27] at H
                      exact absurd H (by simp)
                  · rw [if_neg c22] at H
                    exact absurd H (by simp)
                · rw [if_neg c17] at H
                  exact absurd H (by simp)
              · rw [if_neg c16] at H
                exact absurd H (by simp)
            · replace c13 := Bool.eq_false_iff.mpr c13
              subst c13
              have H1 : (none) = some r := by rw [if_neg (show ¬ (false = true) by decide)] at H; exact H
              clear H
              have H := H1
              clear H1
              exact absurd H (by simp)
        · rw [if_neg c11] at H
          exact absurd H (by simp)
      · rw [if_neg c9] at H
        exact absurd H (by simp)
    · rw [if_neg c8] at H
      exact absurd H (by simp)

/-- THE ONE PURE STATEMENT of symbolonlaw01_RingParts: yours. -/
def symbolonlaw01_RingParts.Pure : Prop := ∀ (l0 : List Int) (l1 : List Int) (a2 : Int), l0.length ≤ maxLen → l0.length * 8 ≤ 140737488351232 → (∀ x ∈ l0, (Lit.int .u64 x).wf = true) → l1.length ≤ maxLen → l1.length * 8 ≤ 140737488351232 → (∀ x ∈ l1, (Lit.int .u64 x).wf = true) → (Lit.int .u16 a2).wf = true → ∃ k, symbolonlaw01_RingParts.f k l0 l1 a2 = some true
theorem symbolonlaw01_RingParts.walk (P : symbolonlaw01_RingParts.Pure) (a0 : Option Addr) (len0 cap0 : Nat) (z0 : List Int) (a1 : Option Addr) (len1 cap1 : Nat) (z1 : List Int) (a2 : Int) (w : World) (w0 : (a0 = none ∧ len0 = 0 ∧ cap0 = 0 ∧ z0 = []) ∨ ∃ x, a0 = some x ∧ len0 ≤ cap0 ∧ cap0 ≤ maxLen ∧ z0.length = cap0 ∧ (∀ i, i < z0.length → w.cell? (x.add i) = some (.int .u64 (z0.getD i 0))) ∧ ∀ n ∈ z0, (Lit.int .u64 n).wf = true) (y0 : len0 * 8 ≤ 140737488351232) (w1 : (a1 = none ∧ len1 = 0 ∧ cap1 = 0 ∧ z1 = []) ∨ ∃ x, a1 = some x ∧ len1 ≤ cap1 ∧ cap1 ≤ maxLen ∧ z1.length = cap1 ∧ (∀ i, i < z1.length → w.cell? (x.add i) = some (.int .u64 (z1.getD i 0))) ∧ ∀ n ∈ z1, (Lit.int .u64 n).wf = true) (y1 : len1 * 8 ≤ 140737488351232) (w2 : (Lit.int .u16 a2).wf = true) :
    Calls Try.prog 7 #[.slice a0 len0 cap0, .slice a1 len1 cap1, .int .u16 a2] w fun e w' => e = .returned (.bool true) ∧ Below w.heap.size w w' := by
  obtain ⟨l0, rfl, hr0, hm0, hw0, hc0⟩ := ReadsInt.ofRowC w0
  obtain ⟨l1, rfl, hr1, hm1, hw1, hc1⟩ := ReadsInt.ofRowC w1
  obtain ⟨k, h⟩ := P l0 l1 a2 hm0 y0 hw0 hm1 y1 hw1 w2
  refine (symbolonlaw01_RingParts.calls k _ _ l0 _ _ l1 a2 true w (Kd.C_of_reads (d := (0 : Int)) (h1 := fun _ => rfl) hr0) hc0 (Kd.C_of_reads (d := (0 : Int)) (h1 := fun _ => rfl) hr1) hc1 h).mono ?_
  rintro e w' ⟨rfl, hd⟩
  exact ⟨rfl, hd⟩

end Go.Proofs.Ytifehkjcccjccaa.PRg
