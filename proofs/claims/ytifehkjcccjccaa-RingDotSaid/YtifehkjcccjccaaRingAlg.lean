/- The laws of rows of words: in any order, over sums, over numbers. -/
import Derived.Test.YtifehkjcccjccaaRingBase
set_option linter.unusedSimpArgs false
namespace Go.Proofs.Ytifehkjcccjccaa.RingBase
open Go Go.RowKit Go.Proofs.Ytifehkjcccjccaa.PRg Go.Proofs.YtifehkjcccjccaaW.PrintWords Go.Proofs.YtifehkjcccjccaaW.PrintLast Go.Proofs.YtifehkjcccjccaaW.PrintMore Go.Proofs.Ytifehkjcccjccaa.U64
theorem zw_nil_left (g : W64 → W64 → W64) (b : List W64) : zw g [] b = [] := by simp [zw]
theorem zw_nil_right (g : W64 → W64 → W64) (a : List W64) : zw g a [] = [] := by cases a <;> simp [zw]
theorem zw_cons (g : W64 → W64 → W64) (x y : W64) (a b : List W64) : zw g (x :: a) (y :: b) = g x y :: zw g a b := by simp [zw]
theorem zw_comm (g : W64 → W64 → W64) (h : ∀ x y, g x y = g y x) (a b : List W64) : zw g a b = zw g b a := by
  induction a generalizing b with
  | nil => rw [zw_nil_left, zw_nil_right]
  | cons x a ih =>
    cases b with
    | nil => rw [zw_nil_left, zw_nil_right]
    | cons y b => rw [zw_cons, zw_cons, h, ih]
theorem zw_assoc (g : W64 → W64 → W64) (h : ∀ x y z, g (g x y) z = g x (g y z)) (a b c : List W64) : zw g (zw g a b) c = zw g a (zw g b c) := by
  induction a generalizing b c with
  | nil => simp only [zw_nil_left]
  | cons x a ih =>
    cases b with
    | nil => simp only [zw_nil_left, zw_nil_right]
    | cons y b =>
      cases c with
      | nil => simp only [zw_nil_right]
      | cons z c => simp only [zw_cons, h, ih]
theorem zw_over (a b c : List W64) : zw (· * ·) a (zw (· + ·) b c) = zw (· + ·) (zw (· * ·) a b) (zw (· * ·) a c) := by
  induction a generalizing b c with
  | nil => simp only [zw_nil_left]
  | cons x a ih =>
    cases b with
    | nil => simp only [zw_nil_left, zw_nil_right]
    | cons y b =>
      cases c with
      | nil => simp only [zw_nil_right]
      | cons z c => simp only [zw_cons, ih, BitVec.mul_add]
/-- What is done, and undone again. -/
theorem zw_undo (f g : W64 → W64 → W64) (h : ∀ x y, g (f x y) y = x) (a b : List W64) : zw g (zw f a b) b = a.take (min a.length b.length) := by
  induction a generalizing b with
  | nil => simp [zw_nil_left]
  | cons x a ih =>
    cases b with
    | nil => simp [zw_nil_right]
    | cons y b => simp only [zw_cons, h, ih, List.length_cons, Nat.succ_min_succ, List.take_succ_cons]
theorem add_sub (x y : W64) : x + y - y = x := BitVec.add_sub_cancel x y
theorem sub_add (x y : W64) : x - y + y = x := BitVec.sub_add_cancel x y
theorem zw_sub_self (a : List W64) : zw (· - ·) a a = List.replicate a.length 0#64 := by
  induction a with
  | nil => rfl
  | cons x a ih => rw [zw_cons, ih, List.length_cons, List.replicate_succ, BitVec.sub_self]
theorem sc_zero (a : List W64) : sc 0#64 a = List.replicate a.length 0#64 := by
  induction a with
  | nil => rfl
  | cons x a ih => rw [List.length_cons, List.replicate_succ, ← ih]; simp [sc]
theorem sc_two (a : List W64) : sc 2#64 a = zw (· + ·) a a := by
  induction a with
  | nil => rfl
  | cons x a ih =>
    rw [zw_cons, ← ih]
    have : 2#64 * x = x + x := by
      rw [show 2#64 = 1#64 + 1#64 from rfl, BitVec.add_mul, BitVec.one_mul]
    simp [sc, this]
theorem dt_nil_left (b : List W64) : dt [] b = 0#64 := by unfold dt; rw [zw_nil_left, sm_nil]
theorem dt_nil_right (a : List W64) : dt a [] = 0#64 := by unfold dt; rw [zw_nil_right, sm_nil]
theorem dt_cons (x y : W64) (a b : List W64) : dt (x :: a) (y :: b) = x * y + dt a b := by unfold dt; rw [zw_cons, sm_cons]
theorem dt_comm (a b : List W64) : dt a b = dt b a := by unfold dt; rw [zw_comm _ BitVec.mul_comm]
theorem swap_four (a b c d : W64) : a + b + (c + d) = a + c + (b + d) := by
  rw [BitVec.add_assoc, BitVec.add_assoc, ← BitVec.add_assoc b, BitVec.add_comm b c, BitVec.add_assoc c]
theorem dt_add (a b c : List W64) (h : a.length = b.length) : dt (zw (· + ·) a b) c = dt a c + dt b c := by
  induction a generalizing b c with
  | nil =>
    cases b with
    | nil => simp only [zw_nil_left, dt_nil_left, BitVec.add_zero]
    | cons y b => simp at h
  | cons x a ih =>
    cases b with
    | nil => simp at h
    | cons y b =>
      cases c with
      | nil => simp only [dt_nil_right, BitVec.add_zero]
      | cons z c =>
        rw [zw_cons, dt_cons, dt_cons, dt_cons, ih b c (by simpa using h), BitVec.add_mul, swap_four]
theorem sub_four (a b c d : W64) : a - b + (c - d) = a + c - (b + d) := by
  rw [BitVec.sub_eq_add_neg, BitVec.sub_eq_add_neg, BitVec.sub_eq_add_neg, BitVec.neg_add, BitVec.sub_eq_add_neg, swap_four]
theorem mul_sub_ (x y z : W64) : x * (y - z) = x * y - x * z := by
  rw [BitVec.sub_eq_add_neg, BitVec.mul_add, BitVec.mul_neg, ← BitVec.sub_eq_add_neg]
theorem dt_sub (c a b : List W64) (h : a.length = b.length) : dt c (zw (· - ·) a b) = dt c a - dt c b := by
  induction a generalizing b c with
  | nil =>
    cases b with
    | nil => simp only [zw_nil_left, dt_nil_right, BitVec.sub_self]
    | cons y b => simp at h
  | cons x a ih =>
    cases b with
    | nil => simp at h
    | cons y b =>
      cases c with
      | nil => simp only [dt_nil_left, BitVec.sub_self]
      | cons z c =>
        rw [zw_cons, dt_cons, dt_cons, dt_cons, ih c b (by simpa using h), mul_sub_, sub_four]
theorem dt_sc (k : W64) (a b : List W64) : dt (sc k a) b = k * dt a b := by
  induction a generalizing b with
  | nil => simp only [sc, List.map_nil, dt_nil_left, BitVec.mul_zero]
  | cons x a ih =>
    cases b with
    | nil => simp only [dt_nil_right, BitVec.mul_zero]
    | cons y b =>
      rw [show sc k (x :: a) = k * x :: sc k a from rfl, dt_cons, dt_cons, ih, BitVec.mul_add, BitVec.mul_assoc]
theorem dt_cut (a b : List W64) (k : Nat) : dt a b = dt (a.take k) (b.take k) + dt (a.drop k) (b.drop k) := by
  induction k generalizing a b with
  | zero => simp only [List.take_zero, dt_nil_left, List.drop_zero, BitVec.zero_add]
  | succ k ih =>
    cases a with
    | nil => simp only [List.take_nil, List.drop_nil, dt_nil_left, BitVec.add_zero]
    | cons x a =>
      cases b with
      | nil => simp only [List.take_nil, List.drop_nil, dt_nil_right, BitVec.add_zero]
      | cons y b => rw [List.take_succ_cons, List.take_succ_cons, List.drop_succ_cons, List.drop_succ_cons, dt_cons, dt_cons, ih, BitVec.add_assoc]
theorem sm_cut (a : List W64) (k : Nat) : sm a = sm (a.take k) + sm (a.drop k) := by rw [← sm_append, List.take_append_drop]
theorem sm_sub (a b : List W64) (h : a.length = b.length) : sm (zw (· - ·) a b) = sm a - sm b := by
  induction a generalizing b with
  | nil =>
    cases b with
    | nil => simp only [zw_nil_left, sm_nil, BitVec.sub_self]
    | cons y b => simp at h
  | cons x a ih =>
    cases b with
    | nil => simp at h
    | cons y b => rw [zw_cons, sm_cons, sm_cons, sm_cons, ih b (by simpa using h), sub_four]
/-- A difference and the one the other way round: noughts. -/
theorem zw_sides (a b : List W64) : zw (· + ·) (zw (· - ·) a b) (zw (· - ·) b a) = List.replicate (min a.length b.length) 0#64 := by
  induction a generalizing b with
  | nil => simp [zw_nil_left]
  | cons x a ih =>
    cases b with
    | nil => simp [zw_nil_right, zw_nil_left]
    | cons y b =>
      rw [zw_cons, zw_cons, zw_cons, ih, List.length_cons, List.length_cons, Nat.succ_min_succ, List.replicate_succ, sub_four, BitVec.add_comm y x, BitVec.sub_self]
theorem sm_noughts (n : Nat) : sm (List.replicate n 0#64) = 0#64 := by
  induction n with
  | zero => rfl
  | succ n ih => rw [List.replicate_succ, sm_cons, ih, BitVec.add_zero]
theorem neg_sub_ (x y : W64) : (18446744073709551615#64) * (x - y) = y - x := by
  have h : (18446744073709551615#64) = -1#64 := rfl
  rw [h, BitVec.neg_mul, BitVec.one_mul, BitVec.sub_eq_add_neg, BitVec.neg_add, BitVec.sub_eq_add_neg, BitVec.sub_eq_add_neg, BitVec.neg_neg, BitVec.add_comm]
theorem sc_sides (a b : List W64) : sc (18446744073709551615#64) (zw (· - ·) a b) = zw (· - ·) b a := by
  induction a generalizing b with
  | nil => rw [zw_nil_left, zw_nil_right]; rfl
  | cons x a ih =>
    cases b with
    | nil => rw [zw_nil_left, zw_nil_right]; rfl
    | cons y b => rw [zw_cons, zw_cons, ← ih]; show (18446744073709551615#64) * (x - y) :: _ = _; rw [neg_sub_]; rfl
theorem sq_sides (x y : W64) : (x - y) * (x - y) = (y - x) * (y - x) := by
  have h : x - y = -(y - x) := by rw [BitVec.sub_eq_add_neg, BitVec.sub_eq_add_neg, BitVec.neg_add, BitVec.sub_eq_add_neg, BitVec.neg_neg, BitVec.add_comm]
  rw [h, BitVec.neg_mul_neg]
theorem dt_sides (a b : List W64) : dt (zw (· - ·) a b) (zw (· - ·) a b) = dt (zw (· - ·) b a) (zw (· - ·) b a) := by
  induction a generalizing b with
  | nil => rw [zw_nil_left, zw_nil_right]
  | cons x a ih =>
    cases b with
    | nil => rw [zw_nil_left, zw_nil_right]
    | cons y b => rw [zw_cons, zw_cons, dt_cons, dt_cons, ih, sq_sides]
theorem mn_nat (a b : Nat) : mn (a : Int) (b : Int) = ((min a b : Nat) : Int) := by unfold mn; split <;> omega
theorem ev_succ {α : Type} {g : Nat → Option α} {r : α} (h : Ev (fun k => g (k + 1)) r) : Ev g r := Ev.step (fun _ => rfl) h
theorem great_at (a b : List Int) : ∃ g, symbolonlaw01_great.f a b = some g := by
  unfold symbolonlaw01_great.f
  split <;> exact ⟨_, rfl⟩
end Go.Proofs.Ytifehkjcccjccaa.RingBase
