/- What comes of any rows, and any number, is the reference's: for all rows that Go's memory can hold, and every number. -/
import Derived.Test.YtifehkjcccjccaaRingInv
import Derived.Test.YtifehkjcccjccaaPRgx19
set_option linter.unusedSimpArgs false
namespace Go.Proofs.Ytifehkjcccjccaa.Pure
open Go Go.RowKit Go.Proofs.Ytifehkjcccjccaa.PRg Go.Proofs.YtifehkjcccjccaaW.PrintWords Go.Proofs.YtifehkjcccjccaaW.PrintLast Go.Proofs.YtifehkjcccjccaaW.PrintMore Go.Proofs.Ytifehkjcccjccaa.U64 Go.Proofs.Ytifehkjcccjccaa.RingBase
theorem ref_l0 (g : W64 → W64 → W64) (f : Nat → List Int → List Int → List Int → Int → Option (List Int)) (op : Int → Int → Int) (hop : ∀ x y, op (un x) (un y) = un (g x y))
    (hf : ∀ k x0 x1 x5 x6, f (k + 1) x0 x1 x5 x6 = if x6 < (mn (x0.length : Int) (x1.length : Int)) then (if 0 ≤ x6 then (if x6 < (x0.length : Int) then (if x6 < (x1.length : Int) then (if x5.length < 17592186044416 then (f k x0 x1 (x5 ++ [op (rd x0 x6) (rd x1 x6)]) (wrap64 (x6 + 1))) else (none)) else (none)) else (none)) else (none)) else (some x5))
    (a b : List W64) (fa : fits a) (d : Nat) : ∀ (j k : Nat), j + d = min a.length b.length → d + 1 ≤ k → f k (uns a) (uns b) (uns ((zw g a b).take j)) (j : Int) = some (uns (zw g a b)) := by
  unfold fits at fa
  induction d with
  | zero =>
    intro j k hj hk
    obtain ⟨m, rfl⟩ : ∃ m, k = m + 1 := ⟨k - 1, by omega⟩
    rw [hf, uns_length, uns_length, mn_nat, if_neg (by omega), List.take_of_length_le (by rw [zw_length]; omega)]
  | succ d ih =>
    intro j k hj hk
    obtain ⟨m, rfl⟩ : ∃ m, k = m + 1 := ⟨k - 1, by omega⟩
    have h1 : j < a.length := by omega
    have h2 : j < b.length := by omega
    rw [hf, uns_length, uns_length, mn_nat, if_pos (by omega), if_pos (by omega), if_pos (by omega), if_pos (by omega), if_pos (by rw [uns_length, List.length_take]; omega), rd_uns a j h1, rd_uns b j h2, hop, show [un (g a[j] b[j])] = uns [g a[j] b[j]] from rfl, uns_append, ← zw_take_succ g a b j h1 h2, w64_succ (by omega)]
    exact ih (j + 1) m (by omega) (by omega)
theorem ref_add_ev {a b : List W64} (fa : fits a) : Ev (fun k => symbolonref01_Add.f k (uns a) (uns b)) (uns (zw (· + ·) a b)) :=
  ⟨a.length + 1, fun k hk => ref_l0 (· + ·) symbolonref01_Add.l0 (fun x y => IntKind.u64.wrap (x + y)) un_add (fun _ _ _ _ _ => by simp only [symbolonref01_Add.l0]) a b fa (min a.length b.length) 0 k (by omega) (by omega)⟩
theorem ref_sub_ev {a b : List W64} (fa : fits a) : Ev (fun k => symbolonref01_Sub.f k (uns a) (uns b)) (uns (zw (· - ·) a b)) :=
  ⟨a.length + 1, fun k hk => ref_l0 (· - ·) symbolonref01_Sub.l0 (fun x y => IntKind.u64.wrap (x - y)) un_sub (fun _ _ _ _ _ => by simp only [symbolonref01_Sub.l0]) a b fa (min a.length b.length) 0 k (by omega) (by omega)⟩
theorem ref_mul_ev {a b : List W64} (fa : fits a) : Ev (fun k => symbolonref01_Mul.f k (uns a) (uns b)) (uns (zw (· * ·) a b)) :=
  ⟨a.length + 1, fun k hk => ref_l0 (· * ·) symbolonref01_Mul.l0 (fun x y => IntKind.u64.wrap (x * y)) un_mul (fun _ _ _ _ _ => by simp only [symbolonref01_Mul.l0]) a b fa (min a.length b.length) 0 k (by omega) (by omega)⟩
theorem sc_take_succ (x : W64) (a : List W64) (j : Nat) (h : j < a.length) : (sc x a).take (j + 1) = (sc x a).take j ++ [x * a[j]] := by
  have h2 : j < (sc x a).length := by unfold sc; rw [List.length_map]; exact h
  rw [List.take_succ_eq_append_getElem h2]
  simp [sc]
theorem ref_scale_l0 (x : W64) (a : List W64) (fa : fits a) (d : Nat) : ∀ (j k : Nat), j + d = a.length → d + 1 ≤ k → symbolonref01_Scale.l0 k (un x) (uns a) (uns ((sc x a).take j)) (j : Int) = some (uns (sc x a)) := by
  unfold fits at fa
  induction d with
  | zero =>
    intro j k hj hk
    obtain ⟨m, rfl⟩ : ∃ m, k = m + 1 := ⟨k - 1, by omega⟩
    simp only [symbolonref01_Scale.l0]
    rw [uns_length, if_neg (by omega), List.take_of_length_le (by unfold sc; rw [List.length_map]; omega)]
  | succ d ih =>
    intro j k hj hk
    obtain ⟨m, rfl⟩ : ∃ m, k = m + 1 := ⟨k - 1, by omega⟩
    have h1 : j < a.length := by omega
    simp only [symbolonref01_Scale.l0]
    rw [uns_length, if_pos (by omega), if_pos (by omega), if_pos (by rw [uns_length, List.length_take]; omega), rd_uns a j h1, un_mul, show [un (x * a[j])] = uns [x * a[j]] from rfl, uns_append, ← sc_take_succ x a j h1, w64_succ (by omega)]
    exact ih (j + 1) m (by omega) (by omega)
theorem ref_scale_ev (x : W64) {a : List W64} (fa : fits a) : Ev (fun k => symbolonref01_Scale.f k (un x) (uns a)) (uns (sc x a)) :=
  ⟨a.length + 1, fun k hk => ref_scale_l0 x a fa a.length 0 k (by omega) (by omega)⟩
theorem ref_sum_l0 (a : List W64) (fa : fits a) (d : Nat) : ∀ (j k : Nat), j + d = a.length → d + 1 ≤ k → symbolonref01_Sum.l0 k (uns a) (un (sm (a.take j))) (j : Int) = some (un (sm a)) := by
  unfold fits at fa
  induction d with
  | zero =>
    intro j k hj hk
    obtain ⟨m, rfl⟩ : ∃ m, k = m + 1 := ⟨k - 1, by omega⟩
    simp only [symbolonref01_Sum.l0]
    rw [uns_length, if_neg (by omega), List.take_of_length_le (by omega)]
  | succ d ih =>
    intro j k hj hk
    obtain ⟨m, rfl⟩ : ∃ m, k = m + 1 := ⟨k - 1, by omega⟩
    have h1 : j < a.length := by omega
    have h2 : sm (a.take j) + a[j] = sm (a.take (j + 1)) := by
      rw [List.take_succ_eq_append_getElem h1, sm_append, sm_cons, sm_nil, BitVec.add_zero]
    simp only [symbolonref01_Sum.l0]
    rw [uns_length, if_pos (by omega), if_pos (by omega), rd_uns a j h1, un_add, h2, w64_succ (by omega)]
    exact ih (j + 1) m (by omega) (by omega)
theorem ref_sum_ev {a : List W64} (fa : fits a) : Ev (fun k => symbolonref01_Sum.f k (uns a)) (un (sm a)) :=
  ⟨a.length + 1, fun k hk => ref_sum_l0 a fa a.length 0 k (by omega) (by omega)⟩
theorem ref_dot_ev {a b : List W64} (fa : fits a) : Ev (fun k => symbolonref01_Dot.f k (uns a) (uns b)) (un (dt a b)) := by
  unfold symbolonref01_Dot.f
  exact Ev.bind (ref_mul_ev fa) (Ev.bind (ref_sum_ev (fits_zw fa)) (Ev.now _))
theorem RingTells : symbolonlaw01_RingTells.Pure := by
  intro l0 l1 a2 _ h0 w0 _ h1 w1 h2
  obtain ⟨a, ea⟩ := uns_of w0
  obtain ⟨b, eb⟩ := uns_of w1
  obtain ⟨x, rfl⟩ := un_of h2
  have fa := fits_of h0 ea
  have fb := fits_of h1 eb
  subst ea eb
  apply Ev.rounds
  unfold symbolonlaw01_RingTells.f
  obtain ⟨g, hg⟩ := great_at (uns a) (uns b)
  rw [hg]
  refine Ev.bind head_ev ?_
  simp only [Option.bind_some]
  cases g with
  | true => simp only [if_true]; exact Ev.now _
  | false =>
    simp only [Bool.false_eq_true, if_false, if_true]
    refine Ev.bind (inverse_ev x) (Ev.bind (ref_inverse_ev x) ?_)
    refine Ev.bind (add_ev fa fb) (Ev.bind (ref_add_ev fa) (Ev.bind (same_eq rfl (fits_zw fa)) ?_))
    simp only [if_true]
    refine Ev.bind (sub_ev fa fb) (Ev.bind (ref_sub_ev fa) (Ev.bind (same_eq rfl (fits_zw fa)) ?_))
    simp only [if_true]
    refine Ev.bind (mul_ev fa fb) (Ev.bind (ref_mul_ev fa) (Ev.bind (same_eq rfl (fits_zw fa)) ?_))
    simp only [if_true]
    refine Ev.bind (scale_ev x fa) (Ev.bind (ref_scale_ev x fa) (Ev.bind (same_eq rfl (fits_sc fa)) ?_))
    simp only [if_true]
    refine Ev.bind (sum_ev fa) (Ev.bind (ref_sum_ev fa) ?_)
    simp only [if_true]
    refine Ev.bind (dot_ev fa fb) (Ev.bind (ref_dot_ev fa) ?_)
    simp only [if_true, beq_self_eq_true]
    exact Ev.now _
end Go.Proofs.Ytifehkjcccjccaa.Pure
