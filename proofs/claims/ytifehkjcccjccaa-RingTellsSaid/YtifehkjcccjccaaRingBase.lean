/- Rows of numbers of 64 bits as lists of words: what the program's and the reference's functions of chapter 1 come to. -/
import Derived.Test.YtifehkjcccjccaaU64
import Derived.Test.YtifehkjcccjccaaPRgx0
import Derived.Test.YtifehkjcccjccaaPRgx1
import Derived.Test.YtifehkjcccjccaaPRgx2
import Derived.Test.YtifehkjcccjccaaPRgx3
import Derived.Test.YtifehkjcccjccaaPRgx4
import Derived.Test.YtifehkjcccjccaaPRgx5
import Derived.Test.YtifehkjcccjccaaPRgx6
import Derived.Test.YtifehkjcccjccaaPRgx7
import Derived.Test.YtifehkjcccjccaaPRgx8
import Derived.Test.YtifehkjcccjccaaPRgx9
import Derived.Test.YtifehkjcccjccaaPRgx10
import Derived.Test.YtifehkjcccjccaaPRgx11
import Derived.Test.YtifehkjcccjccaaPRgx12
import Derived.Test.YtifehkjcccjccaaPRgx13
import Derived.Test.YtifehkjcccjccaaPRgx14
import Derived.Test.YtifehkjcccjccaaPRgx15
import Derived.Test.YtifehkjcccjccaaPRgx16
import Derived.Test.YtifehkjcccjccaaPRgx17
import Derived.Test.YtifehkjcccjccaaPRgx18
import Derived.Test.YtifehkjcccjccaaPRgx19
set_option linter.unusedSimpArgs false
namespace Go.Proofs.Ytifehkjcccjccaa.RingBase
open Go Go.RowKit Go.Proofs.Ytifehkjcccjccaa.PRg Go.Proofs.YtifehkjcccjccaaW.PrintWords Go.Proofs.YtifehkjcccjccaaW.PrintLast Go.Proofs.YtifehkjcccjccaaW.PrintMore Go.Proofs.Ytifehkjcccjccaa.U64
abbrev W64 := BitVec 64
def uns (l : List W64) : List Int := l.map un
theorem uns_of {l : List Int} (h : ∀ x ∈ l, (Lit.int .u64 x).wf = true) : ∃ L : List W64, l = uns L := by
  induction l with
  | nil => exact ⟨[], rfl⟩
  | cons a l ih =>
    obtain ⟨x, rfl⟩ := un_of (h a List.mem_cons_self)
    obtain ⟨L, rfl⟩ := ih (fun y hy => h y (List.mem_cons_of_mem _ hy))
    exact ⟨x :: L, rfl⟩
theorem uns_length (l : List W64) : (uns l).length = l.length := by simp [uns]
theorem uns_take (l : List W64) (n : Nat) : (uns l).take n = uns (l.take n) := by simp [uns, List.map_take]
theorem uns_drop (l : List W64) (n : Nat) : (uns l).drop n = uns (l.drop n) := by simp [uns, List.map_drop]
theorem uns_append (a b : List W64) : uns a ++ uns b = uns (a ++ b) := by simp [uns]
theorem rd_uns (l : List W64) (j : Nat) (h : j < l.length) : rd (uns l) (j : Int) = un l[j] := by
  unfold rd uns
  rw [Int.toNat_natCast, List.getD_eq_getElem?_getD, List.getElem?_map, List.getElem?_eq_getElem h]
  rfl
theorem w64_succ {n : Nat} (h : n < 4611686018427387904) : wrap64 ((n : Int) + 1) = ((n + 1 : Nat) : Int) := by unfold wrap64; omega
theorem set_at {α : Type} (l : List α) (x y : α) (r : List α) (n : Nat) (h : l.length = n) : (l ++ x :: r).set n y = l ++ [y] ++ r := by
  subst h
  simp
/-- Number by number. -/
def zw (g : W64 → W64 → W64) (a b : List W64) : List W64 := List.zipWith g a b
theorem zw_length (g : W64 → W64 → W64) (a b : List W64) : (zw g a b).length = min a.length b.length := by simp [zw]
theorem zw_take_succ (g : W64 → W64 → W64) (a b : List W64) (j : Nat) (ha : j < a.length) (hb : j < b.length) : (zw g a b).take (j + 1) = (zw g a b).take j ++ [g a[j] b[j]] := by
  have h : j < (zw g a b).length := by rw [zw_length]; omega
  rw [List.take_succ_eq_append_getElem h]
  simp [zw]
theorem two_l0 (op : Int → Int → Option Int) (g : W64 → W64 → W64) (hop : ∀ x y, op (un x) (un y) = some (un (g x y))) (a b : List W64) (n : Nat) (hn : n = min a.length b.length) (hb : n < 4611686018427387904) (d : Nat) : ∀ (j k : Nat), j + d = n → d + 1 ≤ k →
    two.l0 op k (uns a) (uns b) (uns ((zw g a b).take j) ++ List.replicate d 0) (n : Int) (j : Int) = some (uns (zw g a b)) := by
  induction d with
  | zero =>
    intro j k hj hk
    obtain ⟨m, rfl⟩ : ∃ m, k = m + 1 := ⟨k - 1, by omega⟩
    simp only [two.l0]
    rw [if_neg (by omega)]
    simp only [List.replicate_zero, List.append_nil]
    rw [List.take_of_length_le (by rw [zw_length]; omega)]
  | succ d ih =>
    intro j k hj hk
    obtain ⟨m, rfl⟩ : ∃ m, k = m + 1 := ⟨k - 1, by omega⟩
    simp only [two.l0]
    have h1 : j < a.length := by omega
    have h2 : j < b.length := by omega
    have hl : (uns ((zw g a b).take j)).length = j := by rw [uns_length, List.length_take, zw_length]; omega
    rw [if_pos (by omega), if_pos (by omega), if_pos (by rw [uns_length]; omega), if_pos (by rw [uns_length]; omega), rd_uns a j h1, rd_uns b j h2, hop, Option.bind_some, if_pos (by rw [List.length_append, hl, List.length_replicate]; omega)]
    rw [List.replicate_succ, Int.toNat_natCast, set_at _ _ _ _ _ hl, show [un (g a[j] b[j])] = uns [g a[j] b[j]] from rfl, uns_append, ← zw_take_succ g a b j h1 h2, w64_succ (by omega)]
    exact ih (j + 1) m (by omega) (by omega)
/-- Short enough for Go's memory. -/
def fits (l : List W64) : Prop := l.length ≤ 17592186044404
theorem two_ev (op : Int → Int → Option Int) (g : W64 → W64 → W64) (hop : ∀ x y, op (un x) (un y) = some (un (g x y))) (a b : List W64) (ha : fits a) (hb : fits b) : Ev (fun k => two.f op k (uns a) (uns b)) (uns (zw g a b)) := by
  unfold fits at ha hb
  refine ⟨a.length + 1, fun k hk => ?_⟩
  have key := fun n (hn : n = min a.length b.length) (hk2 : n + 1 ≤ k) => two_l0 op g hop a b n hn (by omega) n 0 k (by omega) hk2
  simp only [List.take_zero] at key
  unfold two.f
  show (if ((uns b).length : Int) < ((uns a).length : Int) then _ else _) = _
  rw [uns_length, uns_length]
  by_cases h : (b.length : Int) < (a.length : Int)
  · rw [if_pos h, if_pos (by omega), if_pos (by omega), Option.bind_some, List.length_replicate, Int.toNat_natCast]
    exact key b.length (by omega) (by omega)
  · rw [if_neg h, if_pos (by omega), if_pos (by omega), Option.bind_some, List.length_replicate, Int.toNat_natCast]
    exact key a.length (by omega) (by omega)
theorem add_ev {a b : List W64} (ha : fits a) (hb : fits b) : Ev (fun k => ring_Add.f k (uns a) (uns b)) (uns (zw (· + ·) a b)) :=
  two_ev ring_Add_1.f (· + ·) (fun x y => by unfold ring_Add_1.f; rw [un_add]) a b ha hb
theorem sub_ev {a b : List W64} (ha : fits a) (hb : fits b) : Ev (fun k => ring_Sub.f k (uns a) (uns b)) (uns (zw (· - ·) a b)) :=
  two_ev ring_Sub_1.f (· - ·) (fun x y => by unfold ring_Sub_1.f; rw [un_sub]) a b ha hb
theorem mul_ev {a b : List W64} (ha : fits a) (hb : fits b) : Ev (fun k => ring_Mul.f k (uns a) (uns b)) (uns (zw (· * ·) a b)) :=
  two_ev ring_Mul_1.f (· * ·) (fun x y => by unfold ring_Mul_1.f; rw [un_mul]) a b ha hb
/-- A row, times a number. -/
def sc (x : W64) (a : List W64) : List W64 := a.map (x * ·)
theorem zw_self (g : W64 → W64) (a : List W64) : zw (fun x _ => g x) a a = a.map g := by
  unfold zw
  induction a with
  | nil => rfl
  | cons x a ih => simp [ih]
theorem scale_ev (x : W64) {a : List W64} (ha : fits a) : Ev (fun k => ring_Scale.f k (un x) (uns a)) (uns (sc x a)) := by
  have := two_ev (fun y _ => some (IntKind.u64.wrap (un x * y))) (fun y _ => x * y) (fun y z => by rw [un_mul]) a a ha ha
  rw [zw_self] at this
  exact this
/-- The sum of all. -/
def sm (a : List W64) : W64 := a.foldl (· + ·) 0#64
theorem foldl_add (a : List W64) (s : W64) : a.foldl (· + ·) s = s + sm a := by
  induction a generalizing s with
  | nil => simp [sm]
  | cons x a ih =>
    unfold sm
    rw [List.foldl_cons, List.foldl_cons, ih, ih (0#64 + x), BitVec.zero_add, BitVec.add_assoc]
theorem sm_nil : sm [] = 0#64 := rfl
theorem sm_cons (x : W64) (a : List W64) : sm (x :: a) = x + sm a := by
  show List.foldl (· + ·) (0#64 + x) a = _
  rw [foldl_add, BitVec.zero_add]
theorem sm_append (a b : List W64) : sm (a ++ b) = sm a + sm b := by
  induction a with
  | nil => rw [List.nil_append, sm_nil, BitVec.zero_add]
  | cons x a ih => rw [List.cons_append, sm_cons, sm_cons, ih, BitVec.add_assoc]
theorem sum_l0 (a : List W64) (hn : a.length < 4611686018427387904) (d : Nat) : ∀ (j k : Nat), j + d = a.length → d + 1 ≤ k →
    ring_Sum.l0 k (un (sm (a.take j))) (uns a) (a.length : Int) (j : Int) = some (un (sm a)) := by
  induction d with
  | zero =>
    intro j k hj hk
    obtain ⟨m, rfl⟩ : ∃ m, k = m + 1 := ⟨k - 1, by omega⟩
    simp only [ring_Sum.l0]
    rw [if_neg (by omega), List.take_of_length_le (by omega)]
  | succ d ih =>
    intro j k hj hk
    obtain ⟨m, rfl⟩ : ∃ m, k = m + 1 := ⟨k - 1, by omega⟩
    simp only [ring_Sum.l0]
    have h1 : j < a.length := by omega
    rw [if_pos (by omega), if_pos (by omega), if_pos (by rw [uns_length]; omega), rd_uns a j h1, un_add, w64_succ (by omega)]
    have h2 : sm (a.take j) + a[j] = sm (a.take (j + 1)) := by
      rw [List.take_succ_eq_append_getElem h1, sm_append, sm_cons, sm_nil, BitVec.add_zero]
    rw [h2]
    exact ih (j + 1) m (by omega) (by omega)
theorem sum_ev {a : List W64} (ha : fits a) : Ev (fun k => ring_Sum.f k (uns a)) (un (sm a)) := by
  unfold fits at ha
  refine ⟨a.length + 1, fun k hk => ?_⟩
  have := sum_l0 a (by omega) a.length 0 k (by omega) (by omega)
  rw [← uns_length] at this
  exact this
theorem dot_l0 (a b : List W64) (n : Nat) (hn : n = min a.length b.length) (hb : n < 4611686018427387904) (d : Nat) : ∀ (j k : Nat), j + d = n → d + 1 ≤ k →
    two_Dot.l0 k (un (sm ((zw (· * ·) a b).take j))) (uns a) (uns b) (List.replicate n 0) (n : Int) (j : Int) = some (un (sm (zw (· * ·) a b))) := by
  induction d with
  | zero =>
    intro j k hj hk
    obtain ⟨m, rfl⟩ : ∃ m, k = m + 1 := ⟨k - 1, by omega⟩
    simp only [two_Dot.l0]
    rw [if_neg (by omega), List.take_of_length_le (by rw [zw_length]; omega)]
  | succ d ih =>
    intro j k hj hk
    obtain ⟨m, rfl⟩ : ∃ m, k = m + 1 := ⟨k - 1, by omega⟩
    simp only [two_Dot.l0]
    have h1 : j < a.length := by omega
    have h2 : j < b.length := by omega
    have hs : (List.replicate n (0 : Int)).set j 0 = List.replicate n 0 := by
      apply List.ext_getElem
      · simp
      · intro i hi hi2
        by_cases e : j = i
        · subst e; simp
        · simp [e]
    rw [if_pos (by omega), if_pos (by omega), if_pos (by rw [uns_length]; omega), if_pos (by rw [uns_length]; omega), if_pos (by rw [List.length_replicate]; omega), rd_uns a j h1, rd_uns b j h2, un_mul, un_add, Int.toNat_natCast, hs, w64_succ (by omega)]
    have h3 : sm ((zw (· * ·) a b).take j) + a[j] * b[j] = sm ((zw (· * ·) a b).take (j + 1)) := by
      rw [zw_take_succ _ a b j h1 h2, sm_append, sm_cons, sm_nil, BitVec.add_zero]
    rw [h3]
    exact ih (j + 1) m (by omega) (by omega)
/-- The sum of products. -/
def dt (a b : List W64) : W64 := sm (zw (· * ·) a b)
theorem dot_ev {a b : List W64} (ha : fits a) (hb : fits b) : Ev (fun k => ring_Dot.f k (uns a) (uns b)) (un (dt a b)) := by
  unfold fits at ha hb
  refine ⟨a.length + 1, fun k hk => ?_⟩
  have key := fun n (hn : n = min a.length b.length) (hk2 : n + 1 ≤ k) => dot_l0 a b n hn (by omega) n 0 k (by omega) hk2
  simp only [List.take_zero, sm_nil] at key
  have h0 : un 0#64 = 0 := rfl
  rw [h0] at key
  unfold ring_Dot.f two_Dot.f
  show (if ((uns b).length : Int) < ((uns a).length : Int) then _ else _) = _
  rw [uns_length, uns_length]
  by_cases h : (b.length : Int) < (a.length : Int)
  · rw [if_pos h, if_pos (by omega), if_pos (by omega), Option.bind_some, List.length_replicate, Int.toNat_natCast]
    exact key b.length (by omega) (by omega)
  · rw [if_neg h, if_pos (by omega), if_pos (by omega), Option.bind_some, List.length_replicate, Int.toNat_natCast]
    exact key a.length (by omega) (by omega)
/-! ### Alike -/
theorem same_l0 (a b : List Int) (hl : a.length = b.length) (hn : a.length < 4611686018427387904) (d : Nat) : ∀ (j k : Nat), j + d = a.length → d + 1 ≤ k →
    symbolonref01_Same.l0 k a b (j : Int) = some (decide (a.drop j = b.drop j)) := by
  induction d with
  | zero =>
    intro j k hj hk
    obtain ⟨m, rfl⟩ : ∃ m, k = m + 1 := ⟨k - 1, by omega⟩
    simp only [symbolonref01_Same.l0]
    rw [if_neg (by omega), List.drop_of_length_le (by omega), List.drop_of_length_le (by omega)]
    rfl
  | succ d ih =>
    intro j k hj hk
    obtain ⟨m, rfl⟩ : ∃ m, k = m + 1 := ⟨k - 1, by omega⟩
    simp only [symbolonref01_Same.l0]
    have ha : j < a.length := by omega
    have hb : j < b.length := by omega
    rw [if_pos (by omega), if_pos (by omega), if_pos (by omega)]
    have ra : rd a (j : Int) = a[j] := by unfold rd; rw [Int.toNat_natCast, List.getD_eq_getElem?_getD, List.getElem?_eq_getElem ha]; rfl
    have rb : rd b (j : Int) = b[j] := by unfold rd; rw [Int.toNat_natCast, List.getD_eq_getElem?_getD, List.getElem?_eq_getElem hb]; rfl
    rw [ra, rb, w64_succ (by omega), ih (j + 1) m (by omega) (by omega)]
    have hd : (a.drop j = b.drop j) = (a[j] = b[j] ∧ a.drop (j + 1) = b.drop (j + 1)) := by
      rw [List.drop_eq_getElem_cons ha, List.drop_eq_getElem_cons hb, List.cons.injEq]
    by_cases h : a[j] = b[j]
    · rw [if_pos h]
      congr 1
      rw [decide_eq_decide, hd]
      exact ⟨fun h2 => ⟨h, h2⟩, fun h2 => h2.2⟩
    · rw [if_neg h]
      congr 1
      exact (decide_eq_false (by rw [hd]; exact fun h2 => h h2.1)).symm
theorem same_ev (a b : List Int) (hn : a.length < 4611686018427387904) : Ev (fun k => symbolonref01_Same.f k a b) (decide (a = b)) := by
  by_cases hl : a.length = b.length
  · refine ⟨a.length + 1, fun k hk => ?_⟩
    unfold symbolonref01_Same.f
    show (if (a.length : Int) = (b.length : Int) then _ else _) = _
    rw [if_pos (by omega)]
    exact same_l0 a b hl hn a.length 0 k (by omega) (by omega)
  · refine ⟨0, fun k hk => ?_⟩
    unfold symbolonref01_Same.f
    show (if (a.length : Int) = (b.length : Int) then _ else _) = _
    rw [if_neg (by omega)]
    have : ¬ a = b := fun h => hl (by rw [h])
    simp [this]
/-- Rows that are the same are alike. -/
theorem same_eq {a b : List W64} (h : a = b) (hn : fits a) : Ev (fun k => symbolonref01_Same.f k (uns a) (uns b)) true := by
  subst h
  unfold fits at hn
  have := same_ev (uns a) (uns a) (by rw [uns_length]; omega)
  simpa using this
theorem head_ev : Ev (fun k => symbolonlaw01_head.f k) true := Ev.of (fun k => symbolonlaw01_head.mono k) (k := 10) (by decide +kernel)
theorem fits_zw {g : W64 → W64 → W64} {a b : List W64} (h : fits a) : fits (zw g a b) := by unfold fits at *; rw [zw_length]; omega
theorem fits_take {a : List W64} (n : Nat) (h : fits a) : fits (a.take n) := by unfold fits at *; rw [List.length_take]; omega
theorem fits_drop {a : List W64} (n : Nat) (h : fits a) : fits (a.drop n) := by unfold fits at *; rw [List.length_drop]; omega
theorem fits_sc {x : W64} {a : List W64} (h : fits a) : fits (sc x a) := by unfold fits sc at *; rw [List.length_map]; exact h
theorem fits_of {l : List Int} {L : List W64} (h : l.length * 8 ≤ 140737488351232) (e : l = uns L) : fits L := by subst e; unfold fits; rw [uns_length] at h; omega
end Go.Proofs.Ytifehkjcccjccaa.RingBase
