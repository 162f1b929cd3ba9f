/- Shares: rows of words, masks out of a stream, and what the functions of chapter 10 come to. -/
import Derived.Test.YtifehkjcccjccaaU64
import Derived.Test.YtifehkjcccjccaaPShx0
import Derived.Test.YtifehkjcccjccaaPShx12
import Derived.Test.YtifehkjcccjccaaPShx12
import Derived.Test.YtifehkjcccjccaaPShx6
import Derived.Test.YtifehkjcccjccaaPShx11
import Derived.Test.YtifehkjcccjccaaPShx9
import Derived.Test.YtifehkjcccjccaaPShx14
import Derived.Test.YtifehkjcccjccaaPShx15
import Derived.Test.YtifehkjcccjccaaPShx16
import Derived.Test.YtifehkjcccjccaaPShx15
import Derived.Test.YtifehkjcccjccaaPShx13
import Derived.Test.YtifehkjcccjccaaPShx16
import Derived.Test.YtifehkjcccjccaaPShx14
set_option linter.unusedSimpArgs false
namespace Go.Proofs.Ytifehkjcccjccaa.ShareBase
open Go Go.RowKit Go.Proofs.Ytifehkjcccjccaa.PSh Go.Proofs.YtifehkjcccjccaaW.PrintWords Go.Proofs.YtifehkjcccjccaaW.PrintLast Go.Proofs.YtifehkjcccjccaaW.PrintMore Go.Proofs.Ytifehkjcccjccaa.U64
abbrev W64 := BitVec 64
def uns (l : List W64) : List Int := l.map un
theorem uns_of {l : List Int} (h : ∀ x ∈ l, (Lit.int .u64 x).wf = true) : ∃ L : List W64, l = uns L := by
  induction l with
  | nil => exact ⟨[], rfl⟩
  | cons a l ih =>
    obtain ⟨x, rfl⟩ := un_of (h a List.mem_cons_self)
    obtain ⟨L, rfl⟩ := ih (fun y hy => h y (List.mem_cons_of_mem _ hy))
    exact ⟨x :: L, rfl⟩
theorem uns_length (l : List W64) : (uns l).length = l.length := by simp [uns]
theorem uns_take (l : List W64) (n : Nat) : (uns l).take n = uns (l.take n) := by simp [uns, List.map_take]
theorem uns_drop (l : List W64) (n : Nat) : (uns l).drop n = uns (l.drop n) := by simp [uns, List.map_drop]
theorem uns_append (a b : List W64) : uns a ++ uns b = uns (a ++ b) := by simp [uns]
theorem rd_uns (l : List W64) (j : Nat) (h : j < l.length) : rd (uns l) (j : Int) = un l[j] := by
  unfold rd uns
  rw [Int.toNat_natCast, List.getD_eq_getElem?_getD, List.getElem?_map, List.getElem?_eq_getElem h]
  rfl
theorem w64_succ {n : Nat} (h : n < 4611686018427387904) : wrap64 ((n : Int) + 1) = ((n + 1 : Nat) : Int) := by unfold wrap64; omega
theorem set_at {α : Type} (l : List α) (x y : α) (r : List α) (n : Nat) (h : l.length = n) : (l ++ x :: r).set n y = l ++ [y] ++ r := by
  subst h
  simp
/-- Number by number. -/
def zw (g : W64 → W64 → W64) (a b : List W64) : List W64 := List.zipWith g a b
theorem zw_length (g : W64 → W64 → W64) (a b : List W64) : (zw g a b).length = min a.length b.length := by simp [zw]
theorem zw_take_succ (g : W64 → W64 → W64) (a b : List W64) (j : Nat) (ha : j < a.length) (hb : j < b.length) : (zw g a b).take (j + 1) = (zw g a b).take j ++ [g a[j] b[j]] := by
  have h : j < (zw g a b).length := by rw [zw_length]; omega
  rw [List.take_succ_eq_append_getElem h]
  simp [zw]
theorem two_l0 (op : Int → Int → Option Int) (g : W64 → W64 → W64) (hop : ∀ x y, op (un x) (un y) = some (un (g x y))) (a b : List W64) (n : Nat) (hn : n = min a.length b.length) (hb : n < 4611686018427387904) (d : Nat) : ∀ (j k : Nat), j + d = n → d + 1 ≤ k →
    two.l0 op k (uns a) (uns b) (uns ((zw g a b).take j) ++ List.replicate d 0) (n : Int) (j : Int) = some (uns (zw g a b)) := by
  induction d with
  | zero =>
    intro j k hj hk
    obtain ⟨m, rfl⟩ : ∃ m, k = m + 1 := ⟨k - 1, by omega⟩
    simp only [two.l0]
    rw [if_neg (by omega)]
    simp only [List.replicate_zero, List.append_nil]
    rw [List.take_of_length_le (by rw [zw_length]; omega)]
  | succ d ih =>
    intro j k hj hk
    obtain ⟨m, rfl⟩ : ∃ m, k = m + 1 := ⟨k - 1, by omega⟩
    simp only [two.l0]
    have h1 : j < a.length := by omega
    have h2 : j < b.length := by omega
    have hl : (uns ((zw g a b).take j)).length = j := by rw [uns_length, List.length_take, zw_length]; omega
    rw [if_pos (by omega), if_pos (by omega), if_pos (by rw [uns_length]; omega), if_pos (by rw [uns_length]; omega), rd_uns a j h1, rd_uns b j h2, hop, Option.bind_some, if_pos (by rw [List.length_append, hl, List.length_replicate]; omega)]
    rw [List.replicate_succ, Int.toNat_natCast, set_at _ _ _ _ _ hl, show [un (g a[j] b[j])] = uns [g a[j] b[j]] from rfl, uns_append, ← zw_take_succ g a b j h1 h2, w64_succ (by omega)]
    exact ih (j + 1) m (by omega) (by omega)
/-- Short enough for Go's memory. -/
def fits (l : List W64) : Prop := l.length ≤ 17592186044404
theorem two_ev (op : Int → Int → Option Int) (g : W64 → W64 → W64) (hop : ∀ x y, op (un x) (un y) = some (un (g x y))) (a b : List W64) (ha : fits a) (hb : fits b) : Ev (fun k => two.f op k (uns a) (uns b)) (uns (zw g a b)) := by
  unfold fits at ha hb
  refine ⟨a.length + 1, fun k hk => ?_⟩
  have key := fun n (hn : n = min a.length b.length) (hk2 : n + 1 ≤ k) => two_l0 op g hop a b n hn (by omega) n 0 k (by omega) hk2
  simp only [List.take_zero] at key
  unfold two.f
  show (if ((uns b).length : Int) < ((uns a).length : Int) then _ else _) = _
  rw [uns_length, uns_length]
  by_cases h : (b.length : Int) < (a.length : Int)
  · rw [if_pos h, if_pos (by omega), if_pos (by omega), Option.bind_some, List.length_replicate, Int.toNat_natCast]
    exact key b.length (by omega) (by omega)
  · rw [if_neg h, if_pos (by omega), if_pos (by omega), Option.bind_some, List.length_replicate, Int.toNat_natCast]
    exact key a.length (by omega) (by omega)
theorem add_ev {a b : List W64} (ha : fits a) (hb : fits b) : Ev (fun k => ring_Add.f k (uns a) (uns b)) (uns (zw (· + ·) a b)) :=
  two_ev ring_Add_1.f (· + ·) (fun x y => by unfold ring_Add_1.f; rw [un_add]) a b ha hb
theorem sub_ev {a b : List W64} (ha : fits a) (hb : fits b) : Ev (fun k => ring_Sub.f k (uns a) (uns b)) (uns (zw (· - ·) a b)) :=
  two_ev ring_Sub_1.f (· - ·) (fun x y => by unfold ring_Sub_1.f; rw [un_sub]) a b ha hb
/-- A row, times a number. -/
def sc (x : W64) (a : List W64) : List W64 := a.map (x * ·)
theorem zw_self (g : W64 → W64) (a : List W64) : zw (fun x _ => g x) a a = a.map g := by
  unfold zw
  induction a with
  | nil => rfl
  | cons x a ih => simp [ih]
/-! ### Alike -/
theorem same_l0 (a b : List Int) (hl : a.length = b.length) (hn : a.length < 4611686018427387904) (d : Nat) : ∀ (j k : Nat), j + d = a.length → d + 1 ≤ k →
    symbolonref01_Same.l0 k a b (j : Int) = some (decide (a.drop j = b.drop j)) := by
  induction d with
  | zero =>
    intro j k hj hk
    obtain ⟨m, rfl⟩ : ∃ m, k = m + 1 := ⟨k - 1, by omega⟩
    simp only [symbolonref01_Same.l0]
    rw [if_neg (by omega), List.drop_of_length_le (by omega), List.drop_of_length_le (by omega)]
    rfl
  | succ d ih =>
    intro j k hj hk
    obtain ⟨m, rfl⟩ : ∃ m, k = m + 1 := ⟨k - 1, by omega⟩
    simp only [symbolonref01_Same.l0]
    have ha : j < a.length := by omega
    have hb : j < b.length := by omega
    rw [if_pos (by omega), if_pos (by omega), if_pos (by omega)]
    have ra : rd a (j : Int) = a[j] := by unfold rd; rw [Int.toNat_natCast, List.getD_eq_getElem?_getD, List.getElem?_eq_getElem ha]; rfl
    have rb : rd b (j : Int) = b[j] := by unfold rd; rw [Int.toNat_natCast, List.getD_eq_getElem?_getD, List.getElem?_eq_getElem hb]; rfl
    rw [ra, rb, w64_succ (by omega), ih (j + 1) m (by omega) (by omega)]
    have hd : (a.drop j = b.drop j) = (a[j] = b[j] ∧ a.drop (j + 1) = b.drop (j + 1)) := by
      rw [List.drop_eq_getElem_cons ha, List.drop_eq_getElem_cons hb, List.cons.injEq]
    by_cases h : a[j] = b[j]
    · rw [if_pos h]
      congr 1
      rw [decide_eq_decide, hd]
      exact ⟨fun h2 => ⟨h, h2⟩, fun h2 => h2.2⟩
    · rw [if_neg h]
      congr 1
      exact (decide_eq_false (by rw [hd]; exact fun h2 => h h2.1)).symm
theorem same_ev (a b : List Int) (hn : a.length < 4611686018427387904) : Ev (fun k => symbolonref01_Same.f k a b) (decide (a = b)) := by
  by_cases hl : a.length = b.length
  · refine ⟨a.length + 1, fun k hk => ?_⟩
    unfold symbolonref01_Same.f
    show (if (a.length : Int) = (b.length : Int) then _ else _) = _
    rw [if_pos (by omega)]
    exact same_l0 a b hl hn a.length 0 k (by omega) (by omega)
  · refine ⟨0, fun k hk => ?_⟩
    unfold symbolonref01_Same.f
    show (if (a.length : Int) = (b.length : Int) then _ else _) = _
    rw [if_neg (by omega)]
    have : ¬ a = b := fun h => hl (by rw [h])
    simp [this]
/-- Rows that are the same are alike. -/
theorem same_eq {a b : List W64} (h : a = b) (hn : fits a) : Ev (fun k => symbolonref01_Same.f k (uns a) (uns b)) true := by
  subst h
  unfold fits at hn
  have := same_ev (uns a) (uns a) (by rw [uns_length]; omega)
  simpa using this
theorem fits_zw {g : W64 → W64 → W64} {a b : List W64} (h : fits a) : fits (zw g a b) := by unfold fits at *; rw [zw_length]; omega
theorem fits_take {a : List W64} (n : Nat) (h : fits a) : fits (a.take n) := by unfold fits at *; rw [List.length_take]; omega
theorem fits_drop {a : List W64} (n : Nat) (h : fits a) : fits (a.drop n) := by unfold fits at *; rw [List.length_drop]; omega
theorem fits_sc {x : W64} {a : List W64} (h : fits a) : fits (sc x a) := by unfold fits sc at *; rw [List.length_map]; exact h
theorem fits_of {l : List Int} {L : List W64} (h : l.length * 8 ≤ 140737488351232) (e : l = uns L) : fits L := by subst e; unfold fits; rw [uns_length] at h; omega
theorem zw_nil_left (g : W64 → W64 → W64) (b : List W64) : zw g [] b = [] := by simp [zw]
theorem zw_nil_right (g : W64 → W64 → W64) (a : List W64) : zw g a [] = [] := by cases a <;> simp [zw]
theorem zw_cons (g : W64 → W64 → W64) (x y : W64) (a b : List W64) : zw g (x :: a) (y :: b) = g x y :: zw g a b := by simp [zw]
theorem zw_comm (g : W64 → W64 → W64) (h : ∀ x y, g x y = g y x) (a b : List W64) : zw g a b = zw g b a := by
  induction a generalizing b with
  | nil => rw [zw_nil_left, zw_nil_right]
  | cons x a ih =>
    cases b with
    | nil => rw [zw_nil_left, zw_nil_right]
    | cons y b => rw [zw_cons, zw_cons, h, ih]
theorem add_sub (x y : W64) : x + y - y = x := BitVec.add_sub_cancel x y
theorem sub_add (x y : W64) : x - y + y = x := BitVec.sub_add_cancel x y
theorem mn_nat (a b : Nat) : mn (a : Int) (b : Int) = ((min a b : Nat) : Int) := by unfold mn; split <;> omega
theorem ev_succ {α : Type} {g : Nat → Option α} {r : α} (h : Ev (fun k => g (k + 1)) r) : Ev g r := Ev.step (fun _ => rfl) h
theorem ref_l0 (g : W64 → W64 → W64) (f : Nat → List Int → List Int → List Int → Int → Option (List Int)) (op : Int → Int → Int) (hop : ∀ x y, op (un x) (un y) = un (g x y))
    (hf : ∀ k x0 x1 x5 x6, f (k + 1) x0 x1 x5 x6 = if x6 < (mn (x0.length : Int) (x1.length : Int)) then (if 0 ≤ x6 then (if x6 < (x0.length : Int) then (if x6 < (x1.length : Int) then (if x5.length < 17592186044416 then (f k x0 x1 (x5 ++ [op (rd x0 x6) (rd x1 x6)]) (wrap64 (x6 + 1))) else (none)) else (none)) else (none)) else (none)) else (some x5))
    (a b : List W64) (fa : fits a) (d : Nat) : ∀ (j k : Nat), j + d = min a.length b.length → d + 1 ≤ k → f k (uns a) (uns b) (uns ((zw g a b).take j)) (j : Int) = some (uns (zw g a b)) := by
  unfold fits at fa
  induction d with
  | zero =>
    intro j k hj hk
    obtain ⟨m, rfl⟩ : ∃ m, k = m + 1 := ⟨k - 1, by omega⟩
    rw [hf, uns_length, uns_length, mn_nat, if_neg (by omega), List.take_of_length_le (by rw [zw_length]; omega)]
  | succ d ih =>
    intro j k hj hk
    obtain ⟨m, rfl⟩ : ∃ m, k = m + 1 := ⟨k - 1, by omega⟩
    have h1 : j < a.length := by omega
    have h2 : j < b.length := by omega
    rw [hf, uns_length, uns_length, mn_nat, if_pos (by omega), if_pos (by omega), if_pos (by omega), if_pos (by omega), if_pos (by rw [uns_length, List.length_take]; omega), rd_uns a j h1, rd_uns b j h2, hop, show [un (g a[j] b[j])] = uns [g a[j] b[j]] from rfl, uns_append, ← zw_take_succ g a b j h1 h2, w64_succ (by omega)]
    exact ih (j + 1) m (by omega) (by omega)
theorem ref_add_ev {a b : List W64} (fa : fits a) : Ev (fun k => symbolonref01_Add.f k (uns a) (uns b)) (uns (zw (· + ·) a b)) :=
  ⟨a.length + 1, fun k hk => ref_l0 (· + ·) symbolonref01_Add.l0 (fun x y => IntKind.u64.wrap (x + y)) un_add (fun _ _ _ _ _ => by simp only [symbolonref01_Add.l0]) a b fa (min a.length b.length) 0 k (by omega) (by omega)⟩
theorem ref_sub_ev {a b : List W64} (fa : fits a) : Ev (fun k => symbolonref01_Sub.f k (uns a) (uns b)) (uns (zw (· - ·) a b)) :=
  ⟨a.length + 1, fun k hk => ref_l0 (· - ·) symbolonref01_Sub.l0 (fun x y => IntKind.u64.wrap (x - y)) un_sub (fun _ _ _ _ _ => by simp only [symbolonref01_Sub.l0]) a b fa (min a.length b.length) 0 k (by omega) (by omega)⟩
theorem sc_take_succ (x : W64) (a : List W64) (j : Nat) (h : j < a.length) : (sc x a).take (j + 1) = (sc x a).take j ++ [x * a[j]] := by
  have h2 : j < (sc x a).length := by unfold sc; rw [List.length_map]; exact h
  rw [List.take_succ_eq_append_getElem h2]
  simp [sc]
theorem ref_scale_l0 (x : W64) (a : List W64) (fa : fits a) (d : Nat) : ∀ (j k : Nat), j + d = a.length → d + 1 ≤ k → symbolonref01_Scale.l0 k (un x) (uns a) (uns ((sc x a).take j)) (j : Int) = some (uns (sc x a)) := by
  unfold fits at fa
  induction d with
  | zero =>
    intro j k hj hk
    obtain ⟨m, rfl⟩ : ∃ m, k = m + 1 := ⟨k - 1, by omega⟩
    simp only [symbolonref01_Scale.l0]
    rw [uns_length, if_neg (by omega), List.take_of_length_le (by unfold sc; rw [List.length_map]; omega)]
  | succ d ih =>
    intro j k hj hk
    obtain ⟨m, rfl⟩ : ∃ m, k = m + 1 := ⟨k - 1, by omega⟩
    have h1 : j < a.length := by omega
    simp only [symbolonref01_Scale.l0]
    rw [uns_length, if_pos (by omega), if_pos (by omega), if_pos (by rw [uns_length, List.length_take]; omega), rd_uns a j h1, un_mul, show [un (x * a[j])] = uns [x * a[j]] from rfl, uns_append, ← sc_take_succ x a j h1, w64_succ (by omega)]
    exact ih (j + 1) m (by omega) (by omega)
theorem ref_scale_ev (x : W64) {a : List W64} (fa : fits a) : Ev (fun k => symbolonref01_Scale.f k (un x) (uns a)) (uns (sc x a)) :=
  ⟨a.length + 1, fun k hk => ref_scale_l0 x a fa a.length 0 k (by omega) (by omega)⟩
def c1 : BitVec 64 := 11400714819323198485#64
def c2 : BitVec 64 := 13787848793156543929#64
def c3 : BitVec 64 := 10723151780598845931#64
def i1 : BitVec 64 := 17428512612931826493#64
def i2 : BitVec 64 := 10871156337175269513#64
def i3 : BitVec 64 := 3573116690164977347#64
/-- The number at a place of a seed's stream. -/
def nb (s i : BitVec 64) : BitVec 64 := sh 31 (c3 * sh 27 (c2 * sh 30 (s + c1 * (i + 1#64))))
theorem fold_one (k : Nat) (z : BitVec 64) (b : Nat) (hb : b ≤ 64) : stream_fold.f (k + 2) (un z) (b : Int) 1 = some (un (sh b z)) := by
  simp only [stream_fold.f, stream_fold.l0]
  rw [if_pos (by decide), if_pos (by omega), if_neg (by unfold wrap64; omega), un_shr z b hb, un_xor]
  rfl
theorem number_at (k : Nat) (s i : BitVec 64) : stream_Number.f (k + 2) (un s) (un i) = some (un (nb s i)) := by
  unfold stream_Number.f
  rw [show IntKind.u64.wrap (un i + 1) = un (i + 1#64) from un_add i 1#64, show IntKind.u64.wrap (11400714819323198485 * un (i + 1#64)) = un (c1 * (i + 1#64)) from un_mul c1 _, un_add]
  rw [show stream_fold.f (k + 2) (un (s + c1 * (i + 1#64))) 30 1 = _ from fold_one k _ 30 (by decide)]
  simp only [Option.bind_some]
  rw [show IntKind.u64.wrap (13787848793156543929 * un (sh 30 (s + c1 * (i + 1#64)))) = _ from un_mul c2 _]
  rw [show stream_fold.f (k + 2) (un (c2 * sh 30 (s + c1 * (i + 1#64)))) 27 1 = _ from fold_one k _ 27 (by decide)]
  simp only [Option.bind_some]
  rw [show IntKind.u64.wrap (10723151780598845931 * un (sh 27 (c2 * sh 30 (s + c1 * (i + 1#64))))) = _ from un_mul c3 _]
  rw [show stream_fold.f (k + 2) (un (c3 * sh 27 (c2 * sh 30 (s + c1 * (i + 1#64))))) 31 1 = _ from fold_one k _ 31 (by decide)]
  rfl
theorem number_ev (s i : BitVec 64) : Ev (fun k => stream_Number.f k (un s) (un i)) (un (nb s i)) :=
  ⟨2, fun k hk => by obtain ⟨m, rfl⟩ : ∃ m, k = m + 2 := ⟨k - 2, by omega⟩; exact number_at m s i⟩
/-! ### Rows -/
def rowL (s f : BitVec 64) (n : Nat) : List Int := (List.range n).map fun j => un (nb s (f + BitVec.ofNat 64 j))
theorem rowL_succ (s f : BitVec 64) (n : Nat) : rowL s f (n + 1) = rowL s f n ++ [un (nb s (f + BitVec.ofNat 64 n))] := by
  unfold rowL
  rw [List.range_succ, List.map_append]
  rfl
theorem rowL_length (s f : BitVec 64) (n : Nat) : (rowL s f n).length = n := by simp [rowL]
theorem rowL_add (s f : BitVec 64) (m n : Nat) : rowL s f (m + n) = rowL s f m ++ rowL s (f + BitVec.ofNat 64 m) n := by
  unfold rowL
  rw [List.range_add, List.map_append, List.map_map]
  congr 1
  apply List.map_congr_left
  intro j _
  simp only [Function.comp]
  rw [BitVec.add_assoc, BitVec.ofNat_add]
theorem wrap_nat (n : Nat) : IntKind.u64.wrap (n : Int) = un (BitVec.ofNat 64 n) := by rw [wrap_un, BitVec.ofInt_natCast]
theorem row_l0 (s f : BitVec 64) (n : Nat) (hn : n ≤ 4096) (d : Nat) : ∀ (j k : Nat), j + d = n → d + 3 ≤ k →
    stream_Row.l0 k (un s) (un f) (rowL s f j ++ List.replicate d 0) (n : Int) (j : Int) = some (rowL s f n) := by
  induction d with
  | zero =>
    intro j k hj hk
    obtain ⟨m, rfl⟩ : ∃ m, k = m + 3 := ⟨k - 3, by omega⟩
    simp only [stream_Row.l0]
    rw [if_neg (by omega)]
    simp only [List.replicate_zero, List.append_nil]
    rw [show j = n by omega]
  | succ d ih =>
    intro j k hj hk
    obtain ⟨m, rfl⟩ : ∃ m, k = m + 3 := ⟨k - 3, by omega⟩
    simp only [stream_Row.l0]
    rw [if_pos (by omega), wrap_nat, un_add, number_at, Option.bind_some, if_pos (by omega), if_pos (by simp [rowL_length]; omega)]
    rw [List.replicate_succ, set_at _ _ _ _ _ (by rw [rowL_length]; omega), ← rowL_succ, w64_succ (by omega)]
    exact ih (j + 1) (m + 2) (by omega) (by omega)
theorem row_ev (s f : BitVec 64) (n : Nat) (h1 : 1 ≤ n) (hn : n ≤ 4096) : Ev (fun k => stream_Row.f k (un s) (un f) (n : Int)) (rowL s f n) := by
  refine ⟨n + 4, fun k hk => ?_⟩
  obtain ⟨m, rfl⟩ : ∃ m, k = m + 1 := ⟨k - 1, by omega⟩
  unfold stream_Row.f
  show (if (n : Int) < 1 then _ else _) = _
  rw [if_neg (by omega)]
  simp only [stream_Row.j0]
  rw [if_neg (by simp; omega), if_pos (by omega), if_pos (by omega)]
  simp only [Option.bind_some]
  have := row_l0 s f n hn n 0 m (by omega) (by omega)
  simpa [rowL] using this
theorem row_none_ev (s f : BitVec 64) (n : Int) (h : n < 1 ∨ 4096 < n) : Ev (fun k => stream_Row.f k (un s) (un f) n) [] := by
  refine ⟨1, fun k hk => ?_⟩
  obtain ⟨m, rfl⟩ : ∃ m, k = m + 1 := ⟨k - 1, by omega⟩
  unfold stream_Row.f
  show (if n < 1 then _ else _) = _
  by_cases h1 : n < 1
  · rw [if_pos h1]
    simp only [stream_Row.j0]
    rfl
  · rw [if_neg h1, decide_eq_true (show n > 4096 by omega)]
    simp only [stream_Row.j0]
    rfl
/-- The row of so many, whatever the number. -/
def rowI (s f : BitVec 64) (n : Int) : List Int := if n < 1 ∨ 4096 < n then [] else rowL s f n.toNat
theorem row_any (s f : BitVec 64) (n : Int) : Ev (fun k => stream_Row.f k (un s) (un f) n) (rowI s f n) := by
  unfold rowI
  split
  · rename_i h
    exact row_none_ev s f n h
  · rename_i h
    have := row_ev s f n.toNat (by omega) (by omega)
    rwa [show ((n.toNat : Nat) : Int) = n by omega] at this
theorem rowI_le (s f : BitVec 64) (n : Nat) (h : n ≤ 4096) : rowI s f (n : Int) = rowL s f n := by
  unfold rowI
  by_cases h0 : n = 0
  · subst h0
    rfl
  · rw [if_neg (by omega), Int.toNat_natCast]
theorem rowI_length_le (s f : BitVec 64) (n : Int) : (rowI s f n).length ≤ 4096 := by
  unfold rowI
  split
  · simp
  · rw [rowL_length]; omega
theorem ref_shift (z : BitVec 64) (b : Nat) (hb : b ≤ 64) : symbolonref09_shift.f (un z) (b : Int) = some (un (sh b z)) := by
  unfold symbolonref09_shift.f
  rw [if_pos (by omega), un_shr z b hb, un_xor]
  rfl
theorem lit_c1 : (11400714819323198485 : Int) = un c1 := by decide +kernel
theorem lit_c2 : (13787848793156543929 : Int) = un c2 := by decide +kernel
theorem lit_c3 : (10723151780598845931 : Int) = un c3 := by decide +kernel
theorem lit_one : (1 : Int) = un 1#64 := by decide +kernel
theorem ref_number (s i : BitVec 64) : symbolonref09_Number.f (un s) (un i) = some (un (nb s i)) := by
  unfold symbolonref09_Number.f
  rw [lit_c1, lit_c2, lit_c3, lit_one, un_add, un_mul, un_add]
  rw [show symbolonref09_shift.f (un (s + (i + 1#64) * c1)) 30 = some (un (sh 30 (s + (i + 1#64) * c1))) from ref_shift _ 30 (by decide)]
  rw [Option.bind_some, un_mul]
  rw [show symbolonref09_shift.f (un (sh 30 (s + (i + 1#64) * c1) * c2)) 27 = some (un (sh 27 (sh 30 (s + (i + 1#64) * c1) * c2))) from ref_shift _ 27 (by decide)]
  rw [Option.bind_some, un_mul]
  rw [show symbolonref09_shift.f (un (sh 27 (sh 30 (s + (i + 1#64) * c1) * c2) * c3)) 31 = some (un (sh 31 (sh 27 (sh 30 (s + (i + 1#64) * c1) * c2) * c3))) from ref_shift _ 31 (by decide)]
  rw [Option.bind_some]
  unfold nb
  rw [BitVec.mul_comm c1, BitVec.mul_comm c2, BitVec.mul_comm c3]
theorem ref_row_l0 (s f : BitVec 64) (n : Nat) (hn : n ≤ 4096) (d : Nat) : ∀ (j k : Nat), j + d = n → d + 1 ≤ k →
    symbolonref09_Row.l0 k (un s) (un f) (n : Int) (rowL s f j) (j : Int) = some (rowL s f n) := by
  induction d with
  | zero =>
    intro j k hj hk
    obtain ⟨m, rfl⟩ : ∃ m, k = m + 1 := ⟨k - 1, by omega⟩
    simp only [symbolonref09_Row.l0]
    rw [if_neg (by omega), show j = n by omega]
  | succ d ih =>
    intro j k hj hk
    obtain ⟨m, rfl⟩ : ∃ m, k = m + 1 := ⟨k - 1, by omega⟩
    simp only [symbolonref09_Row.l0]
    rw [if_pos (by omega), if_pos (by omega), wrap_nat, un_add, ref_number, Option.bind_some, if_pos (by rw [rowL_length]; omega), ← rowL_succ, w64_succ (by omega)]
    exact ih (j + 1) m (by omega) (by omega)
theorem ref_row_ev (s f : BitVec 64) (n : Int) : Ev (fun k => symbolonref09_Row.f k (un s) (un f) n) (rowI s f n) := by
  unfold rowI
  by_cases h : n < 1 ∨ 4096 < n
  · rw [if_pos h]
    refine ⟨1, fun k hk => ?_⟩
    obtain ⟨m, rfl⟩ : ∃ m, k = m + 1 := ⟨k - 1, by omega⟩
    unfold symbolonref09_Row.f
    simp only [symbolonref09_Row.l0]
    by_cases h1 : 0 < n
    · rw [if_pos h1, if_neg (by omega)]
    · rw [if_neg h1]
  · rw [if_neg h]
    refine ⟨n.toNat + 1, fun k hk => ?_⟩
    have := ref_row_l0 s f n.toNat (by omega) n.toNat 0 k (by omega) (by omega)
    rw [show ((n.toNat : Nat) : Int) = n by omega] at this
    exact this
/-! ### Shares -/
/-- The masks of a row. -/
def ms (s : W64) (n : Nat) : List W64 := (List.range n).map fun j => nb s (0#64 + BitVec.ofNat 64 j)
theorem ms_length (s : W64) (n : Nat) : (ms s n).length = n := by simp [ms]
theorem rowI_ms (s : W64) (n : Nat) (h : n ≤ 4096) : rowI s 0#64 (n : Int) = uns (ms s n) := by
  rw [rowI_le s _ n h]
  simp [rowL, uns, ms]
theorem fits_le {a : List W64} {n : Nat} (h : a.length = n) (h2 : n ≤ 4096) : fits a := by unfold fits; omega
theorem zero_un : (0 : Int) = un 0#64 := by decide +kernel
theorem split_ev (s : W64) {x : List W64} (h : x.length ≤ 4096) : Ev (fun k => share_Split.f k (un s) (uns x)) (uns (ms s x.length), uns (zw (· - ·) x (ms s x.length))) := by
  unfold share_Split.f
  have c : ¬ (((uns x).length : Int) > 4096) := by rw [uns_length]; omega
  simp only [if_neg c]
  rw [uns_length]
  have := row_any s 0#64 (x.length : Int)
  rw [rowI_ms s _ h, ← zero_un] at this
  exact Ev.bind this (Ev.bind (sub_ev (fits_le rfl h) (fits_le (ms_length s _) h)) (Ev.now _))
theorem split_none_ev (s : Int) {x : List W64} (h : 4096 < x.length) : Ev (fun k => share_Split.f k s (uns x)) ([], []) := by
  unfold share_Split.f
  have c : ((uns x).length : Int) > 4096 := by rw [uns_length]; omega
  simp only [if_pos c]
  exact Ev.now _
theorem ref_split_ev (s : W64) {x : List W64} (h : x.length ≤ 4096) : Ev (fun k => symbolonref10_Split.f k (un s) (uns x)) (uns (ms s x.length), uns (zw (· - ·) x (ms s x.length))) := by
  unfold symbolonref10_Split.f
  have c : ¬ (((uns x).length : Int) > 4096) := by rw [uns_length]; omega
  simp only [if_neg c]
  rw [uns_length]
  have := ref_row_ev s 0#64 (x.length : Int)
  rw [rowI_ms s _ h, ← zero_un] at this
  exact Ev.bind this (Ev.bind (ref_sub_ev (fits_le rfl h)) (Ev.now _))
theorem ref_split_none_ev (s : Int) {x : List W64} (h : 4096 < x.length) : Ev (fun k => symbolonref10_Split.f k s (uns x)) ([], []) := by
  unfold symbolonref10_Split.f
  have c : ((uns x).length : Int) > 4096 := by rw [uns_length]; omega
  simp only [if_pos c]
  exact Ev.now _
theorem join_ev {a b : List W64} (ha : fits a) (hb : fits b) : Ev (fun k => share_Join.f k (uns a) (uns b)) (uns (zw (· + ·) a b)) := by
  unfold share_Join.f
  exact Ev.bind (add_ev ha hb) (Ev.now _)
theorem ref_join_ev {a b : List W64} (ha : fits a) : Ev (fun k => symbolonref10_Join.f k (uns a) (uns b)) (uns (zw (· + ·) a b)) := by
  unfold symbolonref10_Join.f
  exact Ev.bind (ref_add_ev ha) (Ev.now _)
/-- A party's part of what both know. -/
def prt (who : Int) (x : List W64) : List W64 := if who = 0 then x else List.replicate x.length 0#64
theorem turned_l0 (op : Int → Option Int) (g : W64 → W64) (hop : ∀ x, op (un x) = some (un (g x))) (a : List W64) (fa : fits a) (d : Nat) : ∀ (j k : Nat), j + d = a.length → d + 1 ≤ k →
    turned.l0 op k (uns ((a.map g).take j)) (uns a) (a.length : Int) (j : Int) = some (uns (a.map g)) := by
  unfold fits at fa
  induction d with
  | zero =>
    intro j k hj hk
    obtain ⟨m, rfl⟩ : ∃ m, k = m + 1 := ⟨k - 1, by omega⟩
    simp only [turned.l0]
    rw [if_neg (by omega), List.take_of_length_le (by rw [List.length_map]; omega)]
  | succ d ih =>
    intro j k hj hk
    obtain ⟨m, rfl⟩ : ∃ m, k = m + 1 := ⟨k - 1, by omega⟩
    have h1 : j < a.length := by omega
    have h2 : j < (a.map g).length := by rw [List.length_map]; exact h1
    simp only [turned.l0]
    rw [if_pos (by omega), if_pos (by omega), if_pos (by rw [uns_length]; omega), rd_uns a j h1, hop, Option.bind_some, if_pos (by rw [uns_length, List.length_take]; omega), show [un (g a[j])] = uns [g a[j]] from rfl, uns_append]
    have h3 : (a.map g).take j ++ [g a[j]] = (a.map g).take (j + 1) := by
      rw [List.take_succ_eq_append_getElem h2]
      simp
    rw [h3, w64_succ (by omega)]
    exact ih (j + 1) m (by omega) (by omega)
theorem part_ev (who : Int) {x : List W64} (fx : fits x) : Ev (fun k => share_Part.f k who (uns x)) (uns (prt who x)) := by
  have key := turned_l0 (fun y => some (if who = 0 then y else 0)) (fun y => if who = 0 then y else 0#64) (fun y => by split <;> simp [zero_un]) x fx x.length 0
  have hm : x.map (fun y => if who = 0 then y else 0#64) = prt who x := by
    unfold prt
    by_cases h : who = 0
    · simp [h]
    · simp [h, List.map_const']
  rw [hm] at key
  refine ⟨x.length + 1, fun k hk => ?_⟩
  unfold share_Part.f turned.f
  unfold fits at fx
  show (if (uns x).length ≤ 35184372088832 then _ else _) = _
  rw [uns_length, if_pos (by omega)]
  exact key k (by omega) (by omega)
theorem sc_one (x : List W64) : sc 1#64 x = x := by simp [sc]
theorem sc_nought (x : List W64) : sc 0#64 x = List.replicate x.length 0#64 := by simp [sc, List.map_const']
theorem one_un : (1 : Int) = un 1#64 := by decide +kernel
theorem ref_part_ev (who : Int) {x : List W64} (fx : fits x) : Ev (fun k => symbolonref10_Part.f k who (uns x)) (uns (prt who x)) := by
  unfold symbolonref10_Part.f prt
  by_cases h : who = 0
  · simp only [if_pos h]
    have := ref_scale_ev 1#64 fx
    rw [sc_one, ← one_un] at this
    exact Ev.bind this (Ev.now _)
  · simp only [if_neg h]
    have := ref_scale_ev 0#64 fx
    rw [sc_nought, ← zero_un] at this
    exact Ev.bind this (Ev.now _)
theorem head_ev : Ev (fun k => symbolonlaw10_head.f k) true := Ev.of (fun k => symbolonlaw10_head.mono k) (k := 10) (by decide +kernel)
theorem great_at (a b : List Int) : ∃ g, symbolonlaw10_great.f a b = some g := by
  unfold symbolonlaw10_great.f
  split <;> exact ⟨_, rfl⟩
theorem zw_get (g : W64 → W64 → W64) (a b : List W64) (i : Nat) (h : i < (zw g a b).length) : (zw g a b)[i] = g (a[i]'(by rw [zw_length] at h; omega)) (b[i]'(by rw [zw_length] at h; omega)) := by
  simp [zw]
theorem sc_get (z : W64) (a : List W64) (i : Nat) (h : i < (sc z a).length) : (sc z a)[i] = z * (a[i]'(by unfold sc at h; rw [List.length_map] at h; exact h)) := by simp [sc]
theorem sub_sub_sub (p m q : W64) : p - m - (q - m) = p - q := by grind
theorem law_add (m r p q : W64) : m + r + (p - m + (q - r)) = p + q := by grind
theorem law_sub (m r p q : W64) : m - r + (p - m - (q - r)) = p - q := by grind
theorem law_scale (z m p : W64) : z * m + z * (p - m) = z * p := by grind
theorem law_known (m p q : W64) : m + q + (p - m) = p + q := by grind
theorem add_noughts (x : List W64) : zw (· + ·) x (List.replicate x.length 0#64) = x := by
  refine List.ext_getElem (by rw [zw_length, List.length_replicate, Nat.min_self]) (fun i h1 h2 => ?_)
  rw [zw_get, List.getElem_replicate]
  exact BitVec.add_zero _
end Go.Proofs.Ytifehkjcccjccaa.ShareBase
