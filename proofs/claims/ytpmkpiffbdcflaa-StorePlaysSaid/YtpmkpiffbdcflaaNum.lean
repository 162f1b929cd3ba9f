/- Numbers in bytes, the greatest first: plain Lean. -/
import Derived.Test.YtpmkpiffbdcflaaPureB
import Derived.Test.YtpmkpiffbdcflaaArr
set_option linter.unusedVariables false
set_option linter.unusedSimpArgs false
namespace Go.Proofs.Ytpmkpiffbdcflaa
open Go Go.RowKit
def num (l : List Int) : Int := l.foldl (fun n b => n * 256 + b) 0
def be : Nat → Int → List Int
  | 0, _ => []
  | k + 1, n => be k (n / 256) ++ [n % 256]
theorem num_snoc (l : List Int) (b : Int) : num (l ++ [b]) = num l * 256 + b := by simp [num]
theorem be_len : ∀ (k : Nat) (n : Int), (be k n).length = k
  | 0, _ => rfl
  | k + 1, n => by rw [be, List.length_append, be_len k]; rfl
theorem be_bytes : ∀ (k : Nat) (n : Int), Bytes (be k n)
  | 0, _ => fun x hx => by cases hx
  | k + 1, n => bytes_app (be_bytes k _) fun x hx => by rw [List.mem_singleton.1 hx]; omega
theorem num_nonneg {l : List Int} (h : Bytes l) : 0 ≤ num l ∧ num l < 256 ^ l.length := by
  suffices H : ∀ (r : List Int), Bytes r.reverse → 0 ≤ num r.reverse ∧ num r.reverse < 256 ^ r.reverse.length by
    have := H l.reverse (by rwa [List.reverse_reverse])
    rwa [List.reverse_reverse] at this
  intro r
  induction r with
  | nil => intro _; simp [num]
  | cons b r ih =>
    intro hb
    rw [List.reverse_cons] at hb ⊢
    have h1 := ih fun x hx => hb x (List.mem_append_left _ hx)
    have h2 := hb b (by simp)
    rw [num_snoc, List.length_append, List.length_singleton, Int.pow_succ]
    omega
theorem be_num {l : List Int} (h : Bytes l) : be l.length (num l) = l := by
  suffices H : ∀ (r : List Int), Bytes r.reverse → be r.reverse.length (num r.reverse) = r.reverse by
    have := H l.reverse (by rwa [List.reverse_reverse])
    rwa [List.reverse_reverse] at this
  intro r
  induction r with
  | nil => intro _; rfl
  | cons b r ih =>
    intro hb
    rw [List.reverse_cons] at hb ⊢
    have h1 : Bytes r.reverse := fun x hx => hb x (List.mem_append_left _ hx)
    have h2 := hb b (by simp)
    rw [num_snoc, List.length_append, List.length_singleton, be, show (num r.reverse * 256 + b) / 256 = num r.reverse from by omega, show (num r.reverse * 256 + b) % 256 = b from by omega, ih h1]
theorem be_get : ∀ (k : Nat) (n : Int) (j : Nat) (h : j < k), (be k n)[j]'(by rw [be_len]; exact h) = n / 256 ^ (k - 1 - j) % 256
  | 0, n, j, h => by omega
  | k + 1, n, j, h => by
    by_cases hj : j < k
    · have : (be (k + 1) n)[j]'(by rw [be_len]; exact h) = (be k (n / 256))[j]'(by rw [be_len]; exact hj) := by
        simp only [be]
        rw [List.getElem_append_left]
      rw [this, be_get k _ j hj, show k + 1 - 1 - j = (k - 1 - j) + 1 from by omega, Int.pow_succ, Int.mul_comm, Int.ediv_ediv_of_nonneg (by decide)]
    · obtain rfl : j = k := by omega
      have : (be (j + 1) n)[j]'(by rw [be_len]; exact h) = n % 256 := by
        simp only [be]
        rw [List.getElem_append_right (by rw [be_len]; exact Nat.le_refl _)]
        simp
      rw [this, show j + 1 - 1 - j = 0 from by omega]
      simp
theorem be_take {k : Nat} {n : Int} {j : Nat} (h : j < k) : (be k n).take (j + 1) = (be k n).take j ++ [n / 256 ^ (k - 1 - j) % 256] := by
  rw [← be_get k n j h, List.take_succ_eq_append_getElem (by rw [be_len]; exact h)]
theorem be_drop {k : Nat} {n : Int} {j : Nat} (h : j < k) : (be k n).drop j = n / 256 ^ (k - 1 - j) % 256 :: (be k n).drop (j + 1) := by
  rw [← be_get k n j h, List.drop_eq_getElem_cons (by rw [be_len]; exact h)]
theorem be_one {n : Int} (h0 : 0 ≤ n) (h1 : n < 256) : be 1 n = [n] := by simp [be]; omega
theorem num_one (b : Int) : num [b] = b := by simp [num]
/-! ### 'or' as a sum -/
theorem wrap_mod (x : Int) : (IntKind.i64.wrap x - x) % 18446744073709551616 = 0 := by rw [IntKind.wrap_i64]; omega
theorem wrap_eq {x y : Int} (h : (x - y) % 18446744073709551616 = 0) : IntKind.i64.wrap x = IntKind.i64.wrap y := by rw [IntKind.wrap_i64, IntKind.wrap_i64]; omega
theorem orI_add {a b : Int} (ha : a % 256 = 0) (h0 : 0 ≤ b) (h1 : b < 256) : orI .i64 a b = IntKind.i64.wrap (a + b) := by
  unfold orI
  refine wrap_eq ?_
  obtain ⟨m, hm⟩ : ∃ m : Nat, (m : Int) = a % 18446744073709551616 := ⟨(a % 18446744073709551616).toNat, by omega⟩
  obtain ⟨c, rfl⟩ : ∃ c : Nat, (c : Int) = b := ⟨b.toNat, by omega⟩
  have e1 : (BitVec.ofInt IntKind.i64.bits a) = BitVec.ofNat 64 m := by
    apply BitVec.eq_of_toNat_eq
    show (BitVec.ofInt 64 a).toNat = (BitVec.ofNat 64 m : BitVec 64).toNat
    rw [BitVec.toNat_ofInt, BitVec.toNat_ofNat]
    omega
  have e2 : (BitVec.ofInt IntKind.i64.bits (c : Int)) = BitVec.ofNat 64 c := by
    apply BitVec.eq_of_toNat_eq
    show (BitVec.ofInt 64 (c : Int)).toNat = (BitVec.ofNat 64 c : BitVec 64).toNat
    rw [BitVec.toNat_ofInt, BitVec.toNat_ofNat]
    omega
  rw [e1, e2]
  have e3 : (BitVec.ofNat 64 m ||| BitVec.ofNat 64 c : BitVec 64).toNat = m ||| c := by
    rw [BitVec.toNat_or, BitVec.toNat_ofNat, BitVec.toNat_ofNat, Nat.mod_eq_of_lt (by omega), Nat.mod_eq_of_lt (by omega)]
  have e4 : m ||| c = m + c := by
    obtain ⟨q, rfl⟩ : ∃ q, m = 2 ^ 8 * q := ⟨m / 256, by omega⟩
    rw [← Nat.two_pow_add_eq_or_of_lt (by omega)]
  have e5 : ((BitVec.ofNat 64 m ||| BitVec.ofNat 64 c : BitVec 64).toNat : Int) = (m : Int) + (c : Int) := by rw [e3, e4]; omega
  show (((BitVec.ofNat 64 m ||| BitVec.ofNat 64 c : BitVec 64).toNat : Int) - (a + c)) % 18446744073709551616 = 0
  rw [e5]
  omega
theorem or_step {x b : Int} (h0 : 0 ≤ b) (h1 : b < 256) : orI .i64 (IntKind.i64.wrap (IntKind.i64.wrap x * 2 ^ (8))) (IntKind.i64.wrap b) = IntKind.i64.wrap (x * 256 + b) := by
  have hb : IntKind.i64.wrap b = b := w64 (by omega) (by omega)
  have hx : IntKind.i64.wrap (IntKind.i64.wrap x * 2 ^ (8)) = IntKind.i64.wrap (x * 256) := wrap_eq (by have := wrap_mod x; omega)
  rw [hb, hx, orI_add (by rw [IntKind.wrap_i64]; omega) h0 h1]
  exact wrap_eq (by have := wrap_mod (x * 256); omega)
/-! ### What a loop leaves, told at once -/
theorem lp_eq {σ ρ : Type} {f : σ → Option (σ ⊕ ρ)} {s : σ} {out : ρ} (I : Nat → σ → Prop) (N : Nat) (hN : N < 18446744073709551616) (h0 : I 0 s) (step : ∀ i s, i < N → I i s → ∃ s', f s = some (.inl s') ∧ I (i + 1) s') (fin : ∀ s, I N s → f s = some (.inr out)) : lp f s = some out := by
  obtain ⟨r, h1, rfl⟩ := lp_all I (fun r => r = out) N hN h0 step (fun s hs => ⟨_, fin s hs, rfl⟩)
  exact h1
theorem getD_bytes {l : List Int} (h : Bytes l) (j : Nat) : 0 ≤ l.getD j 0 ∧ l.getD j 0 < 256 := by
  rw [List.getD_eq_getElem?_getD]
  rcases Nat.lt_or_ge j l.length with hj | hj
  · rw [List.getElem?_eq_getElem hj]; exact h _ (List.getElem_mem hj)
  · rw [List.getElem?_eq_none hj]; decide
theorem take_drop_snoc {l : List Int} {a j : Nat} (h : a + j < l.length) : (l.drop a).take (j + 1) = (l.drop a).take j ++ [l.getD (a + j) 0] := by
  rw [List.take_succ_eq_append_getElem (by rw [List.length_drop]; omega), List.getElem_drop, List.getD_eq_getElem?_getD, List.getElem?_eq_getElem h]
  rfl
end Go.Proofs.Ytpmkpiffbdcflaa
