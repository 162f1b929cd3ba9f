/- The numbers of a stream, in words: what Number, Back and Row come to, of the program and of the reference. -/
import Derived.Test.YtlfjebbcmngihaaU64
import Derived.Test.YtlfjebbcmngihaaPStx
namespace Go.Proofs.Ytlfjebbcmngihaa.StreamBase
open Go Go.RowKit Go.Proofs.Ytlfjebbcmngihaa.PSt Go.Proofs.YtlfjebbcmngihaaW.PrintWords Go.Proofs.YtlfjebbcmngihaaW.PrintLast Go.Proofs.YtlfjebbcmngihaaW.PrintMore Go.Proofs.Ytlfjebbcmngihaa.U64
def c1 : BitVec 64 := 11400714819323198485#64
def c2 : BitVec 64 := 13787848793156543929#64
def c3 : BitVec 64 := 10723151780598845931#64
def i1 : BitVec 64 := 17428512612931826493#64
def i2 : BitVec 64 := 10871156337175269513#64
def i3 : BitVec 64 := 3573116690164977347#64
/-- The number at a place of a seed's stream. -/
def nb (s i : BitVec 64) : BitVec 64 := sh 31 (c3 * sh 27 (c2 * sh 30 (s + c1 * (i + 1#64))))
/-- The place of a number. -/
def bk (s n : BitVec 64) : BitVec 64 := (unsh 30 (unsh 27 (unsh 31 n * i3) * i2) - s) * i1 - 1#64
theorem e1 : c1 * i1 = 1#64 := by decide +kernel
theorem e2 : c2 * i2 = 1#64 := by decide +kernel
theorem e3 : c3 * i3 = 1#64 := by decide +kernel
theorem mul_back {c i : BitVec 64} (h : c * i = 1#64) (x : BitVec 64) : c * x * i = x := by
  rw [BitVec.mul_comm c x, BitVec.mul_assoc, h, BitVec.mul_one]
theorem mul_forth {c i : BitVec 64} (h : c * i = 1#64) (x : BitVec 64) : c * (x * i) = x := by
  rw [← BitVec.mul_assoc, mul_back h]
theorem bk_nb (s i : BitVec 64) : bk s (nb s i) = i := by
  unfold bk nb
  rw [unsh_sh 31 (by decide), mul_back e3, unsh_sh 27 (by decide), mul_back e2, unsh_sh 30 (by decide), BitVec.add_comm s, BitVec.add_sub_cancel, mul_back e1, BitVec.add_sub_cancel]
theorem nb_bk (s n : BitVec 64) : nb s (bk s n) = n := by
  unfold bk nb
  rw [BitVec.sub_add_cancel, mul_forth e1, BitVec.add_comm s, BitVec.sub_add_cancel, sh_unsh 30 (by decide), mul_forth e2, sh_unsh 27 (by decide), mul_forth e3, sh_unsh 31 (by decide)]
theorem nb_inj {s i j : BitVec 64} : nb s i = nb s j ↔ i = j := by
  constructor
  · intro h
    rw [← bk_nb s i, ← bk_nb s j, h]
  · intro h
    rw [h]
/-- So many steps further in the seed: so many places further. -/
theorem nb_shift (s i k : BitVec 64) : nb (s + k * c1) i = nb s (i + k) := by
  unfold nb
  have : s + k * c1 + c1 * (i + 1#64) = s + c1 * (i + k + 1#64) := by
    rw [BitVec.mul_comm k, BitVec.add_assoc, ← BitVec.mul_add, ← BitVec.add_assoc k, BitVec.add_comm k]
  rw [this]
theorem nb_seed {s t i : BitVec 64} : nb s i = nb t i ↔ s = t := by
  constructor
  · intro h
    have h1 : t = s + (t - s) := by rw [BitVec.add_comm, BitVec.sub_add_cancel]
    have h2 : t = s + ((t - s) * i1) * c1 := by rw [BitVec.mul_assoc, BitVec.mul_comm i1, e1, BitVec.mul_one]; exact h1
    rw [h2, nb_shift, nb_inj] at h
    have h3 : (t - s) * i1 = 0#64 := by
      have := congrArg (· - i) h
      simp only [BitVec.sub_self] at this
      rw [BitVec.add_comm, BitVec.add_sub_cancel] at this
      exact this.symm
    rw [h2, h3, BitVec.zero_mul, BitVec.add_zero]
  · intro h
    rw [h]
/-! ### The program's own -/
theorem fold_one (k : Nat) (z : BitVec 64) (b : Nat) (hb : b ≤ 64) : stream_fold.f (k + 2) (un z) (b : Int) 1 = some (un (sh b z)) := by
  simp only [stream_fold.f, stream_fold.l0]
  rw [if_pos (by decide), if_pos (by omega), if_neg (by unfold wrap64; omega), un_shr z b hb, un_xor]
  rfl
theorem fold_two (k : Nat) (z : BitVec 64) (b : Nat) (hb : b ≤ 64) : stream_fold.f (k + 3) (un z) (b : Int) 2 = some (un (unsh b z)) := by
  simp only [stream_fold.f, stream_fold.l0]
  rw [if_pos (by decide), if_pos (by omega), if_pos (by unfold wrap64; omega), if_pos (by omega), if_neg (by unfold wrap64; omega), un_shr z b hb, un_xor, un_shr _ b hb, un_xor]
  rfl
theorem number_at (k : Nat) (s i : BitVec 64) : stream_Number.f (k + 2) (un s) (un i) = some (un (nb s i)) := by
  unfold stream_Number.f
  rw [show IntKind.u64.wrap (un i + 1) = un (i + 1#64) from un_add i 1#64, show IntKind.u64.wrap (11400714819323198485 * un (i + 1#64)) = un (c1 * (i + 1#64)) from un_mul c1 _, un_add]
  rw [show stream_fold.f (k + 2) (un (s + c1 * (i + 1#64))) 30 1 = _ from fold_one k _ 30 (by decide)]
  simp only [Option.bind_some]
  rw [show IntKind.u64.wrap (13787848793156543929 * un (sh 30 (s + c1 * (i + 1#64)))) = _ from un_mul c2 _]
  rw [show stream_fold.f (k + 2) (un (c2 * sh 30 (s + c1 * (i + 1#64)))) 27 1 = _ from fold_one k _ 27 (by decide)]
  simp only [Option.bind_some]
  rw [show IntKind.u64.wrap (10723151780598845931 * un (sh 27 (c2 * sh 30 (s + c1 * (i + 1#64))))) = _ from un_mul c3 _]
  rw [show stream_fold.f (k + 2) (un (c3 * sh 27 (c2 * sh 30 (s + c1 * (i + 1#64))))) 31 1 = _ from fold_one k _ 31 (by decide)]
  rfl
theorem number_ev (s i : BitVec 64) : Ev (fun k => stream_Number.f k (un s) (un i)) (un (nb s i)) :=
  ⟨2, fun k hk => by obtain ⟨m, rfl⟩ : ∃ m, k = m + 2 := ⟨k - 2, by omega⟩; exact number_at m s i⟩
theorem inv_c1 : ring_Inverse.f 6 11400714819323198485 = some (un i1, true) := by decide +kernel
theorem inv_c2 : ring_Inverse.f 6 13787848793156543929 = some (un i2, true) := by decide +kernel
theorem inv_c3 : ring_Inverse.f 6 10723151780598845931 = some (un i3, true) := by decide +kernel
theorem undo_ev {c : Int} {i : BitVec 64} (h : ring_Inverse.f 6 c = some (un i, true)) (z : BitVec 64) : Ev (fun k => stream_Back_1.f k (un z) c) (un (z * i)) := by
  unfold stream_Back_1.f
  refine Ev.bind (Ev.of (fun k => ring_Inverse.mono c k) h) ?_
  simp only [un_mul]
  exact Ev.now _
theorem fold_two_ev (z : BitVec 64) (b : Nat) (hb : b ≤ 64) : Ev (fun k => stream_fold.f k (un z) (b : Int) 2) (un (unsh b z)) :=
  ⟨3, fun k hk => by obtain ⟨m, rfl⟩ : ∃ m, k = m + 3 := ⟨k - 3, by omega⟩; exact fold_two m z b hb⟩
theorem back_ev (s n : BitVec 64) : Ev (fun k => stream_Back.f k (un s) (un n)) (un (bk s n)) := by
  unfold stream_Back.f
  refine Ev.bind (fold_two_ev n 31 (by decide)) (Ev.bind (undo_ev inv_c3 _) (Ev.bind (fold_two_ev _ 27 (by decide)) (Ev.bind (undo_ev inv_c2 _) (Ev.bind (fold_two_ev _ 30 (by decide)) ?_))))
  rw [un_sub]
  refine Ev.bind (undo_ev inv_c1 _) ?_
  rw [show IntKind.u64.wrap (un ((unsh 30 (unsh 27 (unsh 31 n * i3) * i2) - s) * i1) - 1) = _ from un_sub _ 1#64]
  exact Ev.now _
/-! ### Rows -/
def rowL (s f : BitVec 64) (n : Nat) : List Int := (List.range n).map fun j => un (nb s (f + BitVec.ofNat 64 j))
theorem rowL_succ (s f : BitVec 64) (n : Nat) : rowL s f (n + 1) = rowL s f n ++ [un (nb s (f + BitVec.ofNat 64 n))] := by
  unfold rowL
  rw [List.range_succ, List.map_append]
  rfl
theorem rowL_length (s f : BitVec 64) (n : Nat) : (rowL s f n).length = n := by simp [rowL]
theorem rowL_add (s f : BitVec 64) (m n : Nat) : rowL s f (m + n) = rowL s f m ++ rowL s (f + BitVec.ofNat 64 m) n := by
  unfold rowL
  rw [List.range_add, List.map_append, List.map_map]
  congr 1
  apply List.map_congr_left
  intro j _
  simp only [Function.comp]
  rw [BitVec.add_assoc, BitVec.ofNat_add]
theorem wrap_nat (n : Nat) : IntKind.u64.wrap (n : Int) = un (BitVec.ofNat 64 n) := by rw [wrap_un, BitVec.ofInt_natCast]
theorem w64_succ {n : Nat} (h : n < 4611686018427387904) : wrap64 ((n : Int) + 1) = ((n + 1 : Nat) : Int) := by unfold wrap64; omega
theorem set_at {α : Type} (l : List α) (x y : α) (r : List α) (n : Nat) (h : l.length = n) : (l ++ x :: r).set n y = l ++ [y] ++ r := by
  subst h
  simp
theorem row_l0 (s f : BitVec 64) (n : Nat) (hn : n ≤ 4096) (d : Nat) : ∀ (j k : Nat), j + d = n → d + 3 ≤ k →
    stream_Row.l0 k (un s) (un f) (rowL s f j ++ List.replicate d 0) (n : Int) (j : Int) = some (rowL s f n) := by
  induction d with
  | zero =>
    intro j k hj hk
    obtain ⟨m, rfl⟩ : ∃ m, k = m + 3 := ⟨k - 3, by omega⟩
    simp only [stream_Row.l0]
    rw [if_neg (by omega)]
    simp only [List.replicate_zero, List.append_nil]
    rw [show j = n by omega]
  | succ d ih =>
    intro j k hj hk
    obtain ⟨m, rfl⟩ : ∃ m, k = m + 3 := ⟨k - 3, by omega⟩
    simp only [stream_Row.l0]
    rw [if_pos (by omega), wrap_nat, un_add, number_at, Option.bind_some, if_pos (by omega), if_pos (by simp [rowL_length]; omega)]
    rw [List.replicate_succ, set_at _ _ _ _ _ (by rw [rowL_length]; omega), ← rowL_succ, w64_succ (by omega)]
    exact ih (j + 1) (m + 2) (by omega) (by omega)
theorem row_ev (s f : BitVec 64) (n : Nat) (h1 : 1 ≤ n) (hn : n ≤ 4096) : Ev (fun k => stream_Row.f k (un s) (un f) (n : Int)) (rowL s f n) := by
  refine ⟨n + 4, fun k hk => ?_⟩
  obtain ⟨m, rfl⟩ : ∃ m, k = m + 1 := ⟨k - 1, by omega⟩
  unfold stream_Row.f
  show (if (n : Int) < 1 then _ else _) = _
  rw [if_neg (by omega)]
  simp only [stream_Row.j0]
  rw [if_neg (by simp; omega), if_pos (by omega), if_pos (by omega)]
  simp only [Option.bind_some]
  have := row_l0 s f n hn n 0 m (by omega) (by omega)
  simpa [rowL] using this
theorem row_none_ev (s f : BitVec 64) (n : Int) (h : n < 1 ∨ 4096 < n) : Ev (fun k => stream_Row.f k (un s) (un f) n) [] := by
  refine ⟨1, fun k hk => ?_⟩
  obtain ⟨m, rfl⟩ : ∃ m, k = m + 1 := ⟨k - 1, by omega⟩
  unfold stream_Row.f
  show (if n < 1 then _ else _) = _
  by_cases h1 : n < 1
  · rw [if_pos h1]
    simp only [stream_Row.j0]
    rfl
  · rw [if_neg h1, decide_eq_true (show n > 4096 by omega)]
    simp only [stream_Row.j0]
    rfl
/-- The row of so many, whatever the number. -/
def rowI (s f : BitVec 64) (n : Int) : List Int := if n < 1 ∨ 4096 < n then [] else rowL s f n.toNat
theorem row_any (s f : BitVec 64) (n : Int) : Ev (fun k => stream_Row.f k (un s) (un f) n) (rowI s f n) := by
  unfold rowI
  split
  · rename_i h
    exact row_none_ev s f n h
  · rename_i h
    have := row_ev s f n.toNat (by omega) (by omega)
    rwa [show ((n.toNat : Nat) : Int) = n by omega] at this
/-! ### Alike -/
theorem same_l0 (a b : List Int) (hl : a.length = b.length) (hn : a.length < 4611686018427387904) (d : Nat) : ∀ (j k : Nat), j + d = a.length → d + 1 ≤ k →
    symbolonref01_Same.l0 k a b (j : Int) = some (decide (a.drop j = b.drop j)) := by
  induction d with
  | zero =>
    intro j k hj hk
    obtain ⟨m, rfl⟩ : ∃ m, k = m + 1 := ⟨k - 1, by omega⟩
    simp only [symbolonref01_Same.l0]
    rw [if_neg (by omega), List.drop_of_length_le (by omega), List.drop_of_length_le (by omega)]
    rfl
  | succ d ih =>
    intro j k hj hk
    obtain ⟨m, rfl⟩ : ∃ m, k = m + 1 := ⟨k - 1, by omega⟩
    simp only [symbolonref01_Same.l0]
    have ha : j < a.length := by omega
    have hb : j < b.length := by omega
    rw [if_pos (by omega), if_pos (by omega), if_pos (by omega)]
    have ra : rd a (j : Int) = a[j] := by unfold rd; rw [Int.toNat_natCast, List.getD_eq_getElem?_getD, List.getElem?_eq_getElem ha]; rfl
    have rb : rd b (j : Int) = b[j] := by unfold rd; rw [Int.toNat_natCast, List.getD_eq_getElem?_getD, List.getElem?_eq_getElem hb]; rfl
    rw [ra, rb, w64_succ (by omega), ih (j + 1) m (by omega) (by omega)]
    have hd : (a.drop j = b.drop j) = (a[j] = b[j] ∧ a.drop (j + 1) = b.drop (j + 1)) := by
      rw [List.drop_eq_getElem_cons ha, List.drop_eq_getElem_cons hb, List.cons.injEq]
    by_cases h : a[j] = b[j]
    · rw [if_pos h]
      congr 1
      rw [decide_eq_decide, hd]
      exact ⟨fun h2 => ⟨h, h2⟩, fun h2 => h2.2⟩
    · rw [if_neg h]
      congr 1
      exact (decide_eq_false (by rw [hd]; exact fun h2 => h h2.1)).symm
theorem same_ev (a b : List Int) (hn : a.length < 4611686018427387904) : Ev (fun k => symbolonref01_Same.f k a b) (decide (a = b)) := by
  by_cases hl : a.length = b.length
  · refine ⟨a.length + 1, fun k hk => ?_⟩
    unfold symbolonref01_Same.f
    show (if (a.length : Int) = (b.length : Int) then _ else _) = _
    rw [if_pos (by omega)]
    exact same_l0 a b hl hn a.length 0 k (by omega) (by omega)
  · refine ⟨0, fun k hk => ?_⟩
    unfold symbolonref01_Same.f
    show (if (a.length : Int) = (b.length : Int) then _ else _) = _
    rw [if_neg (by omega)]
    have : ¬ a = b := fun h => hl (by rw [h])
    simp [this]
theorem same_self (a : List Int) (hn : a.length < 4611686018427387904) : Ev (fun k => symbolonref01_Same.f k a a) true := by simpa using same_ev a a hn
end Go.Proofs.Ytlfjebbcmngihaa.StreamBase
