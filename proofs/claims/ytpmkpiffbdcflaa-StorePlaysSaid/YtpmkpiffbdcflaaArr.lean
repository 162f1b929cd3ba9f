/- Arrays of bytes as things of their own: the type has the length and the range. -/
import Derived.Test.YtpmkpiffbdcflaaCelJ
set_option linter.unusedVariables false
set_option linter.unusedSimpArgs false
namespace Go.Proofs.Ytpmkpiffbdcflaa
open Go Go.RowKit
theorem bytes_rep (n : Nat) : Bytes (List.replicate n 0) := fun x hx => by rw [List.eq_of_mem_replicate hx]; decide
instance (xs : List Int) : Decidable (Bytes xs) := inferInstanceAs (Decidable (∀ x ∈ xs, 0 ≤ x ∧ x < 256))
structure Arr (n : Nat) where
  l : List Int
  h : l.length = n
  b : Bytes l
deriving DecidableEq
def Arr.zero (n : Nat) : Arr n := ⟨List.replicate n 0, List.length_replicate, bytes_rep n⟩
instance (n : Nat) : Inhabited (Arr n) := ⟨Arr.zero n⟩
def Arr.of (n : Nat) (l : List Int) : Arr n := if h : l.length = n ∧ Bytes l then ⟨l, h.1, h.2⟩ else Arr.zero n
theorem Arr.of_l {n : Nat} {l : List Int} (h1 : l.length = n) (h2 : Bytes l) : (Arr.of n l).l = l := by unfold Arr.of; rw [dif_pos ⟨h1, h2⟩]
def Arr.put {n : Nat} (x : Arr n) (j v : Int) : Arr n := Arr.of n (x.l.set j.toNat v)
def Arr.cpy {n : Nat} (x : Arr n) (lo : Nat) (ys : List Int) : Arr n := Arr.of n (x.l.take lo ++ ys.take (min ys.length (n - lo)) ++ x.l.drop (lo + min ys.length (n - lo)))
theorem bytes_set {xs : List Int} {v : Int} (h : Bytes xs) (hv : 0 ≤ v ∧ v < 256) (j : Nat) : Bytes (xs.set j v) := fun x hx => by
  rcases List.mem_or_eq_of_mem_set hx with hx | rfl
  · exact h x hx
  · exact hv
theorem Arr.put_l {n : Nat} {x : Arr n} {j v : Int} (hv : 0 ≤ v ∧ v < 256) : (x.put j v).l = x.l.set j.toNat v := Arr.of_l (by rw [List.length_set]; exact x.h) (bytes_set x.b hv _)
theorem bytes_app {xs ys : List Int} (h1 : Bytes xs) (h2 : Bytes ys) : Bytes (xs ++ ys) := fun x hx => (List.mem_append.1 hx).elim (h1 x) (h2 x)
theorem bytes_take {xs : List Int} (h : Bytes xs) (n : Nat) : Bytes (xs.take n) := fun x hx => h x (List.mem_of_mem_take hx)
theorem bytes_drop {xs : List Int} (h : Bytes xs) (n : Nat) : Bytes (xs.drop n) := fun x hx => h x (List.mem_of_mem_drop hx)
theorem Arr.cpy_l {n : Nat} {x : Arr n} {lo : Nat} {ys : List Int} (hlo : lo ≤ n) (hy : Bytes ys) : (x.cpy lo ys).l = x.l.take lo ++ ys.take (min ys.length (n - lo)) ++ x.l.drop (lo + min ys.length (n - lo)) :=
  Arr.of_l (by simp only [List.length_append, List.length_take, List.length_drop, x.h]; omega) (bytes_app (bytes_app (bytes_take x.b _) (bytes_take hy _)) (bytes_drop x.b _))
def kA (n : Nat) : Kd (Arr n) where
  sz := n
  ok _ _ cs x := cs = arrOf x.l
  len := fun {_ _ _ x} h => by rw [h, arrOf_len]; exact x.h
  one h := by rw [h]; exact arrOf_one _
  stb h _ _ := h
theorem arr_take {n : Nat} (x : Arr n) : (arrOf x.l).take n = arrOf x.l := List.take_of_length_le (by rw [arrOf_len, x.h]; exact Nat.le_refl _)
theorem arr_take' {n : Nat} (x : Arr n) : (arrOf x.l).take x.l.length = arrOf x.l := by rw [x.h]; exact arr_take x
theorem all_cons {a : Value} {l : List Value} (h : a.oneCell' = true) (hl : l.all (·.oneCell') = true) : (a :: l).all (·.oneCell') = true := by rw [List.all_cons, h, hl]; rfl
theorem putAt_all {vs cs : List Value} (h : vs.length = cs.length) : putAt 0 vs cs = vs := by simp [putAt, h]
theorem arr_len {n : Nat} (x : Arr n) : (arrOf x.l).length = n := by rw [arrOf_len, x.h]
theorem len_cons {a : Value} {l : List Value} {n : Nat} (h : l.length = n) : (a :: l).length = n + 1 := by rw [List.length_cons, h]
theorem arr_all (xs : List Int) : (arrOf xs).all (·.oneCell') = true := List.all_eq_true.2 (arrOf_one xs)
theorem arrOf_zero (n : Nat) : arrOf (Arr.zero n).l = List.replicate n (.int .u8 0) := by simp [arrOf, Arr.zero]
section
variable {P : Program} {ρ : Operand → Value} {d : Option Tmp} {ty : TypeId} {pos : String} {af : Array Edge} {gd : Option (Nat × Bool)} {w w0 w' : World} {ps : List PF} {fs : List SF}
theorem SayL.one {α : Type} {kd : Kd α} {c1 : List Value} {y : α} (h : ∀ Z, (∀ p ∈ ps, p.p Z w) → kd.ok Z w c1 y) : SayL kd ps w c1 [y] := by simpa using SayL.cons h (SayL.nil (ps := ps) (w := w))
theorem Hp.says_arr {n : Nat} {cs : List Value} {x : Arr n} (H : Hp w0 ps fs w) (i : Nat) (hi : ps[i]? = some (says (kA n) cs x)) : cs = arrOf x.l := by obtain ⟨Z, h⟩ := H.fact i hi; exact h
theorem arrOf_set (xs : List Int) (j : Nat) (v : Int) : arrOf (xs.set j v) = (arrOf xs).set j (.int .u8 v) := by unfold arrOf; rw [List.map_set]
/-- One byte of an array is written. -/
theorem Hp.putA {n : Nat} {t t' : TypeId} {x y : Operand} {g : Nat} {xs : Arr n} {j v : Int} (H : Hp w0 ps (cel g (arrOf xs.l) t' :: fs) w) (hx : ρ x = .pointer (some ⟨g, j.toNat * 1, none⟩)) (hy : ρ y = .int .u8 v) (hs : szB P t 1 = true) (hv : 0 ≤ v ∧ v < 256) (h0 : 0 ≤ j) (h1 : j < (n : Int)) :
    ∃ w', (∀ (ty : TypeId) (pos : String) (af : Array Edge) (gd : Option (Nat × Bool)), (execOp ρ ⟨none, .store t x y, ty, pos, af, gd⟩).run P w = .ok .skip w') ∧ Hp w0 ps (cel g (arrOf (xs.put j v).l) t' :: fs) w' := by
  have hl := arr_len xs
  refine Hp.store (vs := [.int .u8 v]) (n := 1) H hx hy rfl hs rfl (by omega) rfl ?_
  rw [Arr.put_l hv, arrOf_set, List.set_eq_take_append_cons_drop, if_pos (by omega)]
  simp [putAt]
/-- 'copy(array[lo:], row)'. -/
theorem Hp.cpyA {n : Nat} {t dt stt e : TypeId} {g : Nat} {xs : Arr n} {ys : List Int} {B : Option Addr} {c2 lo dl dc : Nat} {x y : Operand} (H : Hp w0 ps (cel g (arrOf xs.l) t :: fs) w) (i : Nat) (hi : ps[i]? = some (rd kByte B c2 ys)) (hx : ρ x = .slice (some ⟨g, lo, none⟩) dl dc) (hy : ρ y = .slice B ys.length c2) (ht : P.underlying dt = some (.slice e)) (hs : szB P e 1 = true) (hlo : lo + dl = n) (hm : n ≤ maxLen) :
    ∃ w', (∀ (d : Option Tmp) (ty : TypeId) (pos : String) (af : Array Edge) (gd : Option (Nat × Bool)), (execOp ρ ⟨d, .call ⟨.builtin .copy, #[x, y], #[dt, stt]⟩, ty, pos, af, gd⟩).run P w = .ok (.value (.int .i64 ((min ys.length dl : Nat) : Int))) w') ∧ Hp w0 ps (cel g (arrOf (xs.cpy lo ys).l) t :: fs) w' := by
  have hdl : dl = n - lo := by omega
  obtain ⟨w', h1, h2⟩ := Hp.copyArr (H.arrOwn xs.b (by rw [xs.h]; exact hm)) i hi hx hy ht hs (by rw [xs.h]; exact hlo) (by rw [xs.h]; exact hm)
  refine ⟨w', h1, ?_⟩
  have h3 := h2.arrCel
  rw [Arr.cpy_l (by omega) (H.bytes i hi), ← hdl]
  exact h3
/-- A slice of an array, somewhere in a block. -/
theorem r_slB {t e : TypeId} {x : Operand} {lo hi : Option Operand} {g o m sz l h o' n' c' : Nat} (hx : ρ x = .pointer (some ⟨g, o, none⟩)) (ht : P.underlying t = some (.array m e)) (hs : szB P e sz = true) (hl : lo = none ∧ l = 0 ∨ ∃ o k, lo = some o ∧ ρ o = .int k (l : Int)) (hh : hi = none ∧ h = m ∨ ∃ o k, hi = some o ∧ ρ o = .int k (h : Int)) (h1 : l ≤ h) (h2 : h ≤ m) (h3 : l < m) (ho : o' = o + l * sz) (hn : n' = h - l) (hc : c' = m - l) :
    (execOp ρ ⟨d, .slice t x lo hi none, ty, pos, af, gd⟩).run P w = .ok (.value (.slice (some ⟨g, o', none⟩) n' c')) w := by
  subst ho hn hc
  have hml : ¬ m = l := by omega
  unfold szB at hs
  split at hs
  · rename_i i hq
    have hs' : i.size = sz := by simpa using hs
    subst hs'
    have h1' : (l : Int) ≤ h := by omega
    have h2' : (h : Int) ≤ m := by omega
    unfold execOp
    rcases hl with ⟨rfl, rfl⟩ | ⟨o, k, rfl, ho⟩ <;> rcases hh with ⟨rfl, rfl⟩ | ⟨o', k', rfl, ho'⟩
    · simp [hx, Instr.sliceAt, Instr.sureAddr, Instr.sliceBounds, Instr.sliceBound, asIntOf, run_underlying ht, sizeOf, run_typeInfo w hq, Result.andThen, addr_plain, hml]
      try omega
    · simp [hx, ho', Instr.sliceAt, Instr.sureAddr, Instr.sliceBounds, Instr.sliceBound, asIntOf, run_underlying ht, sizeOf, run_typeInfo w hq, Result.andThen, h2, addr_plain, hml]
      try omega
    · simp [hx, ho, Instr.sliceAt, Instr.sureAddr, Instr.sliceBounds, Instr.sliceBound, asIntOf, run_underlying ht, sizeOf, run_typeInfo w hq, Result.andThen, h1, addr_plain, hml]
    · simp [hx, ho, ho', Instr.sliceAt, Instr.sureAddr, Instr.sliceBounds, Instr.sliceBound, asIntOf, run_underlying ht, sizeOf, run_typeInfo w hq, Result.andThen, h1, h2, addr_plain, hml]
  · cases hs
/-- Bytes somewhere in a block, from now on read alone. -/
theorem Hp.celRd {g o c : Nat} {cs : List Value} {t : TypeId} {ys : List Int} (H : Hp w0 ps (cel g cs t :: fs) w) (hcs : (cs.drop o).take ys.length = arrOf ys) (hb : Bytes ys) (hc : ys.length ≤ c) (hm : c ≤ maxLen) : Hp w0 (rd kByte (some ⟨g, o, none⟩) c ys :: ps) fs w := by
  refine H.turn (Fs := [cel g cs t]) [rd kByte (some ⟨g, o, none⟩) c ys] [] rfl rfl rfl (Nat.le_refl _) ?_
  rintro Z T ⟨U, hU, ⟨hbl, hUg⟩, _⟩ ht hz htz _
  have hTg : T g := hU g ((hUg g).2 rfl)
  refine ⟨fun _ _ _ => rfl, fun b => Z b ∨ b = g, fun _ => False, fun _ h => .inl h, fun b h hn => ?_, fun b h => h.elim, trivial, fun p hp => ?_⟩
  · rcases h with h | rfl
    · exact absurd h hn
    · exact ⟨.inl hTg, ht _ hTg⟩
  · rw [List.mem_singleton.1 hp]
    refine ⟨hc, hm, fun j hj => ⟨⟨g, o, none⟩, [.int .u8 ys[j]], rfl, .inr rfl, ⟨rfl, hb _ (List.getElem_mem hj)⟩, fun i hi => ?_⟩⟩
    have hi0 : i = 0 := by have : i < 1 := hi; omega
    subst hi0
    have hr := cel_range (o := o) hbl hcs
    have := hr j (.int .u8 ys[j]) (by unfold arrOf; rw [List.getElem?_map, List.getElem?_eq_getElem hj]; rfl)
    rw [addr_plain]
    simpa [kByte] using this
/-- A row that is read, as an array. -/
theorem Hp.sarrA {t e : TypeId} {n : Nat} {x : Operand} {A : Option Addr} {c : Nat} {xs : List Int} (H : Hp w0 ps fs w) (i : Nat) (hi : ps[i]? = some (rd kByte A c xs)) (hx : ρ x = .slice A xs.length c) (ht : P.underlying t = some (.array n e)) (hn : n ≤ xs.length) (h0 : 0 < n) :
    ∃ g o, (∀ (d : Option Tmp) (ty : TypeId) (pos : String) (af : Array Edge) (gd : Option (Nat × Bool)) w', (execOp ρ ⟨d, .sliceToArrayPointer t x, ty, pos, af, gd⟩).run P w' = .ok (.value (.pointer (some ⟨g, o, none⟩))) w') ∧ Hp w0 (celz g o (arrOf (Arr.of n (xs.take n)).l) :: ps) fs w := by
  obtain ⟨g, o, h1, h2⟩ := H.sarr i hi hx ht hn h0
  refine ⟨g, o, h1, ?_⟩
  rw [Arr.of_l (by rw [List.length_take]; omega) (bytes_take (H.bytes i hi) n)]
  exact h2
/-- A call that leaves all as it is, and makes a row of bytes. -/
theorem Hp.lend {e : TypeId} {A : Option Addr} {c : Nat} {xs : List Int} {ps' : List PF} (H : Hp w0 ps fs w) (H2 : Hp w ps' [own kByte e A c xs] w') : Hp w0 ps (own kByte e A c xs :: fs) w' := by
  obtain ⟨Z2, H2⟩ := H2
  refine H.turn (Fs := []) [] [own kByte e A c xs] H2.os H2.tape H2.output H2.size fun Z T _ ht hz _ _ => ⟨fun b hb _ => (H2.old b hb).2, ?_⟩
  obtain ⟨T2, hT2, hown, _⟩ := H2.sep
  refine ⟨Z, T2, fun _ h => h, fun b h hn => absurd h hn, fun b hb => ?_, ⟨T2, fun _ h => h, ?_, trivial⟩, fun _ h => by cases h⟩
  · have h1 := hT2 b hb
    have hge : w.heap.size ≤ b := by
      rcases Nat.lt_or_ge b w.heap.size with h | h
      · exact absurd (H2.old b h).1 h1.1
      · exact h
    refine ⟨.inr hge, fun hzb => ?_, h1.2⟩
    have := hz b hzb
    omega
  · obtain ⟨h0, cs, h1, h2, h3⟩ := hown
    exact ⟨h0, cs, h1, h2, h3⟩
/-- An element of a row of arrays, for a while read as bytes. -/
theorem Hp.rowsPart {n g c : Nat} {e : TypeId} {xs : List (Arr n)} {j : Int} (H : Hp w0 ps fs w) (i : Nat) (hi : fs[i]? = some (own (kA n) e (some ⟨g, 0, none⟩) c xs)) (h0 : 0 ≤ j) (h1 : j < (xs.length : Int)) (hm : n ≤ maxLen) : Rows kByte (fun b => b < w.heap.size) w (some ⟨g, j.toNat * n, none⟩) n (xs.getD j.toNat (Arr.zero n)).l := by
  obtain ⟨Z, H⟩ := H
  obtain ⟨T, hT, ⟨_, cs, hown, hbl, hok⟩, _⟩ := H.sep.front i hi
  have hlt : j.toNat < xs.length := by omega
  have hk := hok j.toNat hlt
  rw [List.getD_eq_getElem?_getD, List.getElem?_eq_getElem hlt]
  simp only [Option.getD_some]
  have hlen := (xs[j.toNat]).h
  refine ⟨by rw [hlen]; exact Nat.le_refl _, hm, fun q hq => ⟨⟨g, j.toNat * n, none⟩, [.int .u8 (xs[j.toNat]).l[q]], rfl, (hT g (hbl g rfl)).2, ⟨rfl, (xs[j.toNat]).b _ (List.getElem_mem hq)⟩, fun i hi => ?_⟩⟩
  have hi0 : i = 0 := by have : i < 1 := hi; omega
  subst hi0
  have hqn : q < n := by omega
  rw [addr_plain]
  simp only [kByte, Nat.mul_one, Nat.add_zero, List.getElem?_cons_zero]
  have hkd : (kA n).sz = n := rfl
  rw [hkd] at hk hown
  have hk' : (cs.drop (j.toNat * n)).take n = arrOf (xs[j.toNat]).l := hk
  have hcell := hown.cellAt (j.toNat * n + q) (Nat.lt_of_lt_of_le (by omega : j.toNat * n + q < j.toNat * n + n) (by rw [← Nat.succ_mul]; exact Nat.mul_le_mul_right _ hlt))
  rcases hown.2 with ⟨hv, hn⟩ | ⟨g', cap, cur, hv, _⟩
  · cases hv
  · injection hv with hA _ hc'
    injection hA with hA
    injection hA with hA
    subst hA
    have hg : ((cs.drop (j.toNat * n)).take n)[q]? = some (.int .u8 (xs[j.toNat]).l[q]) := by
      rw [hk']; unfold arrOf; rw [List.getElem?_map, List.getElem?_eq_getElem hq]; rfl
    rw [List.getElem?_take_of_lt hqn, List.getElem?_drop] at hg
    rw [← hg]
    exact hcell
theorem madeCells_rep {v : Value} {k : Nat} (hk : 0 < k) (m : Nat) : (madeCells (List.replicate k v).toArray m).toList = List.replicate m v := by
  unfold madeCells
  rw [Array.toList_map]
  apply List.ext_getElem
  · simp
  · intro j h1 h2
    have hj : j % k < k := Nat.mod_lt _ hk
    simp [hj, getElem!_pos]
/-- 'make([][n]byte, m)'. -/
theorem Hp.makeA {q : Nat} {t e : TypeId} {z : Value} {bytes : Nat} {x y : Operand} {k k' : IntKind} {n : Int} (H : Hp w0 ps fs w) (hx : ρ x = .int k n) (hy : ρ y = .int k' n) (ht : P.underlying t = some (.slice e)) (hti : TI P e z q bytes) (hzc : z.cells = (List.replicate q (.int .u8 0)).toArray) (hq : 0 < q) (hby : 0 < bytes) (h0 : 0 ≤ n) (hb : bytes * n ≤ 281474976710656) :
    ∃ g w', (∀ (d : Option Tmp) (ty : TypeId) (pos : String) (af : Array Edge) (gd : Option (Nat × Bool)), (execOp ρ ⟨d, .makeSlice t x y, ty, pos, af, gd⟩).run P w = .ok (.value (.slice (some ⟨g, 0, none⟩) (List.replicate n.toNat (Arr.zero q)).length (List.replicate n.toNat (Arr.zero q)).length)) w') ∧ Hp w0 ps (own (kA q) e (some ⟨g, 0, none⟩) (List.replicate n.toNat (Arr.zero q)).length (List.replicate n.toNat (Arr.zero q)) :: fs) w' := by
  obtain ⟨i, hi, hiz, his, hib⟩ := hti.parts
  obtain ⟨m, rfl⟩ := Int.eq_ofNat_of_zero_le h0
  have hb' : i.bytes * m ≤ 281474976710656 := by rw [hib]; exact Int.ofNat_le.1 (by rw [Int.natCast_mul]; exact hb)
  have hm : m ≤ 281474976710656 := Nat.le_trans (Nat.le_mul_of_pos_left _ (by rw [hib]; exact hby)) hb'
  have hbz : (i.bytes : Int) * (m : Int) ≤ 281474976710656 := by
    rw [hib]
    exact hb
  have hrun := run_make (P := P) w t e i z ht hi hiz k k' m m (by omega) (Int.le_refl _) hbz (by omega)
  simp only [Int.toNat_natCast, his] at hrun
  have hl : (List.replicate (m : Int).toNat (Arr.zero q)).length = m := by rw [List.length_replicate]; rfl
  refine ⟨w.heap.size, w.alloc (.cells (madeCells z.cells (m * q)) e), ?_, ?_⟩
  · intro d ty pos af gd
    unfold execOp
    simp only [hx, hy, Sem.run_bind, hl, Sem.run_pure]
    simp only [hrun, Result.andThen_ok]
  · have hml : (madeCells z.cells (m * q)).toList = List.replicate (m * q) (.int .u8 0) := by rw [hzc]; exact madeCells_rep hq _
    have H2 := (H.alloc (madeCells z.cells (m * q)).toList e)
    refine Hp.asOwn (kd := kA q) (g := w.heap.size) (cs := (madeCells z.cells (m * q)).toList) (by simpa using H2) ?_ (by rw [hl]; simp only [maxLen]; omega) fun Z _ j hj => ?_
    · rw [hl, hml, List.length_replicate]; rfl
    · have hj' : j < m := by simpa using hj
      show ((madeCells z.cells (m * q)).toList.drop (j * q)).take q = _
      have hle : j * q + q ≤ m * q := by rw [← Nat.succ_mul]; exact Nat.mul_le_mul_right _ hj'
      rw [hml, List.drop_replicate, List.take_replicate, show min q (m * q - j * q) = q from by omega]
      simp only [List.getElem_replicate]
      exact (arrOf_zero q).symm
end
end Go.Proofs.Ytpmkpiffbdcflaa
