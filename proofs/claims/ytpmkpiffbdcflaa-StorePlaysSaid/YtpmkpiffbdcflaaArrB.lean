/- Structs with an array at their end, built. -/
import Derived.Test.YtpmkpiffbdcflaaMap
set_option linter.unusedVariables false
set_option linter.unusedSimpArgs false
namespace Go.Proofs.Ytpmkpiffbdcflaa
open Go Go.RowKit
theorem fold_put (off : Nat) : ∀ (v : List Value) (k : Nat) (cells : Array Value), off + k + v.length ≤ cells.size → ((v.zipIdx k).foldl (fun cs p => cs.setIfInBounds (off + p.2) p.1) cells).toList = putAt (off + k) v cells.toList
  | [], k, cells, _ => by simp [putAt]
  | c :: v, k, cells, h => by
    simp only [List.length_cons] at h
    rw [List.zipIdx_cons, List.foldl_cons, fold_put off v (k + 1) _ (by simp; omega)]
    unfold putAt
    have e1 : off + (k + 1) = (off + k) + 1 := by omega
    simp only [Array.toList_setIfInBounds, List.length_cons, e1]
    rw [List.take_set, List.drop_set_of_lt (by omega), List.take_succ_eq_append_getElem (by simp; omega)]
    rw [List.set_append_right _ _ (by simp; omega)]
    simp [show min (off + k) cells.size = off + k from by omega, show off + k + (v.length + 1) = off + k + 1 + v.length from by omega]
theorem fold_put' (off : Nat) (v : Array Value) (cells : Array Value) (h : off + v.size ≤ cells.size) : (v.zipIdx.foldl (fun cs (x : Value × Nat) => match x with | (c, j) => cs.setIfInBounds (off + j) c) cells).toList = putAt off v.toList cells.toList := by
  have h1 := fold_put off v.toList 0 cells (by simpa using h)
  rw [← Array.foldl_toList, Array.toList_zipIdx]
  exact h1
section
variable {P : Program} {ops : Array Oper} {Q : Exit → Act → World → Prop} {K : Act → World → Prop} {a : Act} {w : World}
end
section
variable {P : Program} {w w0 : World} {ps : List PF} {fs : List SF}
/-- An element of a row of one's own, as it lies. -/
theorem Hp.ownAt {α : Type} {kd : Kd α} (x0 : α) {g c : Nat} {xs : List α} {e' : TypeId} {j : Int} (H : Hp w0 ps fs w) (i : Nat) (hi : fs[i]? = some (own kd e' (some ⟨g, 0, none⟩) c xs)) (h0 : 0 ≤ j) (h1 : j < xs.length) :
    ∃ cs Z, w.rangeAt g (j.toNat * kd.sz) cs ∧ kd.ok Z w cs (xs.getD j.toNat x0) := by
  obtain ⟨Z, H⟩ := H
  obtain ⟨T, _, ⟨_, cs, hown, hbl, hok⟩, _⟩ := H.sep.front i hi
  have hlt : j.toNat < xs.length := by omega
  rcases hown.2 with ⟨hv, hn⟩ | ⟨g', cap, cur, hv, _, hh, hnc, hcm, hcs, hcur⟩
  · cases hv
  · injection hv with hA _ hc
    injection hA with hA
    injection hA with hA
    subst hA
    refine ⟨(cs.drop (j.toNat * kd.sz)).take kd.sz, Z, fun q v hq => ?_, ?_⟩
    · have hql : q < kd.sz := by
        have := (List.getElem?_eq_some_iff.1 hq).1
        rw [List.length_take] at this
        omega
      rw [List.getElem?_take_of_lt hql, List.getElem?_drop] at hq
      rw [hown.cellAt (j.toNat * kd.sz + q) (Nat.lt_of_lt_of_le (by omega : j.toNat * kd.sz + q < j.toNat * kd.sz + kd.sz) (by rw [← Nat.succ_mul]; exact Nat.mul_le_mul_right _ hlt))]
      exact hq
    · rw [List.getD_eq_getElem?_getD, List.getElem?_eq_getElem hlt]
      exact hok _ hlt
theorem Hp.ownAt2 {α : Type} {kd : Kd α} (x0 : α) {g c : Nat} {A : Option Addr} {xs : List α} {e' : TypeId} {j : Int} (H : Hp w0 ps fs w) (i : Nat) (hi : fs[i]? = some (own kd e' A c xs)) (hA : A = some ⟨g, 0, none⟩) (h0 : 0 ≤ j) (h1 : j < xs.length) :
    ∃ cs Z, w.rangeAt g (j.toNat * kd.sz) cs ∧ kd.ok Z w cs (xs.getD j.toNat x0) := by
  subst hA
  exact H.ownAt x0 i hi h0 h1
end
section
variable {P : Program} {w : World}
theorem fill_cons {place : Nat → Option (Nat × Nat)} {cells : Array Value} {i off size : Nat} {v : Value} {rest : List (Nat × Value)} (hp : place i = some (off, size)) (hs : v.cells.size = size) (hle : off + size ≤ cells.size) :
    Instr.fill place cells ((i, v) :: rest) = Instr.fill place (putAt off v.cells.toList cells.toList).toArray rest := by
  have h1 := fold_put' off v.cells cells (by omega)
  have h2 : v.cells.zipIdx.foldl (fun cs (x : Value × Nat) => match x with | (c, j) => cs.setIfInBounds (off + j) c) cells = (putAt off v.cells.toList cells.toList).toArray := by
    rw [← h1, Array.toArray_toList]
  subst hs
  have hg : ¬ (v.cells.size ≠ v.cells.size ∨ off + v.cells.size > cells.size) := by omega
  simp only [Instr.fill, hp]
  rw [if_neg (by simpa using hle)]
  exact congrArg (fun c => Instr.fill place c rest) h2
/-- 'T{a, x}': a number, and an array. -/
theorem bdW {n : Nat} {t : TypeId} {z : Value} {b : Nat} {fields : Array Field} {a : Int} {x : Arr n} (hz : TI P t z (n + 1) b) (hzc : z.cells.size = n + 1) (hu : P.underlying t = some (.struct fields)) (hpl : ∀ w, (fields.mapM fun f => do pure (f.offset, ← sizeOf f.type) : Sem (Array (Nat × Nat))).run P w = .ok #[(0, 1), (1, n)] w) :
    (Instr.build t #[(0, .int .i64 a), (1, .agg (arrOf x.l).toArray)]).run P w = .ok (.agg (Value.int .i64 a :: arrOf x.l).toArray) w := by
  obtain ⟨i, hi, hiz, _, _⟩ := hz.parts
  have hzero : (zeroValue t).run P w = .ok z w := by simp [zeroValue, run_typeInfo w hi, hiz, Result.andThen]
  have hxl := arr_len x
  have hf : Instr.fill (fun j => (#[(0, 1), (1, n)] : Array (Nat × Nat))[j]?) z.cells [(0, .int .i64 a), (1, .agg (arrOf x.l).toArray)] = some (Value.int .i64 a :: arrOf x.l).toArray := by
    rw [fill_cons (off := 0) (size := 1) rfl rfl (by omega)]
    have hzl : z.cells.toList.length = n + 1 := by simpa using hzc
    generalize z.cells.toList = zl at hzl ⊢
    match zl, hzl with
    | q :: qs, hzl =>
      have hqs : qs.length = n := by simpa using hzl
      rw [fill_cons (off := 1) (size := n) rfl (by simpa [Value.cells] using hxl) (by simp [putAt, Value.cells, hqs]; omega)]
      simp only [Instr.fill, Value.cells]
      congr 1
      congr 1
      simp [putAt, hxl, hqs]
      omega
  unfold Instr.build
  simp only [Sem.run_bind, hzero, Result.andThen_ok, run_underlying hu, hpl, hf]
  rfl
/-- 'append(row, T{..})': the one element. -/
theorem bsA {t e : TypeId} {cs : List Value} {m b : Nat} {z : Value} (ht : P.underlying t = some (.slice e)) (hz : TI P e z m b) (hzc : z.cells.size = m) (hm : 0 < m ∧ m < 65536) (hl : cs.length = m) :
    (Instr.buildSlice t 1 #[(0, .agg cs.toArray)]).run P w = .ok (.slice (some ⟨w.heap.size, 0, none⟩) 1 1) (w.alloc (.cells cs.toArray e)) := by
  obtain ⟨i, hi, hiz, his, _⟩ := hz.parts
  have hzero : (zeroValue e).run P w = .ok z w := by simp [zeroValue, run_typeInfo w hi, hiz, Result.andThen]
  have hsz : (sizeOf e).run P w = .ok m w := by simp [sizeOf, run_typeInfo w hi, his, Result.andThen]
  have hf : Instr.fill (fun j => some (j * m, m)) ((Array.range (1 * m)).map (z.cells[· % z.cells.size]!)) [(0, .agg cs.toArray)] = some cs.toArray := by
    rw [fill_cons (off := 0) (size := m) (by simp) (by simpa [Value.cells] using hl) (by simp)]
    simp [Instr.fill, Value.cells, putAt, hl]
  have h1 : ¬ (1 * m > 2 ^ 24) := by omega
  have h2 : ¬ (1 * m = 0) := by omega
  unfold Instr.buildSlice
  simp only [Sem.run_bind, run_underlying ht, hsz, Result.andThen_ok, if_neg h1, if_neg h2, hzero, Sem.run_pure, hf]
  simp [newRow, Result.andThen]
end
end Go.Proofs.Ytpmkpiffbdcflaa
