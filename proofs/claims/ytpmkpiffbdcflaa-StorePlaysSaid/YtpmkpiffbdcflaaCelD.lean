/- Operations that read and write memory, over what is known of it. -/
import Derived.Test.YtpmkpiffbdcflaaCelC
set_option linter.unusedVariables false
set_option linter.unusedSimpArgs false
namespace Go.Proofs.Ytpmkpiffbdcflaa
open Go Go.RowKit
/-! ### Types -/
/-- A type of one cell; of so many, a struct's or an array's. -/
def oneB (P : Program) (t : TypeId) : Bool := match P.underlying t with | some (.struct _) => false | some (.array _ _) => false | some _ => true | none => false
def aggB (P : Program) (t : TypeId) (n : Nat) : Bool := (match P.underlying t with | some (.struct _) => true | some (.array _ _) => true | _ => false) && (match P.info? t with | some i => i.size == n | none => false)
def szB (P : Program) (t : TypeId) (n : Nat) : Bool := match P.info? t with | some i => i.size == n | none => false
/-- A type's row of the table. -/
def TI (P : Program) (e : TypeId) (z : Value) (size bytes : Nat) : Prop := (P.info? e).map (fun i => (i.zero, i.size, i.bytes)) = some (some z, size, bytes)
theorem TI.parts {P : Program} {e : TypeId} {z : Value} {size bytes : Nat} (h : TI P e z size bytes) : ∃ i, P.info? e = some i ∧ i.zero = some z ∧ i.size = size ∧ i.bytes = bytes := by
  obtain ⟨i, hi, hzz⟩ := Option.map_eq_some_iff.1 h
  simp only [Prod.mk.injEq] at hzz
  exact ⟨i, hi, hzz.1, hzz.2.1, hzz.2.2⟩
section
variable {P : Program} {ρ : Operand → Value} {d : Option Tmp} {ty : TypeId} {pos : String} {af : Array Edge} {gd : Option (Nat × Bool)} {w : World}
theorem run_isAgg0 {t : TypeId} (h : oneB P t = true) : (isAgg t).run P w = .ok false w := by
  unfold oneB at h
  unfold isAgg
  split at h
  · cases h
  · cases h
  · rename_i u h1 h2 hu
    rw [Sem.run_bind, run_underlying hu]
    simp only [Result.andThen_ok]
    rfl
  · cases h
/-! ### Loads -/
theorem run_ld1 {t : TypeId} {p : Addr} {v : Value} (h1 : oneB P t = true) (hc : w.cell? p = some v) : (Instr.loadAt t (.pointer (some p))).run P w = .ok v w := by
  simp only [Instr.loadAt, Instr.sureAddr, loadVar, Sem.run_bind, Sem.run_pure, Result.andThen_ok, run_isAgg0 h1, Bool.false_eq_true, if_false, run_load, hc]
theorem r_ld {t : TypeId} {x : Operand} {p : Addr} {v : Value} (hx : ρ x = .pointer (some p)) (hc : w.cell? p = some v) (h1 : oneB P t = true) : (execOp ρ ⟨d, .load t x, ty, pos, af, gd⟩).run P w = .ok (.value v) w := by
  unfold execOp
  simp only [hx, Sem.run_bind, run_ld1 h1 hc, Result.andThen_ok, Sem.run_pure]
theorem r_ldA {t : TypeId} {x : Operand} {g o n : Nat} {cs : List Value} (hx : ρ x = .pointer (some ⟨g, o, none⟩)) (hc : w.rangeAt g o cs) (h1 : aggB P t n = true) (hn : cs.length = n) : (execOp ρ ⟨d, .load t x, ty, pos, af, gd⟩).run P w = .ok (.value (.agg cs.toArray)) w := by
  unfold aggB at h1
  simp only [Bool.and_eq_true] at h1
  obtain ⟨hu, hi⟩ := h1
  have hi' : (P.info? t).map (·.size) = some cs.length := by
    cases hq : P.info? t with
    | none => simp [hq] at hi
    | some i => simp only [hq, beq_iff_eq] at hi; simp [hi, hn]
  have hrun : (Instr.loadAt t (.pointer (some ⟨g, o, none⟩))).run P w = .ok (.agg cs.toArray) w := by
    split at hu
    · rename_i fs hs
      exact run_loadAt_mid w g o t cs _ hc hs rfl hi'
    · rename_i k e hs
      exact run_loadAt_mid w g o t cs _ hc hs rfl hi'
    · cases hu
  unfold execOp
  simp only [hx, Sem.run_bind, hrun, Result.andThen_ok, Sem.run_pure]
end

/-! ### Cells that last -/
/-- Cells at a place that nobody writes any more. -/
def celz (g o : Nat) (cs : List Value) : PF := ⟨fun Z w => Z g ∧ w.rangeAt g o cs, fun h hz hs => ⟨hz _ h.1, fun j v hv => by rw [cell_same hs h.1]; exact h.2 j v hv⟩⟩
section
variable {P : Program} {w0 w : World} {ps : List PF} {fs : List SF}
theorem Hp.range {g o : Nat} {cs : List Value} (H : Hp w0 ps fs w) (i : Nat) (hi : ps[i]? = some (celz g o cs)) : w.rangeAt g o cs := by obtain ⟨Z, h⟩ := H.fact i hi; exact h.2
theorem cel_range {g o n : Nat} {cs vs : List Value} {t : TypeId} (h : w.heap[g]? = some (.cells cs.toArray t (0, 0))) (hv : (cs.drop o).take n = vs) : w.rangeAt g o vs := by
  intro j v hj
  subst hv
  rw [cell_of_row w g _ _ t (0, 0) h]
  have hjn : j < n := by
    have := (List.getElem?_eq_some_iff.1 hj).1
    rw [List.length_take] at this
    omega
  rw [List.getElem?_take_of_lt hjn, List.getElem?_drop] at hj
  simpa using hj
theorem cel_cell {g o : Nat} {cs : List Value} {v : Value} {t : TypeId} (h : w.heap[g]? = some (.cells cs.toArray t (0, 0))) (hv : cs[o]? = some v) : w.cell? ⟨g, o, none⟩ = some v := by
  rw [cell_of_row w g _ _ t (0, 0) h]
  simpa using hv
theorem range_cell {g o j : Nat} {cs : List Value} {v : Value} (h : w.rangeAt g o cs) (hv : cs[j]? = some v) : w.cell? ⟨g, o + j, none⟩ = some v := h j v hv
/-! ### Elements -/
theorem run_ix {t e : TypeId} {x ix : Operand} {ρ : Operand → Value} {d : Option Tmp} {ty : TypeId} {pos : String} {af : Array Edge} {gd : Option (Nat × Bool)} {A : Addr} {n c sz : Nat} {k : IntKind} {j : Int} (hx : ρ x = .slice (some A) n c) (hi : ρ ix = .int k j) (ht : P.underlying t = some (.slice e)) (hs : szB P e sz = true) (h0 : 0 ≤ j) (h1 : j < n) :
    (execOp ρ ⟨d, .indexAddr t x ix, ty, pos, af, gd⟩).run P w = .ok (.value (.pointer (some (A.add (j.toNat * sz))))) w := by
  unfold szB at hs
  split at hs
  · rename_i i hq
    have hs' : i.size = sz := by simpa using hs
    subst hs'
    unfold execOp
    simp [hx, hi, Instr.indexAt, asIntOf, run_underlying ht, h0, h1, sizeOf, run_typeInfo w hq, Result.andThen]
  · cases hs
/-- An element of a row that is read: its place, and what its cells say. -/
theorem Hp.ix {α : Type} {kd : Kd α} (x0 : α) {A : Option Addr} {c : Nat} {xs : List α} {t e : TypeId} {x ix : Operand} {ρ : Operand → Value} {k : IntKind} {j : Int} (H : Hp w0 ps fs w) (i : Nat) (hi : ps[i]? = some (rd kd A c xs)) (hx : ρ x = .slice A xs.length c) (hj : ρ ix = .int k j) (ht : P.underlying t = some (.slice e)) (hs : szB P e kd.sz = true) (hz : 0 < kd.sz) (h0 : 0 ≤ j) (h1 : j < xs.length) :
    ∃ g o cs, (∀ (d : Option Tmp) (ty : TypeId) (pos : String) (af : Array Edge) (gd : Option (Nat × Bool)) w', (execOp ρ ⟨d, .indexAddr t x ix, ty, pos, af, gd⟩).run P w' = .ok (.value (.pointer (some ⟨g, o, none⟩))) w') ∧ Hp w0 (celz g o cs :: says kd cs (xs.getD j.toNat x0) :: ps) fs w := by
  obtain ⟨Z, H⟩ := H
  have hR : Rows kd Z w A c xs := H.pers _ (List.mem_of_getElem? hi)
  obtain ⟨ad, cs, hA, hZ, hok, hc⟩ := hR.2.2 j.toNat (by omega)
  subst hA
  have hl := kd.len hok
  have hspot : (ad.add (j.toNat * kd.sz)).spot = none := by
    have h := hc 0 hz
    rw [List.getElem?_eq_getElem (by omega)] at h
    simp only [Nat.add_zero] at h
    unfold World.cell? at h
    split at h
    · split at h
      · cases h
      · rename_i hn; simpa using hn
    · cases h
  refine ⟨ad.block, (ad.add (j.toNat * kd.sz)).off, cs, fun d ty pos af gd w' => ?_, Z, H.os, H.tape, H.output, H.old, H.size, H.zlt, fun p hp => ?_, H.sep⟩
  · have hq := run_ix (w := w') (d := d) (ty := ty) (pos := pos) (af := af) (gd := gd) hx hj ht hs h0 h1
    rw [hq]
    congr 4
    rw [← addr_block ad (j.toNat * kd.sz)]
    rcases hb : ad.add (j.toNat * kd.sz) with ⟨b, o, s⟩
    rw [hb] at hspot
    simp only at hspot
    subst hspot
    rfl
  · rcases List.mem_cons.1 hp with rfl | hp
    · refine ⟨hZ, fun i v hv => ?_⟩
      have hil : i < kd.sz := by have := (List.getElem?_eq_some_iff.1 hv).1; omega
      rw [← hv, ← hc i hil]
      congr 1
      rcases hb : ad.add (j.toNat * kd.sz) with ⟨b, o, s⟩
      rw [hb] at hspot
      simp only at hspot
      subst hspot
      have hbl : b = ad.block := by have := addr_block ad (j.toNat * kd.sz); rw [hb] at this; exact this
      subst hbl
      rw [← addr_plain, ← hb]
      unfold Addr.add
      by_cases h1 : j.toNat * kd.sz = 0 <;> by_cases h2 : i = 0 <;> simp [h1, h2, Nat.add_assoc]
    · rcases List.mem_cons.1 hp with rfl | hp
      · show kd.ok Z w cs _
        rw [List.getD_eq_getElem?_getD, List.getElem?_eq_getElem (by omega)]
        exact hok
      · exact H.pers p hp
/-- What cells say, opened. -/
theorem Hp.says_slice {α : Type} {kd : Kd α} {cs : List Value} {xs : List α} (H : Hp w0 ps fs w) (i : Nat) (hi : ps[i]? = some (says (kSlice kd) cs xs)) : ∃ A c, cs = [.slice A xs.length c] ∧ Hp w0 (rd kd A c xs :: ps) fs w := by
  obtain ⟨Z, H⟩ := H
  obtain ⟨A, c, h1, h2⟩ := H.pers _ (List.mem_of_getElem? hi)
  exact ⟨A, c, h1, Z, H.os, H.tape, H.output, H.old, H.size, H.zlt, fun p hp => (List.mem_cons.1 hp).elim (fun e => e ▸ h2) (H.pers p), H.sep⟩
theorem Hp.says_int {k : IntKind} {cs : List Value} {x : Int} (H : Hp w0 ps fs w) (i : Nat) (hi : ps[i]? = some (says (kInt k) cs x)) : cs = [.int k x] := by obtain ⟨Z, h⟩ := H.fact i hi; exact h
theorem Hp.says_byte {cs : List Value} {x : Int} (H : Hp w0 ps fs w) (i : Nat) (hi : ps[i]? = some (says kByte cs x)) : cs = [.int .u8 x] ∧ 0 ≤ x ∧ x < 256 := by obtain ⟨Z, h⟩ := H.fact i hi; exact h
theorem Hp.says_bool {cs : List Value} {x : Bool} (H : Hp w0 ps fs w) (i : Nat) (hi : ps[i]? = some (says kBool cs x)) : cs = [.bool x] := by obtain ⟨Z, h⟩ := H.fact i hi; exact h
/-- Bytes as a string. -/
theorem Hp.bytes {A : Option Addr} {c : Nat} {xs : List Int} (H : Hp w0 ps fs w) (i : Nat) (hi : ps[i]? = some (rd kByte A c xs)) : Bytes xs := by
  obtain ⟨Z, hR⟩ := H.fact i hi
  intro x hx
  obtain ⟨j, hj, rfl⟩ := List.getElem_of_mem hx
  obtain ⟨_, _, _, _, h, _⟩ := hR.2.2 j hj
  exact h.2
theorem rows_cells {α : Type} {kd : Kd α} {Z : Nat → Prop} {ad : Addr} {c : Nat} {xs : List α} (hR : Rows kd Z w (some ad) c xs) : ∃ news : List Value, news.length = xs.length * kd.sz ∧ (∀ j u, news[j]? = some u → w.cell? (ad.add j) = some u) ∧ (∀ u ∈ news, u.oneCell' = true) ∧ ∀ j (h : j < xs.length), kd.ok Z w ((news.drop (j * kd.sz)).take kd.sz) xs[j] := by
  have key : ∀ n, n ≤ xs.length → ∃ news : List Value, news.length = n * kd.sz ∧ (∀ j u, news[j]? = some u → w.cell? (ad.add j) = some u) ∧ (∀ u ∈ news, u.oneCell' = true) ∧ ∀ j (h : j < n) (h' : j < xs.length), kd.ok Z w ((news.drop (j * kd.sz)).take kd.sz) xs[j] := by
    intro n
    induction n with
    | zero => exact fun _ => ⟨[], by simp, fun j u h => by simp at h, (fun u h => by cases h), fun j h => absurd h (Nat.not_lt_zero j)⟩
    | succ n ih =>
      intro hn
      obtain ⟨news, h1, h2, h3, h4⟩ := ih (by omega)
      obtain ⟨ad', cs, hA, hZ, hok, hc⟩ := hR.2.2 n (by omega)
      injection hA with hA
      subst hA
      have hl := kd.len hok
      refine ⟨news ++ cs, by rw [List.length_append, h1, hl, Nat.succ_mul], fun j u hu => ?_, fun u hu => (List.mem_append.1 hu).elim (h3 u) (kd.one hok u), fun j hj hj' => ?_⟩
      · rcases Nat.lt_or_ge j news.length with hlt | hge
        · rw [List.getElem?_append_left hlt] at hu
          exact h2 j u hu
        · rw [List.getElem?_append_right hge] at hu
          have hjl : j - news.length < kd.sz := by have := (List.getElem?_eq_some_iff.1 hu).1; omega
          rw [← hu, ← hc _ hjl]
          congr 2
          omega
      · rcases Nat.lt_or_ge j n with hlt | hge
        · have hk := h4 j hlt hj'
          have hle : j * kd.sz + kd.sz ≤ news.length := by rw [h1, ← Nat.succ_mul]; exact Nat.mul_le_mul_right _ hlt
          rw [List.drop_append_of_le_length (by omega), List.take_append_of_le_length (by rw [List.length_drop]; omega)]
          exact hk
        · have : j = n := by omega
          subst this
          rw [← h1, List.drop_left, List.take_of_length_le (by omega)]
          exact hok
  obtain ⟨news, h1, h2, h3, h4⟩ := key xs.length (Nat.le_refl _)
  exact ⟨news, h1, h2, h3, fun j hj => h4 j hj hj⟩
theorem Hp.str {A : Option Addr} {c : Nat} {xs : List Int} {s t e : TypeId} {x : Operand} {ρ : Operand → Value} {d : Option Tmp} {ty : TypeId} {pos : String} {af : Array Edge} {gd : Option (Nat × Bool)} (H : Hp w0 ps fs w) (i : Nat) (hi : ps[i]? = some (rd kByte A c xs)) (hx : ρ x = .slice A xs.length c) (hs : P.underlying s = some (.slice e)) (he : P.underlying e = some (.int .u8)) (ht : P.underlying t = some .string) :
    (execOp ρ ⟨d, .convert s t x, ty, pos, af, gd⟩).run P w = .ok (.value (.string (strOf xs))) w := by
  obtain ⟨Z, hR⟩ := H.fact i hi
  have hrun : (convert s t (.slice A xs.length c)).run P w = .ok (.string (strOf xs)) w := by
    rw [run_convert_bytes_string w s t e A xs.length c hs he ht]
    cases A with
    | none =>
      have : xs = [] := by
        cases xs with
        | nil => rfl
        | cons x xs => obtain ⟨_, _, h, _⟩ := hR.2.2 0 (by simp); cases h
      subst this
      simp [Conv.bytesToString, strOf]
      rfl
    | some ad =>
      obtain ⟨news, h1, h2, h3, h4⟩ := rows_cells hR
      have hn : news = xs.map (Value.int .u8) := by
        apply List.ext_getElem?
        intro j
        rcases Nat.lt_or_ge j xs.length with hj | hj
        · have hk := (h4 j hj).1
          have h1' : news.length = xs.length := by rw [h1]; exact Nat.mul_one _
          have : (news.drop (j * kByte.sz)).take kByte.sz = [news[j]'(by omega)] := by
            show (news.drop (j * 1)).take 1 = _
            rw [Nat.mul_one, List.take_one, List.head?_drop, List.getElem?_eq_getElem (by omega)]
            rfl
          rw [this] at hk
          injection hk with hk _
          rw [List.getElem?_eq_getElem (by omega), hk, List.getElem?_map, List.getElem?_eq_getElem hj]
          rfl
        · rw [List.getElem?_eq_none (by rw [h1]; show xs.length * 1 ≤ j; omega), List.getElem?_eq_none (by simpa using hj)]
      have hl : (loadCells ad xs.length).run P w = .ok (xs.map (Value.int .u8)).toArray w := by
        have := run_loadCells_list (P := P) w ad (xs.map (Value.int .u8)) (fun j v hv => h2 j v (by rw [hn]; exact hv))
        simpa using this
      rw [run_bytesToString w ad xs.length c xs hl]
      rw [foldl_push_bytes]
      simp [strOf]
  unfold execOp
  simp only [hx, Sem.run_bind, hrun, Result.andThen_ok, Sem.run_pure]
end
end Go.Proofs.Ytpmkpiffbdcflaa
