/- Rows of one's own, written in place; places in arrays; slices cut. -/
import Derived.Test.YtpmkpiffbdcflaaCelE
set_option linter.unusedVariables false
set_option linter.unusedSimpArgs false
namespace Go.Proofs.Ytpmkpiffbdcflaa
open Go Go.RowKit
section
variable {P : Program} {ρ : Operand → Value} {d : Option Tmp} {ty : TypeId} {pos : String} {af : Array Edge} {gd : Option (Nat × Bool)} {w w0 : World} {ps : List PF} {fs : List SF}
/-! ### More of rows -/
theorem r_ixa {t e : TypeId} {x ix : Operand} {g o m sz : Nat} {k : IntKind} {j : Int} (hx : ρ x = .pointer (some ⟨g, o, none⟩)) (hi : ρ ix = .int k j) (ht : P.underlying t = some (.array m e)) (hs : szB P e sz = true) (h0 : 0 ≤ j) (h1 : j < m) :
    (execOp ρ ⟨d, .indexAddr t x ix, ty, pos, af, gd⟩).run P w = .ok (.value (.pointer (some ⟨g, o + j.toNat * sz, none⟩))) w := by
  unfold szB at hs
  split at hs
  · rename_i i hq
    have hs' : i.size = sz := by simpa using hs
    subst hs'
    unfold execOp
    simp [hx, hi, Instr.indexAt, Instr.sureAddr, asIntOf, run_underlying ht, h0, h1, sizeOf, run_typeInfo w hq, Result.andThen, addr_plain]
  · cases hs
theorem Hp.rdnil {α : Type} {kd : Kd α} {c : Nat} {xs : List α} (H : Hp w0 ps fs w) (i : Nat) (hi : ps[i]? = some (rd kd none c xs)) : xs = [] := by
  obtain ⟨Z, hR⟩ := H.fact i hi
  cases xs with
  | nil => rfl
  | cons y ys => obtain ⟨_, _, h, _⟩ := hR.2.2 0 (by simp); cases h
theorem putAt_get {o : Nat} {vs cs : List Value} (h : o + vs.length ≤ cs.length) (i : Nat) : (putAt o vs cs)[i]? = if i < o then cs[i]? else if i < o + vs.length then vs[i - o]? else cs[i]? := by
  unfold putAt
  by_cases h1 : i < o
  · rw [if_pos h1, List.append_assoc, List.getElem?_append_left (by rw [List.length_take]; omega), List.getElem?_take_of_lt h1]
  · rw [if_neg h1]
    by_cases h2 : i < o + vs.length
    · rw [if_pos h2, List.append_assoc, List.getElem?_append_right (by rw [List.length_take]; omega), List.length_take, show min o cs.length = o from by omega, List.getElem?_append_left (by omega)]
    · rw [if_neg h2, List.getElem?_append_right (by rw [List.length_append, List.length_take]; omega), List.length_append, List.length_take, show min o cs.length = o from by omega, List.getElem?_drop]
      congr 1
      omega
theorem putAt_len {o : Nat} {vs cs : List Value} (h : o + vs.length ≤ cs.length) : (putAt o vs cs).length = cs.length := by
  unfold putAt
  rw [List.length_append, List.length_append, List.length_take, List.length_drop]
  omega
/-- A store into a row of one's own. -/
theorem Hp.setOwn {α : Type} {kd : Kd α} {e' t : TypeId} {x y : Operand} {g c : Nat} {xs : List α} {j : Nat} {cs1 : List Value} {v : Value} {x1 : α} (H : Hp w0 ps (own kd e' (some ⟨g, 0, none⟩) c xs :: fs) w) (hx : ρ x = .pointer (some ⟨g, j * kd.sz, none⟩)) (hy : ρ y = v) (hv : v.cells.toList = cs1) (hs : szB P t kd.sz = true) (hj : j < xs.length) (hsay : ∀ Z, (∀ p ∈ ps, p.p Z w) → kd.ok Z w cs1 x1) :
    ∃ w', (∀ (ty : TypeId) (pos : String) (af : Array Edge) (gd : Option (Nat × Bool)), (execOp ρ ⟨none, .store t x y, ty, pos, af, gd⟩).run P w = .ok .skip w') ∧ Hp w0 ps (own kd e' (some ⟨g, 0, none⟩) c (xs.set j x1) :: fs) w' := by
  obtain ⟨Z0, H0⟩ := id H
  obtain ⟨U0, _, ⟨_, cs0, hown0, hbl0, hok0⟩, _⟩ := H0.sep
  have hs1 := hsay Z0 H0.pers
  have hn := kd.len hs1
  have h1 := kd.one hs1
  rcases hown0.2 with ⟨hv0, hn0⟩ | ⟨g', cap, cur, hv0, _, hh, hnc, hcm, hcs, hcur⟩
  · omega
  injection hv0 with hA _ hc
  injection hA with hA
  injection hA with hA
  subst hA hc
  obtain ⟨l, rfl⟩ : ∃ l : List Value, cur = l.toArray := ⟨cur.toList, by simp⟩
  simp only [List.size_toArray] at hcs hcur
  have hjs : j * kd.sz + kd.sz ≤ xs.length * kd.sz := by rw [← Nat.succ_mul]; exact Nat.mul_le_mul_right _ hj
  have hlc : xs.length * kd.sz ≤ l.length := by rw [hcs]; exact Nat.mul_le_mul_right _ hnc
  have hl0 : cs0.length = xs.length * kd.sz := hown0.1
  have hle : j * kd.sz + cs1.length ≤ l.length := by omega
  have hle0 : j * kd.sz + cs1.length ≤ cs0.length := by omega
  have hb1 := set_row (g := g) (e := e') cs1 (j * kd.sz) w l hh hle
  obtain ⟨s1, s2, s3, s4⟩ := set_same (g := g) cs1 (j * kd.sz) w
  have hfar : ∀ b, b ≠ g → (w.setCells g (j * kd.sz) cs1).heap[b]? = w.heap[b]? := fun b hb => set_far _ _ b hb
  unfold szB at hs
  split at hs
  · rename_i i hi
    have hsz : i.size = kd.sz := by simpa using hs
    refine ⟨w.setCells g (j * kd.sz) cs1, ?_, ?_⟩
    · have hcell : ∀ q, q < cs1.length → (w.cell? ⟨g, j * kd.sz + q, none⟩).isSome = true := fun q hq => by
        rw [cell_of_row w g _ _ e' (0, 0) hh]
        simp
        omega
      have hfro : ∀ q, q < cs1.length → w.frozen? ⟨g, j * kd.sz + q, none⟩ = false := fun q _ => by simp [World.frozen?, hh]
      have hrun := run_storeCells_cells (P := P) g (j * kd.sz) cs1 0 w (fun q hq => by simpa using hcell q hq) (fun q hq => by simpa using hfro q hq) h1
      intro ty pos af gd
      unfold execOp
      have hvs : v.cells.size = i.size := by rw [← Array.length_toList, hv, hn, hsz]
      have hst : (Instr.storeAt t (.pointer (some ⟨g, j * kd.sz, none⟩)) v).run P w = .ok () (w.setCells g (j * kd.sz) cs1) := by
        simp only [Instr.storeAt, Instr.sureAddr, Sem.run_bind, Sem.run_pure, Result.andThen_ok, storeVar, sizeOf, run_typeInfo w hi, hvs, ne_eq, not_true_eq_false, if_false, hv]
        simpa using hrun
      simp only [hx, hy, Sem.run_bind, hst, Result.andThen_ok, Sem.run_pure]
    · generalize hw : w.setCells g (j * kd.sz) cs1 = w' at *
      refine H.turn (Fs := [own kd e' (some ⟨g, 0, none⟩) c xs]) [] [own kd e' (some ⟨g, 0, none⟩) c (xs.set j x1)] s1 s2 s3 (Nat.le_of_eq s4.symm) ?_
      rintro Z T ⟨U, hU, ⟨hUA, cs, hown, hbl, hok⟩, _⟩ ht hz htz hps
      have hcs' : cs = cs0 := by
        rcases hown.2 with ⟨hv', _⟩ | ⟨g', cap', cur', hv', _, hh', _, _, _, hcur'⟩
        · cases hv'
        · injection hv' with hA' _ _
          injection hA' with hA'
          injection hA' with hA'
          subst hA'
          rw [hh] at hh'
          injection hh' with hh'
          injection hh' with hh'
          subst hh'
          rw [← hcur', ← hcur]
      subst hcs'
      have hTg : T g := hU g (hbl g rfl)
      have hsame : ∀ b, b < w.heap.size → ¬ T b → w'.heap[b]? = w.heap[b]? := fun b _ hb => hfar b fun e => hb (e ▸ hTg)
      have hZs : Same Z w w' := fun b hb => hsame b (hz b hb) fun hT => htz b hT hb
      refine ⟨hsame, Z, fun b => b = g, fun _ h => h, fun b h hn => absurd h hn, ?_, ⟨fun b => b = g, fun _ h => h, ⟨fun b hb => ⟨0, by rw [hb]⟩, putAt (j * kd.sz) cs1 cs, ⟨?_, .inr ⟨g, c, _, by rw [List.length_set], Nat.zero_le _, hb1, by rw [List.length_set]; exact hnc, hcm, ?_, ?_⟩⟩, fun k hk => ?_, fun q hq => ?_⟩, trivial⟩, fun _ h => by cases h⟩
      · rintro b rfl
        exact ⟨.inl hTg, htz b hTg, by rw [s4]; exact ht b hTg⟩
      · rw [putAt_len hle0, List.length_set]; exact hl0
      · rw [List.size_toArray, putAt_len hle]; exact hcs
      · rw [List.length_set]
        apply List.ext_getElem?
        intro q
        rcases Nat.lt_or_ge q (xs.length * kd.sz) with hq | hq
        · have hq2 : l[q]? = cs[q]? := by rw [← hcur, List.getElem?_take_of_lt hq]
          rw [List.getElem?_take_of_lt hq, putAt_get hle, putAt_get hle0, hq2]
        · rw [List.getElem?_eq_none (by rw [List.length_take]; omega), List.getElem?_eq_none (by rw [putAt_len hle0]; omega)]
      · have : g = k := by simpa [Value.ownBlock] using hk
        exact this.symm
      · have hqx : q < xs.length := by rw [List.length_set] at hq; exact hq
        by_cases hqj : q = j
        · subst hqj
          rw [List.getElem_set_self]
          have e1 : ((putAt (q * kd.sz) cs1 cs).drop (q * kd.sz)).take kd.sz = cs1 := by
            unfold putAt
            rw [List.append_assoc, List.drop_left' (by rw [List.length_take]; omega), List.take_left' hn]
          rw [e1]
          exact kd.stb (hsay Z hps) (fun _ h => h) hZs
        · rw [List.getElem_set_ne (by omega)]
          have e1 : ((putAt (j * kd.sz) cs1 cs).drop (q * kd.sz)).take kd.sz = (cs.drop (q * kd.sz)).take kd.sz := by
            apply List.ext_getElem?
            intro p
            rcases Nat.lt_or_ge p kd.sz with hp | hp
            · rw [List.getElem?_take_of_lt hp, List.getElem?_take_of_lt hp, List.getElem?_drop, List.getElem?_drop, putAt_get hle0]
              rcases Nat.lt_or_ge q j with hqj' | hqj'
              · have : q * kd.sz + kd.sz ≤ j * kd.sz := by rw [← Nat.succ_mul]; exact Nat.mul_le_mul_right _ hqj'
                rw [if_pos (by omega)]
              · have : j * kd.sz + kd.sz ≤ q * kd.sz := by rw [← Nat.succ_mul]; exact Nat.mul_le_mul_right _ (by omega)
                rw [if_neg (by omega), if_neg (by omega)]
            · rw [List.getElem?_eq_none (by rw [List.length_take]; omega), List.getElem?_eq_none (by rw [List.length_take]; omega)]
          rw [e1]
          exact kd.stb (hok q hqx) (fun _ h => h) hZs
  · cases hs
/-- An element of a row of one's own, and where the row lies. -/
theorem Hp.ixOwn2 {α : Type} {kd : Kd α} (x0 : α) {A : Option Addr} {c : Nat} {xs : List α} {t e e' : TypeId} {x ix : Operand} {ρ : Operand → Value} {k : IntKind} {j : Int} (H : Hp w0 ps fs w) (i : Nat) (hi : fs[i]? = some (own kd e' A c xs)) (hx : ρ x = .slice A xs.length c) (hj : ρ ix = .int k j) (ht : P.underlying t = some (.slice e)) (hs : szB P e kd.sz = true) (hz : 0 < kd.sz) (h0 : 0 ≤ j) (h1 : j < xs.length) :
    ∃ g cs, A = some ⟨g, 0, none⟩ ∧ (∀ (d : Option Tmp) (ty : TypeId) (pos : String) (af : Array Edge) (gd : Option (Nat × Bool)) w', (execOp ρ ⟨d, .indexAddr t x ix, ty, pos, af, gd⟩).run P w' = .ok (.value (.pointer (some ⟨g, j.toNat * kd.sz, none⟩))) w') ∧ w.rangeAt g (j.toNat * kd.sz) cs ∧ Hp w0 (says kd cs (xs.getD j.toNat x0) :: ps) fs w := by
  obtain ⟨Z, H⟩ := H
  obtain ⟨T, _, ⟨_, cs, hown, hbl, hok⟩, _⟩ := H.sep.front i hi
  have hlt : j.toNat < xs.length := by omega
  rcases hown.2 with ⟨hv, hn⟩ | ⟨g, cap, cur, hv, _, hh, hnc, hcm, hcs, hcur⟩
  · omega
  · injection hv with hA _ hc
    subst hA hc
    refine ⟨g, (cs.drop (j.toNat * kd.sz)).take kd.sz, rfl, fun d ty pos af gd w' => ?_, fun q v hq => ?_, Z, H.os, H.tape, H.output, H.old, H.size, H.zlt, fun p hp => ?_, H.sep⟩
    · have hq := run_ix (w := w') (d := d) (ty := ty) (pos := pos) (af := af) (gd := gd) hx hj ht hs h0 h1
      rw [hq, addr_plain, Nat.zero_add]
    · have hql : q < kd.sz := by
        have := (List.getElem?_eq_some_iff.1 hq).1
        rw [List.length_take] at this
        omega
      rw [List.getElem?_take_of_lt hql, List.getElem?_drop] at hq
      rw [hown.cellAt (j.toNat * kd.sz + q) (Nat.lt_of_lt_of_le (by omega : j.toNat * kd.sz + q < j.toNat * kd.sz + kd.sz) (by rw [← Nat.succ_mul]; exact Nat.mul_le_mul_right _ hlt))]
      exact hq
    · rcases List.mem_cons.1 hp with rfl | hp
      · show kd.ok Z w _ _
        rw [List.getD_eq_getElem?_getD, List.getElem?_eq_getElem hlt]
        exact hok _ hlt
      · exact H.pers p hp
end
end Go.Proofs.Ytpmkpiffbdcflaa
