/- Arrays of bytes: as rows of one's own. -/
import Derived.Test.YtpmkpiffbdcflaaCelH
set_option linter.unusedVariables false
set_option linter.unusedSimpArgs false
namespace Go.Proofs.Ytpmkpiffbdcflaa
open Go Go.RowKit
section
variable {P : Program} {ρ : Operand → Value} {d : Option Tmp} {ty : TypeId} {pos : String} {af : Array Edge} {gd : Option (Nat × Bool)} {w w0 : World} {ps : List PF} {fs : List SF}
/-- The cells of bytes. -/
def arrOf (xs : List Int) : List Value := xs.map (Value.int .u8 ·)
theorem arrOf_len (xs : List Int) : (arrOf xs).length = xs.length := List.length_map ..
theorem arrOf_at {xs : List Int} {j : Nat} (hj : j < xs.length) : ((arrOf xs).drop j).take 1 = [Value.int .u8 xs[j]] := by
  unfold arrOf
  rw [List.drop_eq_getElem_cons (by rw [List.length_map]; exact hj), List.take_succ_cons, List.take_zero, List.getElem_map]
theorem arrOf_one (xs : List Int) : ∀ u ∈ arrOf xs, u.oneCell' = true := by
  intro u hu
  obtain ⟨x, _, rfl⟩ := List.mem_map.1 hu
  rfl
/-- A block of bytes as a row of one's own. -/
theorem Hp.arrOwn {g : Nat} {t : TypeId} {xs : List Int} (H : Hp w0 ps (cel g (arrOf xs) t :: fs) w) (hb : Bytes xs) (hm : xs.length ≤ maxLen) : Hp w0 ps (own kByte t (some ⟨g, 0, none⟩) xs.length xs :: fs) w :=
  H.asOwn (kd := kByte) (by simp only [kByte, Nat.mul_one]; exact arrOf_len xs) hm fun Z _ j hj => ⟨by simp only [kByte, Nat.mul_one]; exact arrOf_at hj, hb _ (List.getElem_mem hj)⟩
theorem own_arr {Z T : Nat → Prop} {e : TypeId} {g c : Nat} {xs : List Int} (h : Own kByte Z T w e (some ⟨g, 0, none⟩) c xs) : w.ownsRow 0 e 1 (.slice (some ⟨g, 0, none⟩) xs.length c) xs.length (arrOf xs) ∧ Bytes xs ∧ T g := by
  obtain ⟨_, cs, hown, hbl, hok⟩ := h
  have hl : cs.length = xs.length := by have := hown.1; simp only [kByte, Nat.mul_one] at this; exact this
  have hcs : cs = arrOf xs := by
    apply List.ext_getElem (by rw [hl, arrOf_len])
    intro j h1 h2
    have h3 := (hok j (by omega)).1
    simp only [kByte, Nat.mul_one] at h3
    rw [List.drop_eq_getElem_cons h1, List.take_succ_cons] at h3
    injection h3 with h3 _
    rw [h3]
    simp [arrOf]
  subst hcs
  refine ⟨hown, fun x hx => ?_, hbl g rfl⟩
  obtain ⟨j, hj, rfl⟩ := List.getElem_of_mem hx
  exact (hok j hj).2
/-- The bytes of a row of one's own, in its block. -/
theorem Hp.arrRange {g c : Nat} {t : TypeId} {xs : List Int} (H : Hp w0 ps fs w) (i : Nat) (hi : fs[i]? = some (own kByte t (some ⟨g, 0, none⟩) c xs)) : w.rangeAt g 0 (arrOf xs) ∧ Bytes xs := by
  obtain ⟨Z, H⟩ := H
  obtain ⟨T, _, h, _⟩ := H.sep.front i hi
  obtain ⟨h1, h2, _⟩ := own_arr h
  refine ⟨fun q v hq => ?_, h2⟩
  rw [Nat.zero_add, h1.cellAt q (by have := (List.getElem?_eq_some_iff.1 hq).1; rw [arrOf_len] at this; omega)]
  exact hq
/-- A row of one's own that fills its block, as the block. -/
theorem Hp.arrCel {g : Nat} {t : TypeId} {xs : List Int} (H : Hp w0 ps (own kByte t (some ⟨g, 0, none⟩) xs.length xs :: fs) w) : Hp w0 ps (cel g (arrOf xs) t :: fs) w := by
  refine H.turn (Fs := [own kByte t (some ⟨g, 0, none⟩) xs.length xs]) [] [cel g (arrOf xs) t] rfl rfl rfl (Nat.le_refl _) ?_
  rintro Z T ⟨U, hU, hown, _⟩ ht hz htz _
  obtain ⟨h1, _, h3⟩ := own_arr hown
  have hb : w.heap[g]? = some (.cells (arrOf xs).toArray t (0, 0)) := by
    rcases h1.2 with ⟨hv, _⟩ | ⟨g', cap, cur, hv, _, hh, _, _, hcs, hcur⟩
    · cases hv
    · injection hv with hA _ hc
      injection hA with hA
      injection hA with hA
      subst hA hc
      rw [hh]
      have : cur.toList = arrOf xs := by rw [← hcur, List.take_of_length_le (by rw [Array.length_toList]; omega)]
      rw [← this]
  exact ⟨fun _ _ _ => rfl, Z, fun b => b = g, fun _ h => h, fun b h hn => absurd h hn, fun b hb' => by subst hb'; exact ⟨.inl (hU _ h3), htz _ (hU _ h3), ht _ (hU _ h3)⟩, ⟨fun b => b = g, fun _ h => h, ⟨hb, fun _ => Iff.rfl⟩, trivial⟩, fun _ h => by cases h⟩
/-- A place in an array. -/
theorem r_ixArr {t e : TypeId} {x ix : Operand} {g m sz : Nat} {k : IntKind} {j : Int} (hx : ρ x = .pointer (some ⟨g, 0, none⟩)) (hi : ρ ix = .int k j) (ht : P.underlying t = some (.array m e)) (hs : szB P e sz = true) (h0 : 0 ≤ j) (h1 : j < m) :
    (execOp ρ ⟨d, .indexAddr t x ix, ty, pos, af, gd⟩).run P w = .ok (.value (.pointer (some ⟨g, j.toNat * sz, none⟩))) w := by
  have h := r_ixa (P := P) (w := w) (d := d) (ty := ty) (pos := pos) (af := af) (gd := gd) hx hi ht hs h0 h1
  rw [Nat.zero_add] at h
  exact h
theorem arrOf_take (xs : List Int) (n : Nat) : arrOf (xs.take n) = (arrOf xs).take n := by unfold arrOf; rw [List.map_take]
theorem arrOf_put {xs ys : List Int} {lo : Nat} : putAt lo (arrOf ys) (arrOf xs) = arrOf (xs.take lo ++ ys ++ xs.drop (lo + ys.length)) := by
  unfold putAt arrOf
  rw [List.map_append, List.map_append, List.map_take, List.map_drop, List.length_map]
theorem arr_rows {Z : Nat → Prop} {ad : Addr} {c : Nat} {ys : List Int} (h : Rows kByte Z w (some ad) c ys) : ∀ j u, (arrOf ys)[j]? = some u → w.cell? (ad.add j) = some u := by
  intro j u hu
  have hj : j < ys.length := by have := (List.getElem?_eq_some_iff.1 hu).1; rw [arrOf_len] at this; exact this
  obtain ⟨ad', cs, hA, _, hok, hc⟩ := h.2.2 j hj
  injection hA with hA
  subst hA
  have h0 := hc 0 (by decide)
  rw [hok.1] at h0
  simp only [kByte, Nat.mul_one, Nat.add_zero, List.getElem?_cons_zero] at h0
  rw [h0, ← hu]
  simp [arrOf, hj]
/-- 'copy(array[lo:], row)'. -/
theorem Hp.copyArr {t dt stt e : TypeId} {g : Nat} {xs ys : List Int} {B : Option Addr} {c2 lo dl dc : Nat} {x y : Operand} (H : Hp w0 ps (own kByte t (some ⟨g, 0, none⟩) xs.length xs :: fs) w) (i : Nat) (hi : ps[i]? = some (rd kByte B c2 ys)) (hx : ρ x = .slice (some ⟨g, lo, none⟩) dl dc) (hy : ρ y = .slice B ys.length c2) (ht : P.underlying dt = some (.slice e)) (hs : szB P e 1 = true) (hlo : lo + dl = xs.length) (hm : xs.length ≤ maxLen) :
    ∃ w', (∀ (d : Option Tmp) (ty : TypeId) (pos : String) (af : Array Edge) (gd : Option (Nat × Bool)), (execOp ρ ⟨d, .call ⟨.builtin .copy, #[x, y], #[dt, stt]⟩, ty, pos, af, gd⟩).run P w = .ok (.value (.int .i64 ((min ys.length dl : Nat) : Int))) w') ∧ Hp w0 ps (own kByte t (some ⟨g, 0, none⟩) (xs.take lo ++ ys.take (min ys.length dl) ++ xs.drop (lo + min ys.length dl)).length (xs.take lo ++ ys.take (min ys.length dl) ++ xs.drop (lo + min ys.length dl)) :: fs) w' := by
  obtain ⟨_, hbx⟩ := H.arrRange 0 rfl
  have hby := H.bytes i hi
  obtain ⟨Zr, hR⟩ := H.fact i hi
  have H1 := H.arrCel
  have hb := H1.cell 0 rfl
  obtain ⟨n, hn⟩ : ∃ n, n = min ys.length dl := ⟨_, rfl⟩
  rw [← hn]
  have hny : (ys.take n).length = n := by rw [List.length_take]; omega
  have hput : putAt lo (arrOf (ys.take n)) (arrOf xs) = arrOf (xs.take lo ++ ys.take n ++ xs.drop (lo + n)) := by rw [arrOf_put, hny]
  unfold szB at hs
  split at hs
  · rename_i ti hq
    have hsz : ti.size = 1 := by simpa using hs
    obtain ⟨s1, s2, s3, s4⟩ := set_same (g := g) (arrOf (ys.take n)) lo w
    have hle : lo + (arrOf (ys.take n)).length ≤ (arrOf xs).length := by rw [arrOf_len, arrOf_len, hny]; omega
    have hcell : ∀ j, j < (arrOf (ys.take n)).length → (w.cell? ⟨g, lo + j, none⟩).isSome = true := fun j hj => by
      rw [cell_of_row w g _ _ t (0, 0) hb]
      simp
      omega
    have hfro : ∀ j, j < (arrOf (ys.take n)).length → w.frozen? ⟨g, lo + j, none⟩ = false := fun j _ => by simp [World.frozen?, hb]
    have hrun := run_storeCells_cells (P := P) g lo (arrOf (ys.take n)) 0 w (fun j hj => by simpa using hcell j hj) (fun j hj => by simpa using hfro j hj) (arrOf_one _)
    have hfc : (Builtin.firstCells ti.size n (.slice B ys.length c2)).run P w = .ok (arrOf (ys.take n)).toArray w := by
      cases B with
      | none =>
        have : ys = [] := H.rdnil i hi
        subst this
        simp [Builtin.firstCells, arrOf]
      | some ad =>
        have h := run_firstCells_some (P := P) w ti.size n ad ys.length c2 (arrOf (ys.take n)) (by rw [arrOf_len, hny, hsz, Nat.mul_one]) (fun j u hu => arr_rows hR j u (by
          rw [arrOf_take] at hu
          have hj : j < n := by have := (List.getElem?_eq_some_iff.1 hu).1; rw [List.length_take] at this; omega
          rw [List.getElem?_take_of_lt hj] at hu
          exact hu))
        exact h
    refine ⟨w.setCells g lo (arrOf (ys.take n)), fun d ty pos af gd => ?_, ?_⟩
    · have hcp : (Builtin.copy_ #[dt, stt] ty #[.slice (some ⟨g, lo, none⟩) dl dc, .slice B ys.length c2]).run P w = .ok (.int .i64 (n : Int)) (w.setCells g lo (arrOf (ys.take n))) := by
        have hmin : Nat.min ys.length dl = n := hn.symm
        simp [Builtin.copy_, run_underlying ht, Builtin.lenOf, sizeOf, run_typeInfo w hq, hmin, hfc, hrun, goInt]
      unfold execOp
      simp only [resolve, invoke, builtin, Sem.run_bind, Sem.run_pure, Result.andThen_ok, List.map_toArray, List.map_cons, List.map_nil, hx, hy, hcp]
    · refine Hp.arrOwn (H1.rewrite (arrOf (xs.take lo ++ ys.take n ++ xs.drop (lo + n))) s1 s2 s3 s4 (by rw [← hput]; exact set_row _ lo w _ hb hle) (fun b hb' => set_far _ lo b hb')) (fun z hz => ?_) (by rw [List.length_append, List.length_append, List.length_take, List.length_drop, hny]; omega)
      rcases List.mem_append.1 hz with hz | hz
      · rcases List.mem_append.1 hz with hz | hz
        · exact hbx z (List.mem_of_mem_take hz)
        · exact hby z (List.mem_of_mem_take hz)
      · exact hbx z (List.mem_of_mem_drop hz)
  · cases hs
end
end Go.Proofs.Ytpmkpiffbdcflaa
