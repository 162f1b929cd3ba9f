/- Operations that make memory, and write it. -/
import Derived.Test.YtpmkpiffbdcflaaCelD
import Derived.Deep.OwnRows
set_option linter.unusedVariables false
set_option linter.unusedSimpArgs false
namespace Go.Proofs.Ytpmkpiffbdcflaa
open Go Go.RowKit
section
variable {P : Program} {ρ : Operand → Value} {d : Option Tmp} {ty : TypeId} {pos : String} {af : Array Edge} {gd : Option (Nat × Bool)} {w w0 : World} {ps : List PF} {fs : List SF}
/-! ### New blocks -/
theorem r_al {t : TypeId} {z : Value} {n b : Nat} (h : TI P t z n b) : (execOp ρ ⟨d, .alloc t, ty, pos, af, gd⟩).run P w = .ok (.value (.pointer (some ⟨w.heap.size, 0, none⟩))) (w.alloc (.cells z.cells t)) := by
  obtain ⟨i, hi, hz, _, _⟩ := h.parts
  unfold execOp
  simp [Instr.alloc, zeroValue, run_typeInfo w hi, hz, newVar, newRow, newObj, Sem.run, Result.andThen]
theorem r_box {t : TypeId} {x : Operand} {v : Value} (hx : ρ x = v) : (execOp ρ ⟨d, .box t x, ty, pos, af, gd⟩).run P w = .ok (.value (.pointer (some ⟨w.heap.size, 0, none⟩))) (w.alloc (.cells v.cells t)) := by
  unfold execOp
  simp [hx, Instr.box, newVar, newRow, newObj, Sem.run, Result.andThen]
theorem r_mm {t : TypeId} : (execOp ρ ⟨d, .makeMap t none, ty, pos, af, gd⟩).run P w = .ok (.value (.map (some w.heap.size))) (w.alloc (.map #[] 0)) := by
  unfold execOp
  simp [Instr.makeMap, newObj, Sem.run, Result.andThen]
/-! ### Stores -/
/-- Cells, with others from a place on. -/
def putAt (o : Nat) (vs cs : List Value) : List Value := cs.take o ++ vs ++ cs.drop (o + vs.length)
theorem set_far {g : Nat} : ∀ (vs : List Value) (o : Nat) {w : World} (b : Nat), b ≠ g → (w.setCells g o vs).heap[b]? = w.heap[b]?
  | [], _, _, _, _ => rfl
  | v :: vs, o, w, b, h => (set_far vs (o + 1) b h).trans (Below.heap_setCell w ⟨g, o, none⟩ v b h)
theorem set_same {g : Nat} : ∀ (vs : List Value) (o : Nat) (w : World), (w.setCells g o vs).os = w.os ∧ (w.setCells g o vs).tape = w.tape ∧ (w.setCells g o vs).output = w.output ∧ (w.setCells g o vs).heap.size = w.heap.size
  | [], _, _ => ⟨rfl, rfl, rfl, rfl⟩
  | v :: vs, o, w => by
    obtain ⟨h1, h2, h3, h4⟩ := set_same (g := g) vs (o + 1) (w.setCell ⟨g, o, none⟩ v)
    exact ⟨h1, h2, h3, h4.trans (by simp [World.setCell])⟩
theorem set_row {g : Nat} {e : TypeId} : ∀ (vs : List Value) (o : Nat) (w : World) (cs : List Value), w.heap[g]? = some (.cells cs.toArray e (0, 0)) → o + vs.length ≤ cs.length → (w.setCells g o vs).heap[g]? = some (.cells (putAt o vs cs).toArray e (0, 0))
  | [], o, w, cs, h, _ => by
    show w.heap[g]? = _
    rw [h]
    simp [putAt]
  | v :: vs, o, w, cs, h, hl => by
    simp only [List.length_cons] at hl
    have h1 : (w.setCell ⟨g, o, none⟩ v).heap[g]? = some (.cells (cs.set o v).toArray e (0, 0)) := by
      simp [World.setCell, Array.getElem?_modify, h]
    have h2 := set_row vs (o + 1) (w.setCell ⟨g, o, none⟩ v) (cs.set o v) h1 (by rw [List.length_set]; omega)
    show ((w.setCell ⟨g, o, none⟩ v).setCells g (o + 1) vs).heap[g]? = _
    rw [h2]
    congr 3
    unfold putAt
    rw [List.take_set, List.drop_set_of_lt (by omega), List.take_succ_eq_append_getElem (by omega), List.length_cons, show o + 1 + vs.length = o + (vs.length + 1) from by omega]
    rw [List.set_append_right _ _ (by simp; omega)]
    simp [show min o cs.length = o from by omega]
theorem Hp.store {t t' : TypeId} {x y : Operand} {g o n : Nat} {cs vs cs' : List Value} {v : Value} (H : Hp w0 ps (cel g cs t' :: fs) w) (hx : ρ x = .pointer (some ⟨g, o, none⟩)) (hy : ρ y = v) (hv : v.cells.toList = vs) (hs : szB P t n = true) (hn : vs.length = n) (hle : o + n ≤ cs.length) (h1 : vs.all (·.oneCell') = true) (hcs : putAt o vs cs = cs') :
    ∃ w', (∀ (ty : TypeId) (pos : String) (af : Array Edge) (gd : Option (Nat × Bool)), (execOp ρ ⟨none, .store t x y, ty, pos, af, gd⟩).run P w = .ok .skip w') ∧ Hp w0 ps (cel g cs' t' :: fs) w' := by
  have hb := H.cell 0 rfl
  unfold szB at hs
  split at hs
  · rename_i i hi
    have hsz : i.size = n := by simpa using hs
    have hcell : ∀ j, j < vs.length → (w.cell? ⟨g, o + j, none⟩).isSome = true := fun j hj => by
      rw [cell_of_row w g _ _ t' (0, 0) hb]
      simp
      omega
    have hfro : ∀ j, j < vs.length → w.frozen? ⟨g, o + j, none⟩ = false := fun j _ => by simp [World.frozen?, hb]
    have hrun := run_storeCells_cells (P := P) g o vs 0 w (fun j hj => by simpa using hcell j hj) (fun j hj => by simpa using hfro j hj) (List.all_eq_true.1 h1)
    obtain ⟨s1, s2, s3, s4⟩ := set_same (g := g) vs o w
    refine ⟨w.setCells g o vs, ?_, ?_⟩
    · intro ty pos af gd
      unfold execOp
      have hvs : v.cells.size = i.size := by rw [← Array.length_toList, hv, hn, hsz]
      have hst : (Instr.storeAt t (.pointer (some ⟨g, o, none⟩)) v).run P w = .ok () (w.setCells g o vs) := by
        simp only [Instr.storeAt, Instr.sureAddr, Sem.run_bind, Sem.run_pure, Result.andThen_ok, storeVar, sizeOf, run_typeInfo w hi, hvs, ne_eq, not_true_eq_false, if_false, hv]
        simpa using hrun
      simp only [hx, hy, Sem.run_bind, hst, Result.andThen_ok, Sem.run_pure]
    · exact H.rewrite cs' s1 s2 s3 s4 (by rw [← hcs]; exact set_row vs o w cs hb (by omega)) (fun b hb' => set_far vs o b hb')
  · cases hs
/-! ### Rows of one's own -/
/-- A new block as a row of one's own, whose elements are known. -/
theorem Hp.asOwn {α : Type} {kd : Kd α} {g : Nat} {cs : List Value} {e : TypeId} {xs : List α} (H : Hp w0 ps (cel g cs e :: fs) w) (hl : cs.length = xs.length * kd.sz) (hm : xs.length ≤ maxLen) (h : ∀ Z, (∀ p ∈ ps, p.p Z w) → ∀ j (hj : j < xs.length), kd.ok Z w ((cs.drop (j * kd.sz)).take kd.sz) xs[j]) : Hp w0 ps (own kd e (some ⟨g, 0, none⟩) xs.length xs :: fs) w := by
  refine H.turn (Fs := [cel g cs e]) [] [own kd e (some ⟨g, 0, none⟩) xs.length xs] rfl rfl rfl (Nat.le_refl _) ?_
  rintro Z T ⟨U, hU, ⟨hb, hUg⟩, _⟩ ht hz htz hps
  refine ⟨fun _ _ _ => rfl, Z, U, fun _ h => h, fun b h hn => absurd h hn, fun b hb => ⟨.inl (hU b hb), htz b (hU b hb), ht b (hU b hb)⟩, ⟨U, fun _ h => h, ⟨fun b hb' => ⟨0, by rw [(hUg b).1 hb']⟩, cs, ⟨hl, .inr ⟨g, xs.length, cs.toArray, rfl, Nat.zero_le _, hb, Nat.le_refl _, hm, by simp [hl], by simp [← hl]⟩⟩, fun k hk => ?_, h Z hps⟩, trivial⟩, fun _ h => by cases h⟩
  have : g = k := by simpa [Value.ownBlock] using hk
  exact (hUg k).2 this.symm
theorem Hp.asRd {α : Type} {kd : Kd α} {g : Nat} {cs : List Value} {e : TypeId} {xs : List α} (H : Hp w0 ps (cel g cs e :: fs) w) (hl : cs.length = xs.length * kd.sz) (hm : xs.length ≤ maxLen) (h : ∀ Z, (∀ p ∈ ps, p.p Z w) → ∀ j (hj : j < xs.length), kd.ok Z w ((cs.drop (j * kd.sz)).take kd.sz) xs[j]) : Hp w0 (rd kd (some ⟨g, 0, none⟩) xs.length xs :: ps) fs w := (H.asOwn hl hm h).freeze
/-- Something is appended to a row of one's own. -/
theorem Hp.append {α : Type} {kd : Kd α} {e t : TypeId} {z : Value} {bytes : Nat} {A : Option Addr} {c : Nat} {xs ys : List α} (H : Hp w0 ps (own kd e A c xs :: fs) w) (ht : P.underlying t = some (.slice e)) (hti : TI P e z kd.sz bytes) (hzc : z.cells.size = kd.sz) (hz : 0 < kd.sz) (hby : 0 < bytes)
    (ad : Addr) (c2 : Nat) (news : List Value) (hnl : news.length = ys.length * kd.sz) (hcells : ∀ j u, news[j]? = some u → w.cell? (ad.add j) = some u) (hone : ∀ u ∈ news, u.oneCell' = true)
    (hsay : ∀ Z, (∀ p ∈ ps, p.p Z w) → ∀ j (h : j < ys.length), kd.ok Z w ((news.drop (j * kd.sz)).take kd.sz) ys[j]) (hb : (xs.length + ys.length) * bytes ≤ 140737488355328) :
    ∃ A' c' w', (∀ ty, (Builtin.append_ #[t, t] ty #[.slice A xs.length c, .slice (some ad) ys.length c2]).run P w = .ok (.slice A' (xs ++ ys).length c') w') ∧ Hp w0 ps (own kd e A' c' (xs ++ ys) :: fs) w' := by
  obtain ⟨i, hi, hiz, his, hib⟩ := hti.parts
  obtain ⟨Z0, H0⟩ := id H
  obtain ⟨U0, _, ⟨_, cs0, hown0, hbl0, hok0⟩, _⟩ := H0.sep
  have hlen : xs.length + ys.length ≤ 140737488355328 := Nat.le_trans (Nat.le_mul_of_pos_right _ hby) hb
  obtain ⟨v', w', hrun, hown', hgr, hnil, hat⟩ := run_append_own_at (P := P) w 0 t 0 e i z kd.sz bytes ht hi hiz his hib hzc hz (.slice A xs.length c) xs.length cs0 hown0 ad ys.length c2 news hnl hcells hone (by simp only [maxLen]; omega) hb (Nat.zero_le _)
  obtain ⟨A', c', rfl⟩ : ∃ A' c', v' = .slice A' (xs ++ ys).length c' := by
    rcases hown'.2 with ⟨rfl, h0⟩ | ⟨g, cap, cur, rfl, _⟩
    · exact ⟨none, 0, by rw [List.length_append, h0]⟩
    · exact ⟨_, cap, by rw [List.length_append]⟩
  refine ⟨A', c', w', fun ty => hrun, H.turn (Fs := [own kd e A c xs]) [] [own kd e A' c' (xs ++ ys)] hgr.os hgr.tape hgr.output hgr.size ?_⟩
  rintro Z T ⟨U, hU, ⟨hUA, cs, hown, hbl, hok⟩, _⟩ ht' hz' htz hps
  have hcs : cs = cs0 := by
    rcases hown.2 with ⟨hv, hn⟩ | ⟨g, cap, cur, hv, _, hh, _, _, _, hcur⟩
    · have h1 := hown.1; have h2 := hown0.1; rw [hn, Nat.zero_mul] at h1 h2
      rw [List.eq_nil_of_length_eq_zero h1, List.eq_nil_of_length_eq_zero h2]
    · rcases hown0.2 with ⟨hv0, hn⟩ | ⟨g0, cap0, cur0, hv0, _, hh0, _, _, _, hcur0⟩
      · have h1 := hown.1; have h2 := hown0.1; rw [hn, Nat.zero_mul] at h1 h2
        rw [List.eq_nil_of_length_eq_zero h1, List.eq_nil_of_length_eq_zero h2]
      · rw [hv] at hv0
        injection hv0 with hA _ _
        injection hA with hA
        injection hA with hA
        subst hA
        rw [hh] at hh0
        injection hh0 with hh0
        injection hh0 with hh0
        rw [← hcur, ← hcur0, hh0]
  subst hcs
  have hsame : ∀ b, b < w.heap.size → ¬ T b → w'.heap[b]? = w.heap[b]? := fun b hb hnT => hgr.block b hb fun e => hnT (hU b (hbl b e.symm))
  have hZs : Same Z w w' := fun b hb => hsame b (hz' b hb) fun hT => htz b hT hb
  refine ⟨hsame, Z, fun b => (Value.slice A' (xs ++ ys).length c').ownBlock = some b, fun _ h => h, fun b h hn => absurd h hn, fun b hb => ?_, ⟨fun b => (Value.slice A' (xs ++ ys).length c').ownBlock = some b, fun _ h => h, ⟨fun b hb => ?_, cs ++ news, (by have h5 := hown'; rw [List.length_append] at h5 ⊢; exact h5), fun g hg => hg, fun j hj => ?_⟩, trivial⟩, fun _ h => by cases h⟩
  · have hlt := hown'.lt b (by simpa [List.length_append] using hb)
    rcases hat with hat | hat
    · have hUb : U b := hbl b (by rw [← hat]; simpa [List.length_append] using hb)
      exact ⟨.inl (hU b hUb), htz b (hU b hUb), hlt.2⟩
    · have hbe : b = w.heap.size := by
        have h2 : (Value.slice A' (xs ++ ys).length c').ownBlock = some w.heap.size := by simpa [List.length_append] using hat
        rw [hb] at h2
        injection h2
      exact ⟨.inr (by omega), fun h => absurd (hz' _ h) (by omega), hlt.2⟩
  · cases A' with
    | none => simp [Value.ownBlock] at hb
    | some a => rcases hown'.2 with ⟨hv, _⟩ | ⟨g, cap, cur, hv, _⟩
                · cases hv
                · injection hv with hA _ _
                  injection hA with hA
                  subst hA
                  have : g = b := by simpa [Value.ownBlock] using hb
                  subst this
                  exact ⟨0, rfl⟩
  · rcases Nat.lt_or_ge j xs.length with hlt | hge
    · rw [List.getElem_append_left hlt]
      have hle : j * kd.sz + kd.sz ≤ cs.length := by rw [hown.1, ← Nat.succ_mul]; exact Nat.mul_le_mul_right _ hlt
      rw [List.drop_append_of_le_length (by omega), List.take_append_of_le_length (by rw [List.length_drop]; omega)]
      exact kd.stb (hok j hlt) (fun _ h => h) hZs
    · have hjy : j - xs.length < ys.length := by rw [List.length_append] at hj; omega
      rw [List.getElem_append_right hge]
      have hd : (cs ++ news).drop (j * kd.sz) = news.drop ((j - xs.length) * kd.sz) := by
        have : j * kd.sz = cs.length + (j - xs.length) * kd.sz := by rw [hown.1, ← Nat.add_mul]; congr 1; omega
        rw [this, List.drop_append]
        simp
      rw [hd]
      exact kd.stb (hsay Z hps _ hjy) (fun _ h => h) hZs
theorem Hp.drop2 {F G : SF} (H : Hp w0 ps (F :: G :: fs) w) : Hp w0 ps (F :: fs) w := by
  obtain ⟨Z, H⟩ := H
  obtain ⟨T, h1, h2, U, h3, h4, h5⟩ := H.sep
  exact ⟨Z, H.os, H.tape, H.output, H.old, H.size, H.zlt, H.pers, T, h1, h2, h5.mono fun b hb => hb.1⟩
theorem Hp.drop {F : SF} (H : Hp w0 ps (F :: fs) w) : Hp w0 ps fs w := by
  obtain ⟨Z, H⟩ := H
  obtain ⟨T, h1, h2, h3⟩ := H.sep
  exact ⟨Z, H.os, H.tape, H.output, H.old, H.size, H.zlt, H.pers, h3.mono fun b hb => hb.1⟩
/-- 'append(row, x..)': what is appended lies in a block that was just built. -/
theorem Hp.appendCel {α : Type} {kd : Kd α} {e t : TypeId} {z : Value} {bytes : Nat} {A : Option Addr} {c g : Nat} {xs ys : List α} {cs : List Value} {x y : Operand} (H : Hp w0 ps (own kd e A c xs :: cel g cs e :: fs) w) (hx : ρ x = .slice A xs.length c) (hy : ρ y = .slice (some ⟨g, 0, none⟩) ys.length ys.length) (ht : P.underlying t = some (.slice e)) (hti : TI P e z kd.sz bytes) (hzc : z.cells.size = kd.sz) (hz : 0 < kd.sz) (hby : 0 < bytes)
    (hl : cs.length = ys.length * kd.sz) (hone : cs.all (·.oneCell') = true) (hsay : ∀ Z, (∀ p ∈ ps, p.p Z w) → ∀ j (h : j < ys.length), kd.ok Z w ((cs.drop (j * kd.sz)).take kd.sz) ys[j]) (hb : (xs.length + ys.length) * bytes ≤ 140737488355328) :
    ∃ A' c' w', (∀ (d : Option Tmp) (ty : TypeId) (pos : String) (af : Array Edge) (gd : Option (Nat × Bool)), (execOp ρ ⟨d, .call ⟨.builtin .append, #[x, y], #[t, t]⟩, ty, pos, af, gd⟩).run P w = .ok (.value (.slice A' (xs ++ ys).length c')) w') ∧ Hp w0 ps (own kd e A' c' (xs ++ ys) :: fs) w' := by
  have hc := H.cell 1 rfl
  obtain ⟨A', c', w', hrun, H'⟩ := H.append ht hti hzc hz hby ⟨g, 0, none⟩ ys.length cs hl (fun j u hu => by rw [addr_plain, cell_of_row w g _ _ e (0, 0) hc]; simpa using hu) (List.all_eq_true.1 hone) hsay hb
  refine ⟨A', c', w', fun d ty pos af gd => ?_, H'.drop2⟩
  unfold execOp
  simp only [resolve, invoke, builtin, Sem.run_bind, Sem.run_pure, Result.andThen_ok, List.map_toArray, List.map_cons, List.map_nil, hx, hy, hrun]
/-- 'append(row, other...)'. -/
theorem Hp.appendRd {α : Type} {kd : Kd α} {e t : TypeId} {z : Value} {bytes : Nat} {A B : Option Addr} {c c2 : Nat} {xs ys : List α} {x y : Operand} (H : Hp w0 ps (own kd e A c xs :: fs) w) (i : Nat) (hi : ps[i]? = some (rd kd B c2 ys)) (hx : ρ x = .slice A xs.length c) (hy : ρ y = .slice B ys.length c2) (ht : P.underlying t = some (.slice e)) (hti : TI P e z kd.sz bytes) (hzc : z.cells.size = kd.sz) (hz : 0 < kd.sz) (hby : 0 < bytes) (hb : (xs.length + ys.length) * bytes ≤ 140737488355328) :
    ∃ A' c' w', (∀ (d : Option Tmp) (ty : TypeId) (pos : String) (af : Array Edge) (gd : Option (Nat × Bool)), (execOp ρ ⟨d, .call ⟨.builtin .append, #[x, y], #[t, t]⟩, ty, pos, af, gd⟩).run P w = .ok (.value (.slice A' (xs ++ ys).length c')) w') ∧ Hp w0 ps (own kd e A' c' (xs ++ ys) :: fs) w' := by
  have hex : ∀ (v w'' : _), (∀ ty, (Builtin.append_ #[t, t] ty #[.slice A xs.length c, .slice B ys.length c2]).run P w = .ok v w'') → ∀ (d : Option Tmp) (ty : TypeId) (pos : String) (af : Array Edge) (gd : Option (Nat × Bool)), (execOp ρ ⟨d, .call ⟨.builtin .append, #[x, y], #[t, t]⟩, ty, pos, af, gd⟩).run P w = .ok (.value v) w'' := fun v w'' h d ty pos af gd => by
    unfold execOp
    simp only [resolve, invoke, builtin, Sem.run_bind, Sem.run_pure, Result.andThen_ok, List.map_toArray, List.map_cons, List.map_nil, hx, hy, h]
  have hm := List.mem_of_getElem? hi
  cases B with
  | none =>
    obtain ⟨Z, hR⟩ := H.fact i hi
    have : ys = [] := by
      cases ys with
      | nil => rfl
      | cons y ys => obtain ⟨_, _, h, _⟩ := hR.2.2 0 (by simp); cases h
    subst this
    obtain ⟨i0, hi0, hiz, his, hib⟩ := hti.parts
    obtain ⟨Z0, H0⟩ := id H
    obtain ⟨U0, _, ⟨_, cs0, hown0, hbl0, hok0⟩, _⟩ := H0.sep
    have hr : ∀ ty, (Builtin.append_ #[t, t] ty #[.slice A xs.length c, .slice none 0 c2]).run P w = .ok (.slice A xs.length c) w := by
      intro ty
      rcases hown0.2 with ⟨hv, hn⟩ | ⟨g, cap, cur, hv, _, _, hnc, _⟩
      · injection hv with hA _ hc
        subst hA hc
        rw [hn]
        simp [Builtin.append_, run_underlying ht, sizeOf, run_typeInfo w hi0, Builtin.lenOf, Builtin.firstCells]
      · injection hv with hA _ hc
        subst hA hc
        simp [Builtin.append_, run_underlying ht, sizeOf, run_typeInfo w hi0, Builtin.lenOf, Builtin.firstCells, hnc, storeCells]
    refine ⟨A, c, w, ?_, ?_⟩
    · rw [List.append_nil]; exact hex _ _ hr
    · rw [List.append_nil]; exact H
  | some ad =>
    obtain ⟨Z, hR⟩ := H.fact i hi
    obtain ⟨news, h1, h2, h3, _⟩ := rows_cells hR
    obtain ⟨A', c', w', hrun, H'⟩ := H.append ht hti hzc hz hby ad c2 news h1 h2 h3 (fun Z hp j hj => by
      obtain ⟨news', g1, g2, g3, g4⟩ := rows_cells (hp _ hm : Rows kd Z w (some ad) c2 ys)
      have : news' = news := by
        apply List.ext_getElem?
        intro q
        rcases Nat.lt_or_ge q news.length with hq | hq
        · have e1 := h2 q _ (List.getElem?_eq_getElem hq)
          have e2 := g2 q _ (List.getElem?_eq_getElem (by rw [g1, ← h1]; exact hq))
          rw [e1] at e2
          rw [List.getElem?_eq_getElem hq, List.getElem?_eq_getElem (by rw [g1, ← h1]; exact hq), ← e2]
        · rw [List.getElem?_eq_none hq, List.getElem?_eq_none (by rw [g1, ← h1]; exact hq)]
      rw [← this]
      exact g4 j hj) hb
    exact ⟨A', c', w', hex _ _ hrun, H'⟩
/-! ### New rows and structs, by what is known of the slots -/
def pevs (l : List (Nat × Value)) : List (Nat × Operand) → Option (List (Nat × Value))
  | [] => some []
  | (i, x) :: xs => match ev l x, pevs l xs with
    | some v, some vs => some ((i, v) :: vs)
    | _, _ => none
theorem Fr.pevs {n : Nat} {D : List Deferred} {l : List (Nat × Value)} {a : Act} (F : Fr n D l a) : ∀ {xs : List (Nat × Operand)} {vs : List (Nat × Value)}, Go.Proofs.Ytpmkpiffbdcflaa.pevs l xs = some vs → (xs.map fun (p : Nat × Operand) => (p.1, a.eval p.2)) = vs
  | [], vs, h => by simp [Go.Proofs.Ytpmkpiffbdcflaa.pevs] at h; subst h; rfl
  | (i, x) :: xs, vs, h => by
    unfold Go.Proofs.Ytpmkpiffbdcflaa.pevs at h
    split at h
    · rename_i v us h1 h2
      injection h with h
      subst h
      rw [List.map_cons, Fr.pevs F h2]
      simp only [F.ev h1]
    · cases h
section
variable {ops : Array Oper} {Q : Exit → Act → World → Prop} {K : Act → World → Prop} {a : Act} {n : Nat} {D : List Deferred} {l : List (Nat × Value)} {d : Nat}
theorem lbs (F : Fr n D l a) (H : Hp w0 ps fs w) {t e : TypeId} {m : Nat} {parts : List (Nat × Operand)} {vs : List (Nat × Value)} {cs : List Value} (hp : pevs l parts = some vs) (hb : ∀ w, (Instr.buildSlice t m vs.toArray).run P w = .ok (.slice (some ⟨w.heap.size, 0, none⟩) m m) (w.alloc (.cells cs.toArray e)))
    (k : ∀ g w' a', Hp w0 ps (cel g cs e :: fs) w' → Fr n D ((d, .slice (some ⟨g, 0, none⟩) m m) :: l) a' → K a' w') (hd : d < n := by exact Nat.le_of_ble_eq_true rfl) (hg : on ops l ⟨some d, .buildSlice t m parts.toArray, ty, pos, af, gd⟩ = some true := by rfl) : Nx P ops Q ⟨some d, .buildSlice t m parts.toArray, ty, pos, af, gd⟩ K a w := by
  refine qv F ?_ (fun a' F' => k _ _ a' (H.alloc cs e) F') hd hg
  unfold execOp
  have h2 : (parts.toArray.map fun (p : Nat × Operand) => (p.1, a.eval p.2)) = vs.toArray := by rw [List.map_toArray]; exact congrArg _ (F.pevs hp)
  simp only [h2, Sem.run_bind, hb, Result.andThen_ok, Sem.run_pure]
theorem lbd (F : Fr n D l a) {t : TypeId} {parts : List (Nat × Operand)} {vs : List (Nat × Value)} {cs : List Value} (hp : pevs l parts = some vs) (hb : ∀ w, (Instr.build t vs.toArray).run P w = .ok (.agg cs.toArray) w)
    (k : ∀ a', Fr n D ((d, .agg cs.toArray) :: l) a' → K a' w) (hd : d < n := by exact Nat.le_of_ble_eq_true rfl) (hg : on ops l ⟨some d, .build t parts.toArray, ty, pos, af, gd⟩ = some true := by rfl) : Nx P ops Q ⟨some d, .build t parts.toArray, ty, pos, af, gd⟩ K a w := by
  refine qv F ?_ k hd hg
  unfold execOp
  have h2 : (parts.toArray.map fun (p : Nat × Operand) => (p.1, a.eval p.2)) = vs.toArray := by rw [List.map_toArray]; exact congrArg _ (F.pevs hp)
  simp only [h2, Sem.run_bind, hb, Result.andThen_ok, Sem.run_pure]
theorem lal (F : Fr n D l a) (H : Hp w0 ps fs w) {t : TypeId} {z : Value} {m b : Nat} {cs : List Value} (h : TI P t z m b) (hc : z.cells.toList = cs) (k : ∀ g w' a', Hp w0 ps (cel g cs t :: fs) w' → Fr n D ((d, .pointer (some ⟨g, 0, none⟩)) :: l) a' → K a' w') (hd : d < n := by exact Nat.le_of_ble_eq_true rfl) (hg : on ops l ⟨some d, .alloc t, ty, pos, af, gd⟩ = some true := by rfl) : Nx P ops Q ⟨some d, .alloc t, ty, pos, af, gd⟩ K a w := by
  subst hc
  refine qv F (r_al h) (fun a' F' => k _ _ a' ?_ F') hd hg
  have H2 := H.alloc z.cells.toList t
  simpa using H2
theorem lbox (F : Fr n D l a) (H : Hp w0 ps fs w) {t : TypeId} {x : Operand} {v : Value} {cs : List Value} (hx : ev l x = some v) (hc : v.cells.toList = cs) (k : ∀ g w' a', Hp w0 ps (cel g cs t :: fs) w' → Fr n D ((d, .pointer (some ⟨g, 0, none⟩)) :: l) a' → K a' w') (hd : d < n := by exact Nat.le_of_ble_eq_true rfl) (hg : on ops l ⟨some d, .box t x, ty, pos, af, gd⟩ = some true := by rfl) : Nx P ops Q ⟨some d, .box t x, ty, pos, af, gd⟩ K a w := by
  subst hc
  refine qv F (r_box (F.ev hx)) (fun a' F' => k _ _ a' ?_ F') hd hg
  have H2 := H.alloc v.cells.toList t
  simpa using H2
theorem lmm (F : Fr n D l a) (H : Hp w0 ps fs w) {t : TypeId} (k : ∀ g w' a', Hp w0 ps (mapf g #[] 0 :: fs) w' → Fr n D ((d, .map (some g)) :: l) a' → K a' w') (hd : d < n := by exact Nat.le_of_ble_eq_true rfl) (hg : on ops l ⟨some d, .makeMap t none, ty, pos, af, gd⟩ = some true := by rfl) : Nx P ops Q ⟨some d, .makeMap t none, ty, pos, af, gd⟩ K a w :=
  qv F r_mm (fun a' F' => k _ _ a' (H.newmap #[] 0) F') hd hg
theorem mv (F : Fr n D l a) {x : Operand} {v : Value} {rest : List Oper} (hx : ev l x = some v) (k : ∀ a', Fr n D ((d, v) :: l) a' → wpList P ops Q rest a' w) (hd : d < n := by exact Nat.le_of_ble_eq_true rfl) (hg : on ops l ⟨some d, .move x, ty, pos, af, gd⟩ = some true := by rfl) : wpList P ops Q (⟨some d, .move x, ty, pos, af, gd⟩ :: rest) a w := ls (qv F (r_mv (F.ev hx)) k hd hg)
theorem as_ (F : Fr n D l a) {x : Operand} {v : Value} {rest : List Oper} (hx : ev l x = some v) (k : ∀ a', Fr n D ((d, v) :: l) a' → wpList P ops Q rest a' w) (hd : d < n := by exact Nat.le_of_ble_eq_true rfl) (hg : on ops l ⟨some d, .assign x, ty, pos, af, gd⟩ = some true := by rfl) : wpList P ops Q (⟨some d, .assign x, ty, pos, af, gd⟩ :: rest) a w := ls (qv F (r_as (F.ev hx)) k hd hg)
theorem Fr.t (F : Fr n D l a) (t : Nat) {v : Value} (h : Go.Proofs.Ytpmkpiffbdcflaa.ev l (.tmp t) = some v) : a.eval (.tmp t) = v := F.ev h
theorem of_ (F : Fr n D l a) {op : Op} {rest : List Oper} (k : ∀ a', Fr n D ((d, undef) :: l) a' → wpList P ops Q rest a' w) (hd : d < n := by exact Nat.le_of_ble_eq_true rfl) (hg : on ops l ⟨some d, op, ty, pos, af, gd⟩ = some false := by rfl) : wpList P ops Q (⟨some d, op, ty, pos, af, gd⟩ :: rest) a w := ls (off F k hd hg)
theorem qw (F : Fr n D l a) {op : Op} {rest : List Oper} {v : Value} {w' : World} (hr : (execOp a.eval ⟨some d, op, ty, pos, af, gd⟩).run P w = .ok (.value v) w') (k : ∀ a', Fr n D ((d, v) :: l) a' → wpList P ops Q rest a' w') (hd : d < n := by exact Nat.le_of_ble_eq_true rfl) (hg : on ops l ⟨some d, op, ty, pos, af, gd⟩ = some true := by rfl) : wpList P ops Q (⟨some d, op, ty, pos, af, gd⟩ :: rest) a w := ls (qv F hr k hd hg)
end
/-! ### What the cells of a literal say -/
def SayL {α : Type} (kd : Kd α) (ps : List PF) (w : World) (cs : List Value) (ys : List α) : Prop := ∀ Z, (∀ p ∈ ps, p.p Z w) → cs.length = ys.length * kd.sz ∧ ∀ j (h : j < ys.length), kd.ok Z w ((cs.drop (j * kd.sz)).take kd.sz) ys[j]
theorem pat {Z : Nat → Prop} (hp : ∀ p ∈ ps, p.p Z w) (i : Nat) {p : PF} (hi : ps[i]? = some p) : p.p Z w := hp p (List.mem_of_getElem? hi)
theorem SayL.nil {α : Type} {kd : Kd α} : SayL kd ps w [] [] := fun Z _ => ⟨by simp, fun j h => absurd h (Nat.not_lt_zero j)⟩
theorem SayL.cons {α : Type} {kd : Kd α} {c1 cs : List Value} {y : α} {ys : List α} (h : ∀ Z, (∀ p ∈ ps, p.p Z w) → kd.ok Z w c1 y) (hs : SayL kd ps w cs ys) : SayL kd ps w (c1 ++ cs) (y :: ys) := fun Z hp => by
  have h1 := h Z hp
  have hl := kd.len h1
  obtain ⟨h2, h3⟩ := hs Z hp
  refine ⟨by rw [List.length_append, hl, h2, List.length_cons, Nat.succ_mul]; omega, fun j hj => ?_⟩
  cases j with
  | zero => simp only [Nat.zero_mul, List.drop_zero]; rw [← hl, List.take_left]; exact h1
  | succ j =>
    have : (c1 ++ cs).drop ((j + 1) * kd.sz) = cs.drop (j * kd.sz) := by
      rw [show (j + 1) * kd.sz = c1.length + j * kd.sz from by rw [hl, Nat.succ_mul]; omega, List.drop_append]
      simp
    rw [this]
    simpa using h3 j (by simpa using hj)
theorem Hp.litRd {α : Type} {kd : Kd α} {g : Nat} {cs : List Value} {e : TypeId} {xs : List α} (H : Hp w0 ps (cel g cs e :: fs) w) (h : SayL kd ps w cs xs) (hm : xs.length ≤ 4294967296) : Hp w0 (rd kd (some ⟨g, 0, none⟩) xs.length xs :: ps) fs w := by
  obtain ⟨Z, hZ⟩ := id H
  exact H.asRd (h Z hZ.pers).1 (by simp only [maxLen]; omega) fun Z hp => (h Z hp).2
theorem Hp.litOwn {α : Type} {kd : Kd α} {g : Nat} {cs : List Value} {e : TypeId} {xs : List α} (H : Hp w0 ps (cel g cs e :: fs) w) (h : SayL kd ps w cs xs) (hm : xs.length ≤ 4294967296) : Hp w0 ps (own kd e (some ⟨g, 0, none⟩) xs.length xs :: fs) w := by
  obtain ⟨Z, hZ⟩ := id H
  exact H.asOwn (h Z hZ.pers).1 (by simp only [maxLen]; omega) fun Z hp => (h Z hp).2
theorem Hp.appendCelL {α : Type} {kd : Kd α} {e t : TypeId} {z : Value} {bytes : Nat} {A : Option Addr} {c g : Nat} {xs ys : List α} {cs : List Value} {x y : Operand} (H : Hp w0 ps (own kd e A c xs :: cel g cs e :: fs) w) (hx : ρ x = .slice A xs.length c) (hy : ρ y = .slice (some ⟨g, 0, none⟩) ys.length ys.length) (ht : P.underlying t = some (.slice e)) (hti : TI P e z kd.sz bytes) (hzc : z.cells.size = kd.sz) (hz : 0 < kd.sz) (hby : 0 < bytes)
    (hone : cs.all (·.oneCell') = true) (hsay : SayL kd ps w cs ys) (hb : (xs.length + ys.length) * bytes ≤ 140737488355328) :
    ∃ A' c' w', (∀ (d : Option Tmp) (ty : TypeId) (pos : String) (af : Array Edge) (gd : Option (Nat × Bool)), (execOp ρ ⟨d, .call ⟨.builtin .append, #[x, y], #[t, t]⟩, ty, pos, af, gd⟩).run P w = .ok (.value (.slice A' (xs ++ ys).length c')) w') ∧ Hp w0 ps (own kd e A' c' (xs ++ ys) :: fs) w' := by
  obtain ⟨Z, hZ⟩ := id H
  exact H.appendCel hx hy ht hti hzc hz hby (hsay Z hZ.pers).1 hone (fun Z hp => (hsay Z hp).2) hb
theorem wrap_u8 (x : Int) : 0 ≤ IntKind.u8.wrap x ∧ IntKind.u8.wrap x < 256 := by
  have h : IntKind.u8.wrap x = x % 256 := by simp [IntKind.wrap, IntKind.bits, IntKind.signed]
  rw [h]
  omega
/-- A literal of bytes that is marked by a conversion: it is read. -/
theorem Hp.mark {α : Type} {kd : Kd α} {g : Nat} {cs : List Value} {e t : TypeId} {xs : List α} {x : Operand} (H : Hp w0 ps (cel g cs e :: fs) w) (hx : ρ x = .slice (some ⟨g, 0, none⟩) xs.length xs.length) (ht : P.underlying t = some (.slice e)) (he : P.underlying e = some (.int .u8)) (h : SayL kd ps w cs xs) (hm : xs.length ≤ 4294967296) :
    ∃ w', (∀ (d : Option Tmp) (ty : TypeId) (pos : String) (af : Array Edge) (gd : Option (Nat × Bool)), (execOp ρ ⟨d, .convert t t x, ty, pos, af, gd⟩).run P w = .ok (.value (.slice (some ⟨g, 0, none⟩) xs.length xs.length)) w') ∧ Hp w0 (rd kd (some ⟨g, 0, none⟩) xs.length xs :: ps) fs w' := by
  have hb := H.cell 0 rfl
  have hsh : w.shape? g = some (e, cs.length) := by simp [World.shape?, hb]
  refine ⟨w.freeze ⟨g, cs.length, none⟩ 1, fun d ty pos af gd => ?_, ?_⟩
  · unfold execOp
    simp [hx, convert, run_underlying ht, run_underlying he, markStringish, hsh, freeze, shape, Sem.run, Result.andThen]
  · have hcell : ∀ b : Addr, (w.freeze ⟨g, cs.length, none⟩ 1).cell? b = w.cell? b := fun b => by
      unfold World.freeze
      rw [if_neg (by simp)]
      simp only [World.cell?, Array.getElem?_modify]
      by_cases hg : g = b.block
      · rw [if_pos hg]
        cases hq : w.heap[b.block]? with
        | none => rfl
        | some o => cases o <;> rfl
      · rw [if_neg hg]
    have hfar : ∀ b, b ≠ g → (w.freeze ⟨g, cs.length, none⟩ 1).heap[b]? = w.heap[b]? := fun b hb => by
      unfold World.freeze
      rw [if_neg (by simp)]
      simp only [Array.getElem?_modify]
      rw [if_neg (fun h => hb h.symm)]
    have hsz : (w.freeze ⟨g, cs.length, none⟩ 1).heap.size = w.heap.size := by unfold World.freeze; rw [if_neg (by simp)]; simp
    refine H.turn (Fs := [cel g cs e]) [rd kd (some ⟨g, 0, none⟩) xs.length xs] [] (by unfold World.freeze; rw [if_neg (by simp)]) (by unfold World.freeze; rw [if_neg (by simp)]) (by unfold World.freeze; rw [if_neg (by simp)]) (by rw [hsz]; exact Nat.le_refl _) ?_
    rintro Z T ⟨U, hU, ⟨_, hUg⟩, _⟩ ht' hz htz hps
    have hTg : T g := hU g ((hUg g).2 rfl)
    refine ⟨fun b _ hnT => hfar b fun e => hnT (e ▸ hTg), fun b => Z b ∨ b = g, fun _ => False, fun b h => .inl h, fun b h hn => h.elim (fun h => absurd h hn) fun h => ⟨.inl (h ▸ hTg), by rw [hsz, h]; exact ht' g hTg⟩, fun _ h => h.elim, trivial, fun p hp => ?_⟩
    rw [List.mem_singleton.1 hp]
    obtain ⟨hl, hs⟩ := h Z hps
    refine ⟨Nat.le_refl _, by simp only [maxLen]; omega, fun j hj => ⟨⟨g, 0, none⟩, (cs.drop (j * kd.sz)).take kd.sz, rfl, .inr rfl, kd.stb (hs j hj) (fun _ h => .inl h) (fun b hb => hfar b fun e => htz g hTg (e ▸ hb)), fun i hi => ?_⟩⟩
    have hlt : j * kd.sz + i < cs.length := by rw [hl]; exact Nat.lt_of_lt_of_le (by omega : j * kd.sz + i < j * kd.sz + kd.sz) (by rw [← Nat.succ_mul]; exact Nat.mul_le_mul_right _ hj)
    rw [hcell, addr_plain, cell_of_row w g _ _ e (0, 0) hb, List.getElem?_take_of_lt hi, List.getElem?_drop]
    simp
theorem guardO {p : Prop} [Decidable p] {α : Type} {x : Option α} {r : α} (h : (if p then x else none) = some r) : p ∧ x = some r := by
  by_cases c : p
  · rw [if_pos c] at h; exact ⟨c, h⟩
  · rw [if_neg c] at h; cases h
/-- 'make([]T, n)'. -/
theorem Hp.make {α : Type} {kd : Kd α} {t e : TypeId} {z : Value} {bytes : Nat} {x y : Operand} {k k' : IntKind} {n : Int} {zx : α} (H : Hp w0 ps fs w) (hx : ρ x = .int k n) (hy : ρ y = .int k' n) (ht : P.underlying t = some (.slice e)) (hti : TI P e z kd.sz bytes) (hzc : z.cells.size = kd.sz) (hz : kd.sz = 1) (hby : 0 < bytes) (h0 : 0 ≤ n) (hb : bytes * n ≤ 281474976710656) (hsay : ∀ Z w, kd.ok Z w [z] zx) (hz1 : z.cells = #[z]) :
    ∃ g w', (∀ (d : Option Tmp) (ty : TypeId) (pos : String) (af : Array Edge) (gd : Option (Nat × Bool)), (execOp ρ ⟨d, .makeSlice t x y, ty, pos, af, gd⟩).run P w = .ok (.value (.slice (some ⟨g, 0, none⟩) (List.replicate n.toNat zx).length (List.replicate n.toNat zx).length)) w') ∧ Hp w0 ps (own kd e (some ⟨g, 0, none⟩) (List.replicate n.toNat zx).length (List.replicate n.toNat zx) :: fs) w' := by
  obtain ⟨i, hi, hiz, his, hib⟩ := hti.parts
  obtain ⟨m, rfl⟩ := Int.eq_ofNat_of_zero_le h0
  have hb' : i.bytes * m ≤ 281474976710656 := by rw [hib]; exact Int.ofNat_le.1 (by rw [Int.natCast_mul]; exact hb)
  have hm : m ≤ 281474976710656 := Nat.le_trans (Nat.le_mul_of_pos_left _ (by rw [hib]; exact hby)) hb'
  have hrun := run_make_row' (P := P) t e z bytes ht (by rw [hi, Option.map_some, hiz, his, hz, hib]) (by rw [hz1]) k k' m (by rw [hib] at hb'; exact hb') (by omega) w
  have hl : (List.replicate (m : Int).toNat zx).length = m := by rw [List.length_replicate]; rfl
  refine ⟨w.heap.size, w.alloc (.cells (madeCells z.cells m) e), ?_, ?_⟩
  · intro d ty pos af gd
    unfold execOp
    simp only [hx, hy, Sem.run_bind, hl, Sem.run_pure]
    rw [hz1]
    simp only [hrun, Result.andThen_ok]
  · have H2 := (H.alloc (madeCells z.cells m).toList e)
    have hml : (madeCells z.cells m).toList = List.replicate m z := by rw [hz1]; exact toList_madeCells_one z m
    refine Hp.asOwn (g := w.heap.size) (cs := (madeCells z.cells m).toList) (by simpa using H2) ?_ (by rw [hl]; simp only [maxLen]; omega) fun Z _ j hj => ?_
    · rw [hl, hml, hz]; simp
    · rw [hml, hz]
      have hj' : j < m := by simpa using hj
      have : ((List.replicate m z).drop (j * 1)).take 1 = [z] := by
        rw [Nat.mul_one, List.drop_replicate, List.take_replicate, show min 1 (m - j) = 1 from by omega]
        rfl
      rw [this]
      simpa using hsay Z _
/-- A cut of a row that is read. -/
theorem Rows.cut {α : Type} {kd : Kd α} {Z : Nat → Prop} {A : Option Addr} {c : Nat} {xs : List α} (h : Rows kd Z w A c xs) (lo hi : Nat) (h1 : lo ≤ hi) (h2 : hi ≤ xs.length) :
    Rows kd Z w (if c = lo then A else A.map (·.add (lo * kd.sz))) (c - lo) ((xs.take hi).drop lo) := by
  have hl : ((xs.take hi).drop lo).length = hi - lo := by rw [List.length_drop, List.length_take]; omega
  refine ⟨by rw [hl]; have := h.1; omega, by have := h.2.1; omega, fun j hj => ?_⟩
  rw [hl] at hj
  obtain ⟨ad, cs, hA, hZ, hok, hc⟩ := h.2.2 (lo + j) (by omega)
  subst hA
  have hne : ¬ c = lo := by have := h.1; omega
  refine ⟨ad.add (lo * kd.sz), cs, by rw [if_neg hne]; rfl, by rw [addr_block]; exact hZ, ?_, fun i hi' => ?_⟩
  · have : ((xs.take hi).drop lo)[j]'(by rw [hl]; exact hj) = xs[lo + j]'(by omega) := by simp
    rw [this]
    exact hok
  · rw [← hc i hi', Nat.add_mul]
    congr 1
    unfold Addr.add
    by_cases g1 : lo * kd.sz = 0 <;> by_cases g2 : j * kd.sz + i = 0 <;> simp [g1, g2, Nat.add_assoc] <;> omega
end
end Go.Proofs.Ytpmkpiffbdcflaa
