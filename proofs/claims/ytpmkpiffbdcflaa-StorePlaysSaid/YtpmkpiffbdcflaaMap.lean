/- Maps from whole numbers to whole numbers, as lists of pairs. -/
import Derived.Test.YtpmkpiffbdcflaaArr
import Derived.MapKept
set_option linter.unusedVariables false
set_option linter.unusedSimpArgs false
namespace Go.Proofs.Ytpmkpiffbdcflaa
open Go Go.RowKit
open Go.MapKept (IsKey run_checkKey run_findKey run_keyThatStays run_setObj_map)
def mget : List (Int × Int) → Int → Option Int
  | [], _ => none
  | (a, b) :: l, k => if k = a then some b else mget l k
def mset : List (Int × Int) → Int → Int → List (Int × Int)
  | [], k, v => [(k, v)]
  | (a, b) :: l, k, v => if k = a then (k, v) :: l else (a, b) :: mset l k v
def mdel : List (Int × Int) → Int → List (Int × Int)
  | [], _ => []
  | (a, b) :: l, k => if k = a then l else (a, b) :: mdel l k
def mentry (e : MapEntry) : Value × Value := (e.key, e.val)
def mpair (p : Int × Int) : Value × Value := (.int .i64 p.1, .int .i64 p.2)
/-- The entries of a map. -/
def imap (g : Nat) (l : List (Int × Int)) : SF := ⟨fun _ T w => (∃ es n, w.heap[g]? = some (.map es n) ∧ es.toList.map mentry = l.map mpair) ∧ ∀ b, T b ↔ b = g, fun h _ _ hs => ⟨by rw [hs g ((h.2 g).2 rfl)]; exact h.1, h.2⟩⟩
section
variable {P : Program} {ρ : Operand → Value} {d : Option Tmp} {ty : TypeId} {pos : String} {af : Array Edge} {gd : Option (Nat × Bool)} {w w0 w' : World} {ps : List PF} {fs : List SF}
theorem Hp.imapOf {g : Nat} {n : Nat} (H : Hp w0 ps (mapf g #[] n :: fs) w) : Hp w0 ps (imap g [] :: fs) w := by
  refine H.turn (Fs := [mapf g #[] n]) [] [imap g []] rfl rfl rfl (Nat.le_refl _) ?_
  rintro Z T ⟨U, hU, ⟨hb, hUg⟩, _⟩ ht hz htz _
  exact ⟨fun _ _ _ => rfl, Z, U, fun _ h => h, fun b h hn => absurd h hn, fun b hb => ⟨.inl (hU b hb), htz b (hU b hb), ht b (hU b hb)⟩, ⟨U, fun _ h => h, ⟨⟨_, _, hb, rfl⟩, hUg⟩, trivial⟩, fun _ h => by cases h⟩
theorem Hp.imapAt {g : Nat} {l : List (Int × Int)} (H : Hp w0 ps fs w) (i : Nat) (hi : fs[i]? = some (imap g l)) : ∃ es n, w.heap[g]? = some (.map es n) ∧ es.toList.map mentry = l.map mpair := by
  obtain ⟨Z, H⟩ := H
  obtain ⟨T, _, h, _⟩ := H.sep.front i hi
  exact h.1
theorem findNow_list {k : Int} : ∀ {es : List MapEntry} {l : List (Int × Int)} (i : Nat), es.map mentry = l.map mpair →
    (mget l k = none ∧ Instr.findNow (.int .i64) (.int .i64 k) es i = some none ∧ ∀ v, mset l k v = l ++ [(k, v)]) ∨
    ∃ (j : Nat) (v : Int) (e : MapEntry), mget l k = some v ∧ Instr.findNow (.int .i64) (.int .i64 k) es i = some (some (i + j, .int .i64 v)) ∧ es[j]? = some e ∧ e.key = .int .i64 k ∧ (∀ v', mset l k v' = l.set j (k, v')) ∧ mdel l k = l.eraseIdx j
  | [], [], i, _ => .inl ⟨rfl, rfl, fun _ => rfl⟩
  | [], _ :: _, _, h => by simp at h
  | _ :: _, [], _, h => by simp at h
  | e :: es, (a, b) :: l, i, h => by
    simp only [List.map_cons, List.cons.injEq, mentry, mpair, Prod.mk.injEq] at h
    obtain ⟨⟨hk, hv⟩, h⟩ := h
    by_cases hka : k = a
    · subst hka
      refine .inr ⟨0, b, e, by simp [mget], ?_, rfl, hk, fun v' => by simp [mset], by simp [mdel]⟩
      simp [Instr.findNow, hk, Instr.sameNow, hv]
    · have hne : (k == a) = false := by simpa using hka
      rcases findNow_list (k := k) (i + 1) h with ⟨h1, h2, h3⟩ | ⟨j, v, e', h1, h2, h3, h4, h5, h6⟩
      · exact .inl ⟨by simp [mget, hka, h1], by simp [Instr.findNow, hk, Instr.sameNow, hne, h2], fun v => by simp [mset, hka, h3]⟩
      · exact .inr ⟨j + 1, v, e', by simp [mget, hka, h1], by simp [Instr.findNow, hk, Instr.sameNow, hne, h2]; omega, by simpa using h3, h4, fun v' => by simp [mset, hka, h5], by simp [mdel, hka, h6]⟩
theorem map_eraseIdx' {α β : Type} (f : α → β) : ∀ (l : List α) (j : Nat), (l.eraseIdx j).map f = (l.map f).eraseIdx j
  | [], _ => rfl
  | _ :: _, 0 => rfl
  | x :: l, j + 1 => by simp [map_eraseIdx' f l j]
theorem isKey_i (k : Int) : IsKey (.int .i64) (.int .i64 k) := by simp [IsKey]
/-- 'v, is := m[k]'. -/
theorem Hp.mlook {t kt et : TypeId} {m x : Operand} {g b : Nat} {k : Int} {l : List (Int × Int)} {q : Nat} (H : Hp w0 ps fs w) (i : Nat) (hi : fs[i]? = some (imap g l)) (hm : ρ m = .map (some g)) (hx : ρ x = .int .i64 k) (ht : P.underlying t = some (.map kt et)) (hk : P.underlying kt = some (.int .i64)) (hz : TI P et (.int .i64 0) q b) :
    (execOp ρ ⟨d, .lookup t m x true, ty, pos, af, gd⟩).run P w = .ok (.value (.tuple #[.int .i64 ((mget l k).getD 0), .bool (mget l k).isSome])) w := by
  obtain ⟨es, n, hb, hes⟩ := H.imapAt i hi
  obtain ⟨ii, hii, hiz, _, _⟩ := hz.parts
  have hzero : (zeroValue et).run P w = .ok (.int .i64 0) w := by simp [zeroValue, run_typeInfo w hii, hiz, Result.andThen]
  rcases findNow_list (k := k) 0 hes with ⟨h1, h2, _⟩ | ⟨j, v, e, h1, h2, _⟩
  · unfold execOp
    simp [hm, hx, Instr.lookup, run_underlying ht, Go.MapKept.run_getObj_map hb, run_checkKey hk (isKey_i k), run_findKey hk h2, hzero, h1, Result.andThen]
  · unfold execOp
    simp [hm, hx, Instr.lookup, run_underlying ht, Go.MapKept.run_getObj_map hb, run_checkKey hk (isKey_i k), run_findKey hk h2, h1, Result.andThen]
theorem Hp.imapTo {g : Nat} {l l' : List (Int × Int)} {es : Array MapEntry} {n : Nat} (H : Hp w0 ps (imap g l :: fs) w) (hes : es.toList.map mentry = l'.map mpair) : Hp w0 ps (imap g l' :: fs) { w with heap := w.heap.setIfInBounds g (.map es n) } := by
  refine H.turn (Fs := [imap g l]) [] [imap g l'] rfl rfl rfl (by simp) ?_
  rintro Z T ⟨U, hU, ⟨⟨es0, n0, hb, _⟩, hUg⟩, _⟩ ht hz htz _
  have hTg : T g := hU g ((hUg g).2 rfl)
  have hlt := (Array.getElem?_eq_some_iff.1 hb).1
  refine ⟨fun b _ hb' => by
    have hne : g ≠ b := fun e => hb' (e ▸ hTg)
    simp [hne], Z, fun b => b = g, fun _ h => h, fun b h hn => absurd h hn, ?_, ⟨fun b => b = g, fun _ h => h, ⟨⟨es, n, by simp [hlt], hes⟩, fun _ => Iff.rfl⟩, trivial⟩, fun _ h => by cases h⟩
  rintro b rfl
  exact ⟨.inl hTg, htz _ hTg, by simpa using ht _ hTg⟩
/-- 'm[k] = v'. -/
theorem Hp.mput {t kt et : TypeId} {m x y : Operand} {g : Nat} {k v : Int} {l : List (Int × Int)} (H : Hp w0 ps (imap g l :: fs) w) (hm : ρ m = .map (some g)) (hx : ρ x = .int .i64 k) (hy : ρ y = .int .i64 v) (ht : P.underlying t = some (.map kt et)) (hk : P.underlying kt = some (.int .i64)) :
    ∃ w', (∀ (ty : TypeId) (pos : String) (af : Array Edge) (gd : Option (Nat × Bool)), (execOp ρ ⟨none, .mapUpdate t m x y, ty, pos, af, gd⟩).run P w = .ok .skip w') ∧ Hp w0 ps (imap g (mset l k v) :: fs) w' := by
  obtain ⟨es, n, hb, hes⟩ := H.imapAt 0 rfl
  rcases findNow_list (k := k) 0 hes with ⟨h1, h2, h3⟩ | ⟨j, v0, e, h1, h2, h3, h4, h5, _⟩
  · refine ⟨_, fun ty pos af gd => ?_, H.imapTo (es := es.push { key := .int .i64 k, val := .int .i64 v, born := n }) (n := n + 1) ?_⟩
    · unfold execOp
      simp [hm, hx, hy, Instr.mapUpdate, run_underlying ht, Go.MapKept.run_getObj_map hb, run_checkKey hk (isKey_i k), run_findKey hk h2, run_setObj_map _ hb, Result.andThen]
    · rw [h3, Array.toList_push, List.map_append, hes, List.map_append]; rfl
  · have hj : es[j]? = some e := by simpa using h3
    refine ⟨_, fun ty pos af gd => ?_, H.imapTo (es := es.modify j fun e => { e with key := .int .i64 k, val := .int .i64 v }) (n := n) ?_⟩
    · unfold execOp
      simp [hm, hx, hy, Instr.mapUpdate, run_underlying ht, Go.MapKept.run_getObj_map hb, run_checkKey hk (isKey_i k), run_findKey hk h2, hj, h4, run_keyThatStays (isKey_i k), run_setObj_map _ hb, Result.andThen]
    · rw [h5]
      apply List.ext_getElem?
      intro q
      have hq : (es.toList.map mentry)[q]? = (l.map mpair)[q]? := by rw [hes]
      simp only [List.getElem?_map, Array.getElem?_toList, Array.getElem?_modify, List.getElem?_set] at hq ⊢
      by_cases hjq : j = q
      · subst hjq
        rw [hj] at hq
        have hlt : j < l.length := by
          rcases Nat.lt_or_ge j l.length with h | h
          · exact h
          · rw [List.getElem?_eq_none h] at hq; simp at hq
        simp [hj, hlt, mentry, mpair]
      · simp [hjq, hq]
/-- 'delete(m, k)'. -/
theorem Hp.mrem {t t2 kt et : TypeId} {m x : Operand} {g : Nat} {k : Int} {l : List (Int × Int)} (H : Hp w0 ps (imap g l :: fs) w) (hm : ρ m = .map (some g)) (hx : ρ x = .int .i64 k) (ht : P.underlying t = some (.map kt et)) (hk : P.underlying kt = some (.int .i64)) :
    ∃ w', (∀ (d : Option Tmp) (ty : TypeId) (pos : String) (af : Array Edge) (gd : Option (Nat × Bool)), (execOp ρ ⟨d, .call ⟨.builtin .delete, #[m, x], #[t, t2]⟩, ty, pos, af, gd⟩).run P w = .ok (.value (.tuple #[])) w') ∧ Hp w0 ps (imap g (mdel l k) :: fs) w' := by
  obtain ⟨es, n, hb, hes⟩ := H.imapAt 0 rfl
  rcases findNow_list (k := k) 0 hes with ⟨h1, h2, h3⟩ | ⟨j, v0, e, h1, h2, h3, h4, h5, h6⟩
  · have hmd : mdel l k = l := by
      clear hes h2 h3 H
      induction l with
      | nil => rfl
      | cons p l ih =>
        obtain ⟨a, b⟩ := p
        simp only [mget] at h1
        by_cases hka : k = a
        · simp [hka] at h1
        · rw [if_neg hka] at h1
          simp [mdel, hka, ih h1]
    refine ⟨_, fun d ty pos af gd => ?_, H.imapTo (es := es) (n := n) (by rw [hmd]; exact hes)⟩
    unfold execOp
    simp [resolve, invoke, builtin, hm, hx, Builtin.delete_, run_underlying ht, Go.MapKept.run_getObj_map hb, run_checkKey hk (isKey_i k), run_findKey hk h2, run_setObj_map _ hb, Result.andThen]
  · have hj : es[j]? = some e := by simpa using h3
    have hlt : j < es.size := (Array.getElem?_eq_some_iff.1 hj).1
    refine ⟨_, fun d ty pos af gd => ?_, H.imapTo (es := es.eraseIdxIfInBounds j) (n := n) ?_⟩
    · unfold execOp
      simp [resolve, invoke, builtin, hm, hx, Builtin.delete_, run_underlying ht, Go.MapKept.run_getObj_map hb, run_checkKey hk (isKey_i k), run_findKey hk h2, run_setObj_map _ hb, Result.andThen]
    · rw [h6]
      unfold Array.eraseIdxIfInBounds
      rw [dif_pos hlt, Array.toList_eraseIdx, map_eraseIdx', hes, map_eraseIdx']
end
section
variable {P : Program} {ops : Array Oper} {Q : Exit → Act → World → Prop} {K : Act → World → Prop} {a : Act} {w w0 : World} {ps : List PF} {fs : List SF} {n : Nat} {D : List Deferred} {l : List (Nat × Value)} {d : Nat} {ty : TypeId} {pos : String} {af : Array Edge} {gd : Option (Nat × Bool)}
theorem lmi (F : Fr n D l a) (H : Hp w0 ps fs w) {t : TypeId} (k : ∀ g w' a', Hp w0 ps (imap g [] :: fs) w' → Fr n D ((d, .map (some g)) :: l) a' → K a' w') (hd : d < n := by exact Nat.le_of_ble_eq_true rfl) (hg : on ops l ⟨some d, .makeMap t none, ty, pos, af, gd⟩ = some true := by rfl) : Nx P ops Q ⟨some d, .makeMap t none, ty, pos, af, gd⟩ K a w :=
  lmm F H (fun g w' a' H F => k g w' a' H.imapOf F) hd hg
end
end Go.Proofs.Ytpmkpiffbdcflaa
