/- Arrays of bytes compared; a slice as an array. -/
import Derived.Test.YtpmkpiffbdcflaaCelI
import Derived.ChangeKeysEq
set_option linter.unusedVariables false
set_option linter.unusedSimpArgs false
namespace Go.Proofs.Ytpmkpiffbdcflaa
open Go Go.RowKit
section
variable {P : Program} {ρ : Operand → Value} {d : Option Tmp} {ty : TypeId} {pos : String} {af : Array Edge} {gd : Option (Nat × Bool)} {w w0 : World} {ps : List PF} {fs : List SF}
theorem part_arr {e : TypeId} {xs : List Int} {j : Nat} (he : oneB P e = true) (hj : j < xs.length) : (part e (arrOf xs).toArray j).run P w = .ok (.int .u8 (xs.getD j 0)) w := by
  have h : (arrOf xs)[j]? = some (.int .u8 (xs.getD j 0)) := by simp [arrOf, hj]
  simp only [part, Sem.run_bind, run_isAgg0 he, Result.andThen_ok]
  simp [h, List.getD_eq_getElem?_getD]
theorem eqI {e : TypeId} {dp : Nat} {xs ys : List Int} (he : P.underlying e = some (.int .u8)) (ho : oneB P e = true) : ∀ (is : List Nat), (∀ j ∈ is, j < xs.length ∧ j < ys.length) → (Op.eqItems (dp + 1) e 1 (arrOf xs).toArray (arrOf ys).toArray is).run P w = .ok (decide (∀ j ∈ is, xs.getD j 0 = ys.getD j 0)) w
  | [], _ => by simp [Op.eqItems]
  | j :: is, h => by
    obtain ⟨h1, h2⟩ := h j (List.mem_cons_self)
    have ih := eqI (dp := dp) he ho is (fun k hk => h k (List.mem_cons_of_mem _ hk))
    simp only [Op.eqItems, Sem.run_bind, Nat.mul_one, part_arr ho h1, part_arr ho h2, Result.andThen_ok]
    have he2 : (Op.equalIn (dp + 1) e (.int .u8 (xs.getD j 0)) (.int .u8 (ys.getD j 0))).run P w = .ok (xs.getD j 0 == ys.getD j 0) w := by
      simp [Op.equalIn, run_underlying he]
    rw [he2]
    simp only [Result.andThen_ok]
    by_cases hx : xs.getD j 0 = ys.getD j 0
    · simp only [hx, beq_self_eq_true, Bool.not_true, Bool.false_eq_true, if_false, List.forall_mem_cons, true_and]
      exact ih
    · have hb : (xs.getD j 0 == ys.getD j 0) = false := beq_eq_false_iff_ne.2 hx
      have hd : decide (∀ k ∈ j :: is, xs.getD k 0 = ys.getD k 0) = false := decide_eq_false fun h => hx (h j List.mem_cons_self)
      rw [hb, hd]
      simp
theorem arr_eqv {xs ys : List Int} {n : Nat} (hx : xs.length = n) (hy : ys.length = n) : (∀ j ∈ List.range n, xs.getD j 0 = ys.getD j 0) ↔ xs = ys := by
  constructor
  · intro h
    apply List.ext_getElem (by omega)
    intro j h1 h2
    have := h j (List.mem_range.2 (by omega))
    simpa [List.getD_eq_getElem?_getD, h1, h2] using this
  · rintro rfl j _
    rfl
theorem run_aeq {t e : TypeId} {n : Nat} {xs ys : List Int} (ht : P.underlying t = some (.array n e)) (he : P.underlying e = some (.int .u8)) (hs : szB P e 1 = true) (hc : P.cellsOf e = 1) (hx : xs.length = n) (hy : ys.length = n) : (Op.equal t (.agg (arrOf xs).toArray) (.agg (arrOf ys).toArray)).run P w = .ok (decide (xs = ys)) w := by
  unfold szB at hs
  split at hs
  · rename_i i hi
    have ho : oneB P e = true := by unfold oneB; rw [he]
    show (Op.equalIn (9999 + 1) t _ _).run P w = _
    rw [run_equalIn_array (P := P) w 9999 (arrOf xs).toArray (arrOf ys).toArray ht hi, hc, eqI (dp := 9998) he ho _ (fun j hj => by have := List.mem_range.1 hj; omega)]
    congr 1
    exact decide_eq_decide.2 (arr_eqv hx hy)
  · cases hs
theorem r_ane {t t' e : TypeId} {n : Nat} {x y : Operand} {xs ys : List Int} (hx : ρ x = .agg (arrOf xs).toArray) (hy : ρ y = .agg (arrOf ys).toArray) (ht : P.underlying t = some (.array n e)) (he : P.underlying e = some (.int .u8)) (hs : szB P e 1 = true) (hc : P.cellsOf e = 1) (hg : P.eqGuardType P.depth t = false) (hlx : xs.length = n) (hly : ys.length = n) : (execOp ρ ⟨d, .binOp .neq t x y t', ty, pos, af, gd⟩).run P w = .ok (.value (.bool (decide (xs ≠ ys)))) w := by
  have hgd : (eqGuard .neq t x y (.agg (arrOf xs).toArray) (.agg (arrOf ys).toArray)).run P w = .ok () w := by
    simp [eqGuard, hg]
  have hq := run_aeq (P := P) (w := w) ht he hs hc hlx hly
  unfold execOp
  simp only [hx, hy, Sem.run_bind, hgd, Result.andThen_ok]
  simp [binOp, hq]
theorem run_sarr {t e : TypeId} {n : Nat} {x : Operand} {A : Option Addr} {m c : Nat} (hx : ρ x = .slice A m c) (ht : P.underlying t = some (.array n e)) (hn : n ≤ m) : (execOp ρ ⟨d, .sliceToArrayPointer t x, ty, pos, af, gd⟩).run P w = .ok (.value (.pointer A)) w := by
  have : ¬ m < n := by omega
  unfold execOp
  simp [hx, Instr.arrayAt, run_underlying ht, this]
/-- A row that is read, as an array. -/
theorem Hp.sarr {t e : TypeId} {n : Nat} {x : Operand} {A : Option Addr} {c : Nat} {xs : List Int} (H : Hp w0 ps fs w) (i : Nat) (hi : ps[i]? = some (rd kByte A c xs)) (hx : ρ x = .slice A xs.length c) (ht : P.underlying t = some (.array n e)) (hn : n ≤ xs.length) (h0 : 0 < n) :
    ∃ g o, (∀ (d : Option Tmp) (ty : TypeId) (pos : String) (af : Array Edge) (gd : Option (Nat × Bool)) w', (execOp ρ ⟨d, .sliceToArrayPointer t x, ty, pos, af, gd⟩).run P w' = .ok (.value (.pointer (some ⟨g, o, none⟩))) w') ∧ Hp w0 (celz g o (arrOf (xs.take n)) :: ps) fs w := by
  obtain ⟨Z, H⟩ := H
  have hR : Rows kByte Z w A c xs := H.pers _ (List.mem_of_getElem? hi)
  obtain ⟨ad, cs, hA, hZ, hok, hc⟩ := hR.2.2 0 (by omega)
  subst hA
  have hall := arr_rows hR
  have hc0 := hall 0 (.int .u8 (xs.getD 0 0)) (by simp [arrOf, show 0 < xs.length by omega])
  have had : ad.add 0 = ad := by unfold Addr.add; rw [if_pos rfl]
  rw [had] at hc0
  have hspot : ad.spot = none := by
    unfold World.cell? at hc0
    split at hc0
    · split at hc0
      · cases hc0
      · rename_i hn; simpa using hn
    · cases hc0
  obtain ⟨b, o, sp⟩ := ad
  simp only at hspot
  subst hspot
  refine ⟨b, o, fun d ty pos af gd w' => run_sarr hx ht hn, Z, H.os, H.tape, H.output, H.old, H.size, H.zlt, fun p hp => ?_, H.sep⟩
  rcases List.mem_cons.1 hp with rfl | hp
  · refine ⟨hZ, fun j v hv => ?_⟩
    have hj : j < n := by have := (List.getElem?_eq_some_iff.1 hv).1; rw [arrOf_len, List.length_take] at this; omega
    rw [arrOf_take, List.getElem?_take_of_lt hj] at hv
    have := hall j v hv
    rwa [addr_plain] at this
  · exact H.pers p hp
end
end Go.Proofs.Ytpmkpiffbdcflaa
