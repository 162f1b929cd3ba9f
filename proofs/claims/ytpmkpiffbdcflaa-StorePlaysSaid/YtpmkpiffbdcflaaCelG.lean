/- Results that lie in cells; slices of slices; shifts and bits. -/
import Derived.Test.YtpmkpiffbdcflaaCelF
set_option linter.unusedVariables false
set_option linter.unusedSimpArgs false
namespace Go.Proofs.Ytpmkpiffbdcflaa
open Go Go.RowKit
section
variable {P : Program} {ρ : Operand → Value} {d : Option Tmp} {ty : TypeId} {pos : String} {af : Array Edge} {gd : Option (Nat × Bool)} {w w0 : World} {ps : List PF} {fs : List SF}
/-! ### Results in cells -/
theorem ldv1 {t : TypeId} {p : Addr} {v : Value} (hc : w.cell? p = some v) (h1 : oneB P t = true) : (loadVar t p).run P w = .ok v w := by
  have h := run_ld1 (P := P) h1 hc
  simpa only [Instr.loadAt, Instr.sureAddr, Sem.run_bind, Sem.run_pure, Result.andThen_ok] using h
theorem ldvA {t : TypeId} {g o n : Nat} {cs : List Value} (hc : w.rangeAt g o cs) (h1 : aggB P t n = true) (hn : cs.length = n) : (loadVar t ⟨g, o, none⟩).run P w = .ok (.agg cs.toArray) w := by
  have h := r_ldA (P := P) (ρ := fun _ => .pointer (some ⟨g, o, none⟩)) (d := none) (ty := 0) (pos := "") (af := #[]) (gd := none) (x := .tmp 0) rfl hc h1 hn
  unfold execOp at h
  simp only [Instr.loadAt, Instr.sureAddr, Sem.run_bind, Sem.run_pure, Result.andThen_ok] at h
  cases hq : (loadVar t ⟨g, o, none⟩).run P w with
  | ok v w' =>
    rw [hq] at h
    simp only [Result.andThen_ok, Sem.run_pure] at h
    injection h with h1 h2
    injection h1 with h1
    rw [h1, h2]
  | _ => rw [hq] at h; simp [Result.andThen] at h
theorem retC1 {a : Act} {fn : Func} {R : Ending → World → Prop} {n : Nat} {l : List (Nat × Value)} {t : Nat} {T : TypeId} {p : Addr} {v : Value} (F : Fr n [] l a) (hr : fn.results = #[.cell t T]) (hv : ev l (.tmp t) = some (.pointer (some p))) (hl : (loadVar T p).run P w = .ok v w) (h : R (.returned v) w) : bodyPost P fn R .ret a w :=
  ⟨F.df, v, by have h1 := F.ev hv; simp only [Act.eval, Array.getD_eq_getD_getElem?] at h1; simp [results, hr, h1, asAddr, hl], h⟩
theorem retC2 {a : Act} {fn : Func} {R : Ending → World → Prop} {n : Nat} {l : List (Nat × Value)} {t u : Nat} {T : TypeId} {p : Addr} {v x : Value} (F : Fr n [] l a) (hr : fn.results = #[.cell t T, .tmp u]) (hv : ev l (.tmp t) = some (.pointer (some p))) (hx : ev l (.tmp u) = some x) (hl : (loadVar T p).run P w = .ok v w) (h : R (.returned (.tuple #[v, x])) w) : bodyPost P fn R .ret a w :=
  ⟨F.df, .tuple #[v, x], by have h1 := F.ev hv; have h2 := F.ev hx; simp only [Act.eval, Array.getD_eq_getD_getElem?] at h1 h2; simp [results, hr, h1, h2, asAddr, hl], h⟩
/-! ### Slices of slices -/
theorem r_sl {t e : TypeId} {x : Operand} {lo hi : Option Operand} {A : Option Addr} {n c sz l h : Nat} (hx : ρ x = .slice A n c) (ht : P.underlying t = some (.slice e)) (hs : szB P e sz = true) (hl : lo = none ∧ l = 0 ∨ ∃ o k, lo = some o ∧ ρ o = .int k (l : Int)) (hh : hi = none ∧ h = n ∨ ∃ o k, hi = some o ∧ ρ o = .int k (h : Int)) (h1 : l ≤ h) (h2 : h ≤ c) :
    (execOp ρ ⟨d, .slice t x lo hi none, ty, pos, af, gd⟩).run P w = .ok (.value (.slice (if c = l then A else A.map (·.add (l * sz))) (h - l) (c - l))) w := by
  unfold szB at hs
  split at hs
  · rename_i i hq
    have hs' : i.size = sz := by simpa using hs
    subst hs'
    have h1' : (l : Int) ≤ h := by omega
    have h2' : (h : Int) ≤ c := by omega
    unfold execOp
    rcases hl with ⟨rfl, rfl⟩ | ⟨o, k, rfl, ho⟩ <;> rcases hh with ⟨rfl, rfl⟩ | ⟨o', k', rfl, ho'⟩
    · simp [hx, Instr.sliceAt, Instr.slice, Instr.sliceBounds, Instr.sliceBound, asIntOf, run_underlying ht, sizeOf, run_typeInfo w hq, Result.andThen]
    · simp [hx, ho', Instr.sliceAt, Instr.slice, Instr.sliceBounds, Instr.sliceBound, asIntOf, run_underlying ht, sizeOf, run_typeInfo w hq, Result.andThen, h2]
    · simp [hx, ho, Instr.sliceAt, Instr.slice, Instr.sliceBounds, Instr.sliceBound, asIntOf, run_underlying ht, sizeOf, run_typeInfo w hq, Result.andThen, h1]
    · simp [hx, ho, ho', Instr.sliceAt, Instr.slice, Instr.sliceBounds, Instr.sliceBound, asIntOf, run_underlying ht, sizeOf, run_typeInfo w hq, Result.andThen, h1, h2]
  · cases hs
/-- A cut of a row that is read. -/
theorem Hp.sl {α : Type} {kd : Kd α} {A : Option Addr} {c : Nat} {xs : List α} {t e : TypeId} {x : Operand} {lo hi : Option Operand} {jl jh : Int} (H : Hp w0 ps fs w) (i : Nat) (hi' : ps[i]? = some (rd kd A c xs)) (hx : ρ x = .slice A xs.length c) (ht : P.underlying t = some (.slice e)) (hs : szB P e kd.sz = true) (hl : lo = none ∧ jl = 0 ∨ ∃ o k, lo = some o ∧ ρ o = .int k jl) (hh : hi = none ∧ jh = (xs.length : Int) ∨ ∃ o k, hi = some o ∧ ρ o = .int k jh) (hb : 0 ≤ jl ∧ jl ≤ jh ∧ jh ≤ (xs.length : Int)) :
    ∃ A' c', (∀ (d : Option Tmp) (ty : TypeId) (pos : String) (af : Array Edge) (gd : Option (Nat × Bool)) w', (execOp ρ ⟨d, .slice t x lo hi none, ty, pos, af, gd⟩).run P w' = .ok (.value (.slice A' ((xs.take jh.toNat).drop jl.toNat).length c')) w') ∧ Hp w0 (rd kd A' c' ((xs.take jh.toNat).drop jl.toNat) :: ps) fs w := by
  obtain ⟨Z, H⟩ := H
  have hR : Rows kd Z w A c xs := H.pers _ (List.mem_of_getElem? hi')
  obtain ⟨l, rfl⟩ : ∃ l : Nat, jl = l := ⟨jl.toNat, by omega⟩
  obtain ⟨h, rfl⟩ : ∃ h : Nat, jh = h := ⟨jh.toNat, by omega⟩
  have hc := hR.1
  have hlen : ((xs.take (h : Int).toNat).drop (l : Int).toNat).length = h - l := by rw [List.length_drop, List.length_take]; simp only [Int.toNat_natCast]; omega
  refine ⟨if c = l then A else A.map (·.add (l * kd.sz)), c - l, fun d ty pos af gd w' => ?_, Z, H.os, H.tape, H.output, H.old, H.size, H.zlt, fun p hp => ?_, H.sep⟩
  · rw [hlen]
    exact r_sl hx ht hs (hl.imp (fun h => ⟨h.1, by omega⟩) id) (hh.imp (fun h => ⟨h.1, by omega⟩) id) (by omega) (by omega)
  · rcases List.mem_cons.1 hp with rfl | hp
    · exact hR.cut l h (by omega) (by omega)
    · exact H.pers p hp
theorem r_bd {a : Act} {n : Nat} {D : List Deferred} {l : List (Nat × Value)} (F : Fr n D l a) {t : TypeId} {parts : List (Nat × Operand)} {vs : List (Nat × Value)} {cs : List Value} (hp : pevs l parts = some vs) (hb : ∀ w, (Instr.build t vs.toArray).run P w = .ok (.agg cs.toArray) w) : (execOp a.eval ⟨d, .build t parts.toArray, ty, pos, af, gd⟩).run P w = .ok (.value (.agg cs.toArray)) w := by
  unfold execOp
  have h2 : (parts.toArray.map fun (p : Nat × Operand) => (p.1, a.eval p.2)) = vs.toArray := by rw [List.map_toArray]; exact congrArg _ (F.pevs hp)
  simp only [h2, Sem.run_bind, hb, Result.andThen_ok, Sem.run_pure]
/-! ### Shifts and bits -/
theorem r_binS {op : BinOp} {t t' : TypeId} {x y : Operand} {k k' : IntKind} {a b : Int} {v : Value} (hx : ρ x = .int k a) (hy : ρ y = .int k' b) (hr : ∀ w, (binOp op t (.int k a) (.int k' b)).run P w = .ok v w) : (execOp ρ ⟨d, .binOp op t x y t', ty, pos, af, gd⟩).run P w = .ok (.value v) w := by
  have hg : (eqGuard op t x y (.int k a) (.int k' b)).run P w = .ok () w := by
    unfold eqGuard
    split <;> simp
  unfold execOp
  simp only [hx, hy, Sem.run_bind, hg, Result.andThen_ok, hr, Sem.run_pure]
theorem r_shr {t t' : TypeId} {x y : Operand} {k k' : IntKind} {a b : Int} (hx : ρ x = .int k a) (hy : ρ y = .int k' b) (h0 : 0 ≤ b) : (execOp ρ ⟨d, .binOp .shr t x y t', ty, pos, af, gd⟩).run P w = .ok (.value (.int k (a.fdiv (2 ^ min b.toNat k.bits)))) w := r_binS hx hy fun w => by
  have : ¬ b < 0 := by omega
  simp [binOp, Op.shift, this]
theorem r_shl {t t' : TypeId} {x y : Operand} {k k' : IntKind} {a b : Int} (hx : ρ x = .int k a) (hy : ρ y = .int k' b) (h0 : 0 ≤ b) : (execOp ρ ⟨d, .binOp .shl t x y t', ty, pos, af, gd⟩).run P w = .ok (.value (.int k (k.wrap (a * 2 ^ min b.toNat k.bits)))) w := r_binS hx hy fun w => by
  have : ¬ b < 0 := by omega
  simp [binOp, Op.shift, this]
/-- Two numbers, bit by bit. -/
def orI (k : IntKind) (a b : Int) : Int := k.wrap ((BitVec.ofInt k.bits a ||| BitVec.ofInt k.bits b).toNat : Int)
theorem r_or {t t' : TypeId} {x y : Operand} {k : IntKind} {a b : Int} (hx : ρ x = .int k a) (hy : ρ y = .int k b) : (execOp ρ ⟨d, .binOp .or t x y t', ty, pos, af, gd⟩).run P w = .ok (.value (.int k (orI k a b))) w := r_binS hx hy fun w => by simp [binOp, Op.intBits, orI]
end
section
variable {P : Program} {ops : Array Oper} {Q : Exit → Act → World → Prop} {S S' : World → Prop} {a : Act} {w : World} {o : Oper} {fuel : Nat}
theorem d3 (i j k : Nat) {l : Array Bool} {oj ok : Oper} (hi : ops[i]? = some o) (hj : ops[j]? = some oj) (hk : ops[k]? = some ok) (hc : (Region.ready .any ops l == [i, j, k]) = true)
    (h : Nx P ops Q o (Kg P ops Q fuel S (l.setIfInBounds i true) i) a w) (h2 : Nx P ops Q oj (Kg P ops Q fuel S (l.setIfInBounds j true) j) a w) (h3 : Nx P ops Q ok (Kg P ops Q fuel S (l.setIfInBounds k true) k) a w) : wpG P ops Q (fuel + 1) S l a w :=
  dn [i, j, k] hc (by simp) fun q hq => by
    rcases List.mem_cons.1 hq with rfl | hq
    · exact ⟨o, hi, h⟩
    · rcases List.mem_cons.1 hq with rfl | hq
      · exact ⟨oj, hj, h2⟩
      · rw [List.mem_singleton.1 hq]; exact ⟨ok, hk, h3⟩
end
end Go.Proofs.Ytpmkpiffbdcflaa
