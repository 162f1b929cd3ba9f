/- What the operations of the model leave, each as one equation. -/
import Derived.Test.YtpmkpiffbdcflaaCelB
set_option linter.unusedVariables false
set_option linter.unusedSimpArgs false
namespace Go.Proofs.Ytpmkpiffbdcflaa
open Go Go.RowKit
section
variable {P : Program} {ρ : Operand → Value} {d : Option Tmp} {ty : TypeId} {pos : String} {af : Array Edge} {gd : Option (Nat × Bool)} {w : World}
/-! ### Operations that look at no memory -/
theorem r_mv {x : Operand} {v : Value} (hx : ρ x = v) : (execOp ρ ⟨d, .move x, ty, pos, af, gd⟩).run P w = .ok (.value v) w := by subst hx; rfl
theorem r_as {x : Operand} {v : Value} (hx : ρ x = v) : (execOp ρ ⟨d, .assign x, ty, pos, af, gd⟩).run P w = .ok (.value v) w := by subst hx; rfl
theorem r_pickT {c x y : Operand} {v : Value} (hc : ρ c = .bool true) (hx : ρ x = v) : (execOp ρ ⟨d, .pick c x y, ty, pos, af, gd⟩).run P w = .ok (.value v) w := by
  subst hx
  unfold execOp
  simp [hc, asBool]
theorem r_pickF {c x y : Operand} {v : Value} (hc : ρ c = .bool false) (hy : ρ y = v) : (execOp ρ ⟨d, .pick c x y, ty, pos, af, gd⟩).run P w = .ok (.value v) w := by
  subst hy
  unfold execOp
  simp [hc, asBool]
theorem r_nc {x : Operand} {p : Addr} (hx : ρ x = .pointer (some p)) : (execOp ρ ⟨d, .nilCheck x, ty, pos, af, gd⟩).run P w = .ok (.value (.pointer (some p))) w := by
  unfold execOp
  simp [hx]
theorem r_bin {op : BinOp} {t t' : TypeId} {x y : Operand} {k : IntKind} {a b : Int} {v : Value} (hx : ρ x = .int k a) (hy : ρ y = .int k b) (hr : ∀ w, (binOp op t (.int k a) (.int k b)).run P w = .ok v w) : (execOp ρ ⟨d, .binOp op t x y t', ty, pos, af, gd⟩).run P w = .ok (.value v) w := by
  unfold execOp
  simp only [hx, hy]
  have he : ∀ w, (eqGuard op t x y (.int k a) (.int k b)).run P w = .ok () w := by
    intro w
    unfold eqGuard
    split <;> simp
  simp [he, hr]
theorem r_add {t t' : TypeId} {x y : Operand} {k : IntKind} {a b : Int} (hx : ρ x = .int k a) (hy : ρ y = .int k b) : (execOp ρ ⟨d, .binOp .add t x y t', ty, pos, af, gd⟩).run P w = .ok (.value (.int k (k.wrap (a + b)))) w := r_bin hx hy fun w => by simp [binOp, Op.intArith]
theorem r_sub {t t' : TypeId} {x y : Operand} {k : IntKind} {a b : Int} (hx : ρ x = .int k a) (hy : ρ y = .int k b) : (execOp ρ ⟨d, .binOp .sub t x y t', ty, pos, af, gd⟩).run P w = .ok (.value (.int k (k.wrap (a - b)))) w := r_bin hx hy fun w => by simp [binOp, Op.intArith]
theorem r_mul {t t' : TypeId} {x y : Operand} {k : IntKind} {a b : Int} (hx : ρ x = .int k a) (hy : ρ y = .int k b) : (execOp ρ ⟨d, .binOp .mul t x y t', ty, pos, af, gd⟩).run P w = .ok (.value (.int k (k.wrap (a * b)))) w := r_bin hx hy fun w => by simp [binOp, Op.intArith]
theorem r_quo {t t' : TypeId} {x y : Operand} {k : IntKind} {a b : Int} (hx : ρ x = .int k a) (hy : ρ y = .int k b) (h0 : b ≠ 0) : (execOp ρ ⟨d, .binOp .quo t x y t', ty, pos, af, gd⟩).run P w = .ok (.value (.int k (k.wrap (a.tdiv b)))) w := r_bin hx hy fun w => by simp [binOp, Op.intDiv, h0]
theorem r_rem {t t' : TypeId} {x y : Operand} {k : IntKind} {a b : Int} (hx : ρ x = .int k a) (hy : ρ y = .int k b) (h0 : b ≠ 0) : (execOp ρ ⟨d, .binOp .rem t x y t', ty, pos, af, gd⟩).run P w = .ok (.value (.int k (a.tmod b))) w := r_bin hx hy fun w => by simp [binOp, Op.intDiv, h0]
theorem r_eq {t t' : TypeId} {x y : Operand} {k : IntKind} {a b : Int} (hx : ρ x = .int k a) (hy : ρ y = .int k b) : (execOp ρ ⟨d, .binOp .eql t x y t', ty, pos, af, gd⟩).run P w = .ok (.value (.bool (decide (a = b)))) w := r_bin hx hy fun w => by simp [binOp, Op.intCmp]; rfl
theorem r_ne {t t' : TypeId} {x y : Operand} {k : IntKind} {a b : Int} (hx : ρ x = .int k a) (hy : ρ y = .int k b) : (execOp ρ ⟨d, .binOp .neq t x y t', ty, pos, af, gd⟩).run P w = .ok (.value (.bool (decide (a ≠ b)))) w := r_bin hx hy fun w => by simp [binOp, Op.intCmp]; rfl
theorem r_lt {t t' : TypeId} {x y : Operand} {k : IntKind} {a b : Int} (hx : ρ x = .int k a) (hy : ρ y = .int k b) : (execOp ρ ⟨d, .binOp .lss t x y t', ty, pos, af, gd⟩).run P w = .ok (.value (.bool (decide (a < b)))) w := r_bin hx hy fun w => by simp [binOp, Op.intCmp]
theorem r_le {t t' : TypeId} {x y : Operand} {k : IntKind} {a b : Int} (hx : ρ x = .int k a) (hy : ρ y = .int k b) : (execOp ρ ⟨d, .binOp .leq t x y t', ty, pos, af, gd⟩).run P w = .ok (.value (.bool (decide (a ≤ b)))) w := r_bin hx hy fun w => by simp [binOp, Op.intCmp]
theorem r_gt {t t' : TypeId} {x y : Operand} {k : IntKind} {a b : Int} (hx : ρ x = .int k a) (hy : ρ y = .int k b) : (execOp ρ ⟨d, .binOp .gtr t x y t', ty, pos, af, gd⟩).run P w = .ok (.value (.bool (decide (a > b)))) w := r_bin hx hy fun w => by simp [binOp, Op.intCmp]
theorem r_ge {t t' : TypeId} {x y : Operand} {k : IntKind} {a b : Int} (hx : ρ x = .int k a) (hy : ρ y = .int k b) : (execOp ρ ⟨d, .binOp .geq t x y t', ty, pos, af, gd⟩).run P w = .ok (.value (.bool (decide (a ≥ b)))) w := r_bin hx hy fun w => by simp [binOp, Op.intCmp]
theorem r_not {t : TypeId} {x : Operand} {b : Bool} (hx : ρ x = .bool b) : (execOp ρ ⟨d, .unOp .not t x, ty, pos, af, gd⟩).run P w = .ok (.value (.bool (!b))) w := by
  unfold execOp
  simp [hx, Op.unary]
theorem r_ci {s t : TypeId} {x : Operand} {k k' : IntKind} {n : Int} (hx : ρ x = .int k n) (ht : P.underlying t = some (.int k')) (hs : P.underlying s = some (.int k)) : (execOp ρ ⟨d, .convert s t x, ty, pos, af, gd⟩).run P w = .ok (.value (.int k' (k'.wrap n))) w := by
  unfold execOp
  simp [hx, convert, run_underlying ht, run_underlying hs, Conv.intToInt]
theorem r_ex {x : Operand} {vs : Array Value} {i : Nat} {v : Value} (hx : ρ x = .tuple vs) (hv : vs[i]? = some v) : (execOp ρ ⟨d, .extract x i, ty, pos, af, gd⟩).run P w = .ok (.value v) w := by
  unfold execOp
  simp [hx, Instr.extract, hv]
theorem r_mf {fn : Fn} {first cap : Array Operand} {f' c' : Array Value} (h1 : first.map ρ = f') (h2 : cap.map ρ = c') : (execOp ρ ⟨d, .makeFunc fn first cap, ty, pos, af, gd⟩).run P w = .ok (.value (.func fn f' c')) w := by
  subst h1 h2
  rfl
theorem r_len {x : Operand} {t : TypeId} {A : Option Addr} {n c : Nat} {e : TypeId} (hx : ρ x = .slice A n c) (ht : P.underlying t = some (.slice e)) : (execOp ρ ⟨d, .call ⟨.builtin .len, #[x], #[t]⟩, ty, pos, af, gd⟩).run P w = .ok (.value (.int .i64 (n : Int))) w := by
  unfold execOp
  simp [resolve, invoke, builtin, Builtin.len_, hx, run_underlying ht, goInt]
theorem r_min {x y : Operand} {ts : Array TypeId} {k : IntKind} {a b : Int} (hx : ρ x = .int k a) (hy : ρ y = .int k b) : (execOp ρ ⟨d, .call ⟨.builtin .min, #[x, y], ts⟩, ty, pos, af, gd⟩).run P w = .ok (.value (.int k (min a b))) w := by
  have e : (if b < a then b else a) = min a b := by omega
  unfold execOp
  simp [resolve, invoke, builtin, Builtin.min_, Builtin.min2, hx, hy, e]
theorem r_max {x y : Operand} {ts : Array TypeId} {k : IntKind} {a b : Int} (hx : ρ x = .int k a) (hy : ρ y = .int k b) : (execOp ρ ⟨d, .call ⟨.builtin .max, #[x, y], ts⟩, ty, pos, af, gd⟩).run P w = .ok (.value (.int k (max a b))) w := by
  have e : (if b > a then b else a) = max a b := by omega
  unfold execOp
  simp [resolve, invoke, builtin, Builtin.max_, Builtin.max2, hx, hy, e]
/-- A field's place. -/
def fldB (P : Program) (s : TypeId) (f off : Nat) : Bool :=
  match P.underlying s with
  | some (.struct fs) => match fs[f]? with
    | some x => x.offset == off && (match P.info? x.type with | some i => i.size != 0 | none => false)
    | none => false
  | _ => false
theorem addr_off (g o j : Nat) : (⟨g, o, none⟩ : Addr).add j = ⟨g, o + j, none⟩ := addr_plain g o j
theorem r_fa {s : TypeId} {x : Operand} {f off g o : Nat} (hx : ρ x = .pointer (some ⟨g, o, none⟩)) (hf : fldB P s f off = true) : (execOp ρ ⟨d, .fieldAddr s x f, ty, pos, af, gd⟩).run P w = .ok (.value (.pointer (some ⟨g, o + off, none⟩))) w := by
  unfold fldB at hf
  split at hf
  · rename_i fs hs
    split at hf
    · rename_i fl hfl
      simp only [Bool.and_eq_true, beq_iff_eq] at hf
      obtain ⟨ho, hz⟩ := hf
      split at hz
      · rename_i i hi
        have hz' : i.size ≠ 0 := by simpa using hz
        subst ho
        unfold execOp
        simp [hx, Instr.fieldAt, run_underlying hs, hfl, Instr.sureAddr, fieldPlace, sizeOf, run_typeInfo w hi, hz', addr_off, Result.andThen]
      · cases hz
    · cases hf
  · cases hf
/-- An address held against nil. -/
theorem run_eqlP_ {t e : TypeId} {a b : Option Addr} (ht : P.underlying t = some (.pointer e)) (hb : a = none ∨ b = none) : ∀ n, (Op.equalIn (n + 1) t (.pointer a) (.pointer b)).run P w = .ok (decide (a = b)) w := by
  intro n
  unfold Op.equalIn
  simp only [Sem.run_bind, run_underlying ht, Result.andThen_ok]
  rcases hb with rfl | rfl
  · cases b <;> rfl
  · cases a <;> rfl
theorem run_eqlP {t e : TypeId} {a b : Option Addr} (ht : P.underlying t = some (.pointer e)) (hb : a = none ∨ b = none) : (Op.equal t (.pointer a) (.pointer b)).run P w = .ok (decide (a = b)) w := run_eqlP_ ht hb 9999
theorem run_guardP {op : BinOp} {t : TypeId} {x y : Operand} {a b : Option Addr} : (eqGuard op t x y (.pointer a) (.pointer b)).run P w = .ok () w := by
  unfold eqGuard
  split <;> rfl
theorem r_pp {t t' e : TypeId} {x y : Operand} {a b : Option Addr} (hx : ρ x = .pointer a) (hy : ρ y = .pointer b) (ht : P.underlying t = some (.pointer e)) (hb : a = none ∨ b = none) : (execOp ρ ⟨d, .binOp .eql t x y t', ty, pos, af, gd⟩).run P w = .ok (.value (.bool (decide (a = b)))) w := by
  have hr : (binOp .eql t (.pointer a) (.pointer b)).run P w = .ok (.bool (decide (a = b))) w := by
    show ((do pure (Value.bool (← Op.equal t (.pointer a) (.pointer b)))) : Sem Value).run P w = _
    simp only [Sem.run_bind, run_eqlP ht hb, Result.andThen_ok, Sem.run_pure]
  unfold execOp
  simp only [hx, hy, Sem.run_bind, run_guardP, Result.andThen_ok, hr, Sem.run_pure]
theorem r_peq {t t' e : TypeId} {x y : Operand} {p : Addr} (hx : ρ x = .pointer (some p)) (hy : ρ y = .pointer none) (ht : P.underlying t = some (.pointer e)) : (execOp ρ ⟨d, .binOp .eql t x y t', ty, pos, af, gd⟩).run P w = .ok (.value (.bool false)) w := r_pp hx hy ht (.inr rfl)
theorem r_peq0 {t t' e : TypeId} {x y : Operand} (hx : ρ x = .pointer none) (hy : ρ y = .pointer none) (ht : P.underlying t = some (.pointer e)) : (execOp ρ ⟨d, .binOp .eql t x y t', ty, pos, af, gd⟩).run P w = .ok (.value (.bool true)) w := r_pp hx hy ht (.inr rfl)
/-- Truth values held against one another. -/
theorem run_eqlB_ {t : TypeId} {a b : Bool} (ht : P.underlying t = some .bool) : ∀ n, (Op.equalIn (n + 1) t (.bool a) (.bool b)).run P w = .ok (a == b) w := by
  intro n
  unfold Op.equalIn
  simp only [Sem.run_bind, run_underlying ht, Result.andThen_ok]
  rfl
theorem run_eqlB {t : TypeId} {a b : Bool} (ht : P.underlying t = some .bool) : (Op.equal t (.bool a) (.bool b)).run P w = .ok (a == b) w := run_eqlB_ ht 9999
theorem run_guardB {op : BinOp} {t : TypeId} {x y : Operand} {a b : Bool} : (eqGuard op t x y (.bool a) (.bool b)).run P w = .ok () w := by
  unfold eqGuard
  split <;> rfl
theorem r_beq {t t' : TypeId} {x y : Operand} {a b : Bool} (hx : ρ x = .bool a) (hy : ρ y = .bool b) (ht : P.underlying t = some .bool) : (execOp ρ ⟨d, .binOp .eql t x y t', ty, pos, af, gd⟩).run P w = .ok (.value (.bool (a == b))) w := by
  have hr : (binOp .eql t (.bool a) (.bool b)).run P w = .ok (.bool (a == b)) w := by
    show ((do pure (Value.bool (← Op.equal t (.bool a) (.bool b)))) : Sem Value).run P w = _
    simp only [Sem.run_bind, run_eqlB ht, Result.andThen_ok, Sem.run_pure]
  unfold execOp
  simp only [hx, hy, Sem.run_bind, run_guardB, Result.andThen_ok, hr, Sem.run_pure]
/-- A slice held against nil. -/
theorem run_eqlS_ {t e : TypeId} {A B : Option Addr} {n c n' c' : Nat} (ht : P.underlying t = some (.slice e)) (hb : B = none) : ∀ m, (Op.equalIn (m + 1) t (.slice A n c) (.slice B n' c')).run P w = .ok A.isNone w := by
  intro m
  unfold Op.equalIn
  simp only [Sem.run_bind, run_underlying ht, Result.andThen_ok]
  subst hb
  cases A <;> rfl
theorem run_eqlS {t e : TypeId} {A B : Option Addr} {n c n' c' : Nat} (ht : P.underlying t = some (.slice e)) (hb : B = none) : (Op.equal t (.slice A n c) (.slice B n' c')).run P w = .ok A.isNone w := run_eqlS_ ht hb 9999
theorem run_guardS {op : BinOp} {t : TypeId} {x y : Operand} {A B : Option Addr} {n c n' c' : Nat} : (eqGuard op t x y (.slice A n c) (.slice B n' c')).run P w = .ok () w := by
  unfold eqGuard
  split <;> rfl
theorem r_snil {t t' e : TypeId} {x y : Operand} {A : Option Addr} {n c n' c' : Nat} (hx : ρ x = .slice A n c) (hy : ρ y = .slice none n' c') (ht : P.underlying t = some (.slice e)) : (execOp ρ ⟨d, .binOp .eql t x y t', ty, pos, af, gd⟩).run P w = .ok (.value (.bool A.isNone)) w := by
  have hr : (binOp .eql t (.slice A n c) (.slice none n' c')).run P w = .ok (.bool A.isNone) w := by
    show ((do pure (Value.bool (← Op.equal t (.slice A n c) (.slice none n' c')))) : Sem Value).run P w = _
    simp only [Sem.run_bind, run_eqlS ht rfl, Result.andThen_ok, Sem.run_pure]
  unfold execOp
  simp only [hx, hy, Sem.run_bind, run_guardS, Result.andThen_ok, hr, Sem.run_pure]
/-- Strings held against one another. -/
theorem ofNat_inj {a b : Int} (ha : 0 ≤ a ∧ a < 256) (hb : 0 ≤ b ∧ b < 256) (h : UInt8.ofNat a.toNat = UInt8.ofNat b.toNat) : a = b := by
  have := congrArg UInt8.toNat h
  simp only [UInt8.toNat_ofNat'] at this
  omega
theorem str_inj : ∀ {xs ys : List Int}, Bytes xs → Bytes ys → (xs.map fun n => UInt8.ofNat n.toNat) = (ys.map fun n => UInt8.ofNat n.toNat) → xs = ys
  | [], [], _, _, _ => rfl
  | [], _ :: _, _, _, h => by simp at h
  | _ :: _, [], _, _, h => by simp at h
  | x :: xs, y :: ys, hx, hy, h => by
    simp only [List.map_cons, List.cons.injEq] at h
    rw [ofNat_inj (hx x List.mem_cons_self) (hy y List.mem_cons_self) h.1, str_inj (fun z hz => hx z (List.mem_cons_of_mem _ hz)) (fun z hz => hy z (List.mem_cons_of_mem _ hz)) h.2]
theorem str_eq {xs ys : List Int} (hx : Bytes xs) (hy : Bytes ys) : ((strOf xs).toList == (strOf ys).toList) = decide (xs = ys) := by
  rw [ByteArray.toList_eq, ByteArray.toList_eq]
  by_cases h : xs = ys
  · subst h; simp
  · rw [decide_eq_false h]
    rw [beq_eq_false_iff_ne]
    intro he
    exact h (str_inj hx hy (by simpa [strOf] using he))
theorem run_guardT {op : BinOp} {t : TypeId} {x y : Operand} {a b : ByteArray} : (eqGuard op t x y (.string a) (.string b)).run P w = .ok () w := by
  unfold eqGuard
  split <;> rfl
theorem r_str {op : BinOp} {t t' : TypeId} {x y : Operand} {a b : ByteArray} {v : Value} (hx : ρ x = .string a) (hy : ρ y = .string b) (hop : op ≠ .shl ∧ op ≠ .shr) (hr : (Op.stringOp op a b).run P w = .ok v w) : (execOp ρ ⟨d, .binOp op t x y t', ty, pos, af, gd⟩).run P w = .ok (.value v) w := by
  have h2 : binOp op t (.string a) (.string b) = Op.stringOp op a b := by
    cases op <;> first | rfl | exact absurd rfl hop.1 | exact absurd rfl hop.2
  unfold execOp
  simp only [hx, hy, Sem.run_bind, run_guardT, Result.andThen_ok, h2, hr, Sem.run_pure]
theorem r_seq {t t' : TypeId} {x y : Operand} {xs ys : List Int} (hx : ρ x = .string (strOf xs)) (hy : ρ y = .string (strOf ys)) (bx : Bytes xs) (bY : Bytes ys) : (execOp ρ ⟨d, .binOp .eql t x y t', ty, pos, af, gd⟩).run P w = .ok (.value (.bool (decide (xs = ys)))) w :=
  r_str hx hy (by simp) (by show Sem.run P (pure (Value.bool ((strOf xs).toList == (strOf ys).toList))) w = _; rw [str_eq bx bY]; rfl)
theorem r_sne {t t' : TypeId} {x y : Operand} {xs ys : List Int} (hx : ρ x = .string (strOf xs)) (hy : ρ y = .string (strOf ys)) (bx : Bytes xs) (bY : Bytes ys) : (execOp ρ ⟨d, .binOp .neq t x y t', ty, pos, af, gd⟩).run P w = .ok (.value (.bool (decide (xs ≠ ys)))) w :=
  r_str hx hy (by simp) (by show Sem.run P (pure (Value.bool (!((strOf xs).toList == (strOf ys).toList)))) w = _; rw [str_eq bx bY]; simp only [decide_not]; rfl)
end
end Go.Proofs.Ytpmkpiffbdcflaa
