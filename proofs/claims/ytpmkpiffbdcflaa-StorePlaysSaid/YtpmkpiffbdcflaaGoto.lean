/- Jumps back to a label; deferred calls; functions with arguments ahead. -/
import Derived.Test.YtpmkpiffbdcflaaArrB
import Derived.ScopeJumps
import Derived.Defers
set_option linter.unusedVariables false
set_option linter.unusedSimpArgs false
namespace Go.Proofs.Ytpmkpiffbdcflaa
open Go Go.RowKit
section
variable {P : Program} {Q : Exit → Act → World → Prop} {a : Act} {w : World}
/-- From the label on all goes well. -/
def Good (P : Program) (c rest : Code) (Q : Exit → Act → World → Prop) (a : Act) (w : World) : Prop :=
  ∀ (b : Frame) (k : List Item) (cs : List Frame), ∃ e a' w', Q e a' w' ∧ Arrives P (lone (b.at a (.code rest :: .inScope c :: k)) cs w) b k cs e a' w'
theorem good_steps {c rest : Code} {l : Nat} {m : Machine} {b : Frame} {k : List Item} {cs : List Frame} (hf : findLabel c l = some rest) {e : Exit} {a1 : Act} {w1 : World} (hq : Exit.jump l (Good P c rest Q) Q e a1 w1) (harr : Arrives P m b (.inScope c :: k) cs e a1 w1) : ∃ e a' w', Q e a' w' ∧ Arrives P m b k cs e a' w' := by
  have hg : gotoIn l (.inScope c :: k) = some (.code rest :: .inScope c :: k) := by simp [gotoIn, hf]
  cases e with
  | normal => exact ⟨.normal, a1, w1, hq, Steps.trans harr (.one step_inScope)⟩
  | exit id => exact ⟨.exit id, a1, w1, hq, fun k' hk => harr k' (by simp [exitTo, hk])⟩
  | goto l' =>
    obtain ⟨rfl, hJ⟩ := hq
    obtain ⟨e2, a2, w2, hq2, harr2⟩ := hJ b k cs
    exact ⟨e2, a2, w2, hq2, .of_steps (harr _ hg) harr2⟩
  | ret => exact ⟨_, a1, w1, hq, harr⟩
  | panic ch => exact ⟨_, a1, w1, hq, harr⟩
  | outgrown => exact ⟨_, a1, w1, hq, harr⟩
theorem good_of {c rest : Code} {l : Nat} (hf : findLabel c l = some rest) (h : rest.wp P (Exit.jump l (Good P c rest Q) Q) a w) : Good P c rest Q a w := by
  intro b k cs
  obtain ⟨e, a1, w1, hq, harr⟩ := h b (.inScope c :: k) cs
  exact good_steps hf hq harr
/-- A scope with a label. -/
theorem wscope (l : Nat) {c rest : Code} (hf : findLabel c l = some rest) (h : c.wp P (Exit.jump l (Good P c rest Q) Q) a w) : (Code.scope c).wp P Q a w := by
  intro b k cs
  obtain ⟨e, a1, w1, hq, harr⟩ := h b (.inScope c :: k) cs
  obtain ⟨e2, a2, w2, hq2, harr2⟩ := good_steps hf hq harr
  exact ⟨e2, a2, w2, hq2, .of_steps (.one step_scope) harr2⟩
/-- The label, as a loop. -/
theorem wlabel {σ ρ : Type} {c y : Code} {l : Nat} (hf : findLabel c l = some (.seq .skip y)) (f : σ → Option (σ ⊕ ρ)) (I : σ → Act → World → Prop) {s : σ} {out : ρ} (h : lp f s = some out) (h0 : I s a w)
    (round : ∀ s a w o, f s = some o → (∀ r, o = .inr r → r = out) → I s a w → y.wp P (Exit.jump l (fun a' w' => ∃ s', o = .inl s' ∧ I s' a' w') Q) a w) : y.wp P (Exit.jump l (Good P c (.seq .skip y) Q) Q) a w := by
  have key : ∀ n s a w, lpn f n s = some out → I s a w → y.wp P (Exit.jump l (Good P c (.seq .skip y) Q) Q) a w := by
    intro n
    induction n with
    | zero => intro s a w h; simp [lpn] at h
    | succ n ih =>
      intro s a w h hI
      simp only [lpn] at h
      cases hf' : f s with
      | none => simp [hf'] at h
      | some o =>
        refine Code.wp_mono (fun e a1 w1 hq => ?_) (round s a w o hf' (fun r hr => by subst hr; simp only [hf'] at h; injection h) hI)
        cases e with
        | goto l' =>
          obtain ⟨rfl, s', rfl, hI'⟩ := hq
          simp only [hf'] at h
          exact ⟨rfl, good_of hf (wp_seq (wp_skip (ih s' a1 w1 h hI')))⟩
        | normal => exact hq
        | exit id => exact hq
        | ret => exact hq
        | panic ch => exact hq
        | outgrown => exact hq
  exact key _ s a w h h0
end
/-! ### Deferred calls -/
section
variable {P : Program} {a : Act} {w : World}
theorem bpD {fn : Func} {R : Ending → World → Prop} (h : bodyPost P fn R .ret a w) : bodyPostD P fn R .ret a w := by
  obtain ⟨hd, v, h1, h2⟩ := h
  show Leaves P fn a.tmps R a.defers .returning w
  rw [hd]
  exact ⟨v, h1, h2⟩
/-- Into a function that defers. -/
theorem enterD {P : Program} {f : FuncId} {fn : Func} {c : Code} {w : World} {R : Ending → World → Prop} (args : List Value) (n : Nat) (hf : P.funcs[f]? = some fn) (k : ∀ (Q : Exit → Act → World → Prop) a, (∀ c a w, ¬ Q (.panic c) a w) → (∀ a w, bodyPostD P fn R .ret a w → Q .ret a w) → (∀ a w, bodyPostD P fn R .ret a w → Q .normal a w) → Fr n [] (slots 0 args) a → c.wp P Q a w) (hb : fn.body = some c := by rfl) (hn : fn.ntmps = n := by rfl) (hle : args.length ≤ n := by exact Nat.le_of_ble_eq_true rfl) : Calls P f args.toArray w R := by
  refine calls_of_wp_defers hf hb (Code.wp_mono (Q := fun e a w => (∀ c, e ≠ .panic c) ∧ bodyPostD P fn R e a w) (fun e a w h => h.2) (k _ _ (fun c a w h => h.1 c rfl) (fun a w h => ⟨fun c => by simp, h⟩) (fun a w h => ⟨fun c => by simp, h⟩) ⟨?_, rfl, fun t v h => ?_⟩))
  · simp [hn]; omega
  · obtain ⟨_, h2⟩ := slots_at args 0 t v h
    have hlt : t < args.length := (List.getElem?_eq_some_iff.1 h2).1
    simp only [Nat.sub_zero] at h2
    simp [Array.getD_eq_getD_getElem?, Array.getElem?_append, hlt, List.getElem?_eq_getElem hlt] at h2 ⊢
    exact h2
/-- Into the deferred call. -/
theorem inD {P : Program} {fn : Func} {c : Code} {w : World} {R : Ending → World → Prop} {args : List Value} {n : Nat} (hle : args.length ≤ n) (hn : fn.ntmps = n) (k : ∀ (Q : Exit → Act → World → Prop) a, (∀ c a w, Q (.panic c) a w → R (.panicked c) w) → (∀ a w, bodyPost P fn R .ret a w → Q .ret a w) → (∀ a w, bodyPost P fn R .ret a w → Q .normal a w) → Fr n [] (slots 0 args) a → c.wp P Q a w) : c.wp P (bodyPost P fn R) { tmps := args.toArray ++ Array.replicate (fn.ntmps - args.length) undef, defers := [] } w := by
  refine k _ _ (fun c a w h => h.2) (fun _ _ h => h) (fun _ _ h => h) ⟨?_, rfl, fun t v h => ?_⟩
  · simp [hn]; omega
  · obtain ⟨_, h2⟩ := slots_at args 0 t v h
    have hlt : t < args.length := (List.getElem?_eq_some_iff.1 h2).1
    simp only [Nat.sub_zero] at h2
    simp [Array.getD_eq_getD_getElem?, Array.getElem?_append, hlt, List.getElem?_eq_getElem hlt] at h2 ⊢
    exact h2
/-- What is read behind the deferred call. -/
theorem resC1 {fn : Func} {n : Nat} {D : List Deferred} {l : List (Nat × Value)} {t : Nat} {T : TypeId} {p : Addr} {v : Value} (F : Fr n D l a) (hr : fn.results = #[.cell t T]) (hv : ev l (.tmp t) = some (.pointer (some p))) (hl : (loadVar T p).run P w = .ok v w) : (results fn a.tmps).run P w = .ok v w := by
  have h1 := F.ev hv
  simp only [Act.eval, Array.getD_eq_getD_getElem?] at h1
  simp [results, hr, h1, asAddr, hl]
/-- Back from a function with one deferred call. -/
theorem retD {fn fn' : Func} {R : Ending → World → Prop} {n : Nat} {l : List (Nat × Value)} {k : FuncId} {caps : List Value} (F : Fr n [⟨.fn (.func k) caps.toArray, #[]⟩] l a) (hf : P.funcs[k]? = some fn') {c : Code} (hb : fn'.body = some c) (hname : (fn'.name == "runtime.NumGoroutine") = false)
    (h : c.wp P (bodyPost P fn' (fun e w' => ∃ v0, e = .returned v0 ∧ ∃ v, (results fn a.tmps).run P w' = .ok v w' ∧ R (.returned v) w')) { tmps := caps.toArray ++ Array.replicate (fn'.ntmps - caps.length) undef, defers := [] } w) : bodyPostD P fn R .ret a w := by
  show Leaves P fn a.tmps R a.defers .returning w
  rw [F.df]
  have h1 : fn'.name ≠ "runtime.NumGoroutine" := by simpa using hname
  refine ⟨by simp, .func k, caps.toArray, k, caps.toArray, rfl, by simp [invoke, callFunc, hf, h1, hb], ?_⟩
  have hc := callsD_of_wp (u := .returning) (args := caps.toArray) hf hb (by simpa using h)
  intro c0 cs hu
  obtain ⟨e, u', w', frX, hR, hrest⟩ := hc c0 cs hu
  refine ⟨e, u', w', frX, ?_, hrest⟩
  obtain ⟨rfl, ⟨v0, rfl⟩, v, hv, hR2⟩ := hR
  exact ⟨v, hv, hR2⟩
end
/-! ### A function value with arguments ahead -/
section
variable {P : Program} {ops : Array Oper} {Q : Exit → Act → World → Prop} {K : Act → World → Prop} {a : Act} {w : World}
theorem callF {n : Nat} {D : List Deferred} {l : List (Nat × Value)} (F : Fr n D l a) {d : Nat} {c : Operand} {xs : List Operand} {ts : Array TypeId} {ty : TypeId} {pos : String} {af : Array Edge} {gd : Option (Nat × Bool)} {f : FuncId} {first cap args : List Value} {R : Value → World → Prop} {fn : Func} (hf : P.funcs[f]? = some fn)
    (hcal : Calls P f args.toArray w fun e w' => ∃ v, e = .returned v ∧ R v w') (hc : ev l c = some (.func (.func f) first.toArray cap.toArray)) (hargs : (evs l xs).map (fun vs => first ++ vs ++ cap) = some args) (k : ∀ v w', R v w' → ∀ a', Fr n D ((d, v) :: l) a' → K a' w') (hd : d < n := by exact Nat.le_of_ble_eq_true rfl)
    (hname : (fn.name == "runtime.NumGoroutine") = false := by rfl) (hb : fn.body.isSome = true := by rfl) (hg : on ops l ⟨some d, .call ⟨.value c, xs.toArray, ts⟩, ty, pos, af, gd⟩ = some true := by rfl) : Nx P ops Q ⟨some d, .call ⟨.value c, xs.toArray, ts⟩, ty, pos, af, gd⟩ K a w := by
  unfold Nx
  rw [if_pos (F.on hg)]
  unfold Oper.wp
  have h1 : fn.name ≠ "runtime.NumGoroutine" := by simpa using hname
  obtain ⟨b, hb⟩ := Option.isSome_iff_exists.1 hb
  have hrun : (execOp a.eval ⟨some d, .call ⟨.value c, xs.toArray, ts⟩, ty, pos, af, gd⟩).run P w = .ok (.enter f args.toArray) w := by
    have hc' := F.ev hc
    have hargs' : first ++ xs.map a.eval ++ cap = args := by
      cases hq : evs l xs with
      | none => rw [hq] at hargs; cases hargs
      | some vs => rw [hq] at hargs; injection hargs with hargs; rw [F.evs hq]; exact hargs
    unfold execOp
    simp [resolve, Deferred.ofValue, invoke, hc', ← hargs', callFunc, hf, h1, hb]
  rw [hrun, Oper.upon_enter]
  refine hcal.mono fun e w'' hh => ?_
  obtain ⟨v, rfl, hR⟩ := hh
  exact k v w'' hR _ (F.put hd v)
/-- 'defer f()'. -/
theorem ldef {n : Nat} {l : List (Nat × Value)} (F : Fr n [] l a) {c : Operand} {ts : Array TypeId} {ty : TypeId} {pos : String} {af : Array Edge} {gd : Option (Nat × Bool)} {f : FuncId} {cap : List Value} (hc : ev l c = some (.func (.func f) #[] cap.toArray)) (k : ∀ a', Fr n [⟨.fn (.func f) cap.toArray, #[]⟩] l a' → K a' w) (hg : on ops l ⟨none, .defer ⟨.value c, #[], ts⟩, ty, pos, af, gd⟩ = some true := by rfl) : Nx P ops Q ⟨none, .defer ⟨.value c, #[], ts⟩, ty, pos, af, gd⟩ K a w := by
  unfold Nx
  rw [if_pos (F.on hg)]
  unfold Oper.wp
  have hc' := F.ev hc
  have hrun : (execOp a.eval ⟨none, .defer ⟨.value c, #[], ts⟩, ty, pos, af, gd⟩).run P w = .ok (.defer ⟨.fn (.func f) cap.toArray, #[]⟩) w := by
    unfold execOp
    simp [resolve, Deferred.ofValue, hc']
  rw [hrun, Oper.upon_defer]
  refine k _ ⟨by simpa [Act.put] using F.sz, by simp [Act.put, F.df], fun t v h => ?_⟩
  simpa [Act.put] using F.at_ t v h
end
end Go.Proofs.Ytpmkpiffbdcflaa
