/- A range over a function: the loop's record among the facts, the round, the statement, the return. -/
import Derived.Test.YtpmkpiffbdcflaaArrB
import Derived.RangeFuncRecord
import Derived.RangeFuncCalls
import Derived.TacticsIn
import Derived.ControlIn
set_option linter.unusedVariables false
set_option linter.unusedSimpArgs false
namespace Go.Proofs.Ytpmkpiffbdcflaa
open Go Go.RowKit
/-- A block that holds a thing. -/
def objf (g : Nat) (o : Obj) : SF := ⟨fun _ T w => w.heap[g]? = some o ∧ ∀ b, T b ↔ b = g, fun h _ _ hs => ⟨by rw [hs g ((h.2 g).2 rfl)]; exact h.1, h.2⟩⟩
section
variable {w0 w : World} {ps : List PF} {fs : List SF}
theorem Hp.newobj (H : Hp w0 ps fs w) (o : Obj) : Hp w0 ps (objf w.heap.size o :: fs) (w.alloc o) := by
  refine H.turn (Fs := []) [] [objf w.heap.size o] rfl rfl rfl (by simp) fun Z T _ ht hz _ _ => ⟨fun b hb _ => Below.heap_alloc w o b hb, Z, fun b => b = w.heap.size, fun _ h => h, fun b h hn => absurd h hn, ?_, ⟨fun b => b = w.heap.size, fun _ h => h, ⟨World.alloc_heap_new w _, fun _ => Iff.rfl⟩, trivial⟩, fun _ h => by cases h⟩
  rintro b rfl
  exact ⟨.inr (Nat.le_refl _), fun h => absurd (hz _ h) (by omega), by simp⟩
theorem Hp.obj {g : Nat} {o : Obj} (H : Hp w0 ps fs w) (i : Nat) (hi : fs[i]? = some (objf g o)) : w.heap[g]? = some o := by
  obtain ⟨Z, H⟩ := H
  obtain ⟨T, _, h, _⟩ := H.sep.front i hi
  exact h.1
theorem Hp.putobj {g : Nat} {o : Obj} (H : Hp w0 ps (objf g o :: fs) w) (o' : Obj) : Hp w0 ps (objf g o' :: fs) (w.putObj g o') := by
  have hlt : g < w.heap.size := (Array.getElem?_eq_some_iff.1 (H.obj 0 rfl)).1
  refine H.turn (Fs := [objf g o]) [] [objf g o'] rfl rfl rfl (by simp) ?_
  rintro Z T ⟨U, hU, ⟨_, hUg⟩, _⟩ ht hz htz _
  have hTg : T g := hU g ((hUg g).2 rfl)
  refine ⟨fun b _ hb => World.putObj_heap_other fun e => hb (e ▸ hTg), Z, fun b => b = g, fun _ h => h, fun b h hn => absurd h hn, ?_, ⟨fun b => b = g, fun _ h => h, ⟨World.putObj_heap_same hlt, fun _ => Iff.rfl⟩, trivial⟩, fun _ h => by cases h⟩
  rintro b rfl
  exact ⟨.inl hTg, htz b hTg, by rw [World.putObj_size]; exact hlt⟩
theorem Hp.begun {L : Nat} {rl : Loop} (H : Hp w0 ps (objf L (.loop rl) :: fs) w) : Hp w0 ps (objf L (.loop { rl with state := .busy }) :: fs) (w.putObj L (.loop { rl with state := .busy })) := H.putobj _
end
section
variable {P : Program} {a : Act} {w : World}
/-- Into a function that holds a range over a function. -/
theorem enterM {P : Program} {f : FuncId} {fn : Func} {c : Code} {w : World} {R : Ending → World → Prop} (args : List Value) (n : Nat) (hf : P.funcs[f]? = some fn) (k : ∀ (Q : Exit → Act → World → Prop) a, (∀ c a w, ¬ Q (.panic c) a w) → (∀ a w, bodyPostM Fence.wide 0 P fn R .ret a w → Q .ret a w) → (∀ a w, bodyPostM Fence.wide 0 P fn R .ret a w → Q .normal a w) → Fr n [] (slots 0 args) a → c.wp P Q a w) (hb : fn.body = some c := by rfl) (hn : fn.ntmps = n := by rfl) (hle : args.length ≤ n := by exact Nat.le_of_ble_eq_true rfl) : Calls P f args.toArray w R := by
  refine callsIn_wide.1 (callsIn_of_wp_marks (n := 0) hf hb trivial (wpIn_wide.2 (Code.wp_mono (Q := fun e a w => (∀ c, e ≠ .panic c) ∧ bodyPostM Fence.wide 0 P fn R e a w) (fun e a w h => h.2) (k _ _ (fun c a w h => h.1 c rfl) (fun a w h => ⟨fun c => by simp, h⟩) (fun a w h => ⟨fun c => by simp, h⟩) ⟨?_, rfl, fun t v h => ?_⟩))))
  · simp [hn]; omega
  · obtain ⟨_, h2⟩ := slots_at args 0 t v h
    have hlt : t < args.length := (List.getElem?_eq_some_iff.1 h2).1
    simp only [Nat.sub_zero] at h2
    simp [Array.getD_eq_getD_getElem?, Array.getElem?_append, hlt, List.getElem?_eq_getElem hlt] at h2 ⊢
    exact h2
theorem retM0 {fn : Func} {R : Ending → World → Prop} {n : Nat} {l : List (Nat × Value)} {v : Value} (F : Fr n [] l a) (hr : (results fn a.tmps).run P w = .ok v w) (h : R (.returned v) w) : bodyPostM Fence.wide 0 P fn R .ret a w := by
  show LeavesInM Fence.wide 0 P fn a.tmps R a.defers .returning w
  rw [F.df]
  exact ⟨v, hr, h⟩
theorem retM1 {fn : Func} {R : Ending → World → Prop} {n r : Nat} {l : List (Nat × Value)} {v : Value} (F : Fr n [⟨.collected r, #[]⟩] l a) (hd : w.heap[r]? = some (.deferred (some []))) (hr : (results fn a.tmps).run P (w.putObj r (.deferred none)) = .ok v (w.putObj r (.deferred none))) (h : R (.returned v) (w.putObj r (.deferred none))) : bodyPostM Fence.wide 0 P fn R .ret a w := by
  show LeavesInM Fence.wide 0 P fn a.tmps R a.defers .returning w
  rw [F.df]
  exact ⟨by simp, .inl ⟨r, _, rfl, run_takeDeferred hd, v, hr, h⟩⟩
theorem resC2 {fn : Func} {n : Nat} {D : List Deferred} {l : List (Nat × Value)} {t u : Nat} {T U : TypeId} {p q : Addr} {v x : Value} (F : Fr n D l a) (hr : fn.results = #[.cell t T, .cell u U]) (hv : ev l (.tmp t) = some (.pointer (some p))) (hu : ev l (.tmp u) = some (.pointer (some q))) (hl : (loadVar T p).run P w = .ok v w) (hm : (loadVar U q).run P w = .ok x w) : (results fn a.tmps).run P w = .ok (.tuple #[v, x]) w := by
  have h1 := F.ev hv
  have h2 := F.ev hu
  simp only [Act.eval, Array.getD_eq_getD_getElem?] at h1 h2
  simp [results, hr, h1, h2, asAddr, hl, hm]
end
/-! ### Operations under a fence that lets all in -/
section
variable {P : Program} {ops : Array Oper} {Q : Exit → Act → World → Prop} {a : Act} {w : World} {o : Oper} {rest : List Oper} {G : Fence}
theorem lsI (hG : G = Fence.wide ∨ ∃ l, G = Fence.wide.inRound l) (hd : ∀ c, o.op ≠ .defer c) (h : Nx P ops Q o (wpListIn G 0 P ops Q rest) a w) : wpListIn G 0 P ops Q (o :: rest) a w := by
  have hfn : ∀ f, G.fn f := by rcases hG with rfl | ⟨l, rfl⟩ <;> exact fun _ => trivial
  have hdp : G.depth = none := by rcases hG with rfl | ⟨l, rfl⟩ <;> rfl
  have hst : ∀ m m', Steps P m m' → StepsIn (Machine.fenced P G) P m m' := by rcases hG with rfl | ⟨l, rfl⟩ <;> exact fun m m' h => stepsIn_wide.2 h
  have hca : ∀ {f args w R}, Calls P f args w R → CallsIn G 0 P f args w R := by
    intro f args w R hz
    rcases hG with hG | ⟨l, hG⟩
    · rw [hG]; exact callsIn_wide.2 hz
    · rw [hG]; exact CallsIn.inRound l (callsIn_wide.2 hz)
  unfold Nx at h
  simp only [wpListIn]
  split
  · rename_i hw
    rw [if_pos hw] at h
    refine ⟨fun f _ => hfn f, ?_⟩
    rw [Oper.semAt_eq _ _ _ hd]
    simp only [Oper.wp, Oper.upon] at h
    split at h
    · rename_i hr; rw [hr]; exact h
    · rename_i hr; rw [hr]; exact h
    · rename_i hr; rw [hr]; exact h
    · rename_i hr; rw [hr, Oper.uponIn_enter]
      refine ⟨fun h => (by rw [hdp] at h; cases h), (hca h).mono fun e w' h => ?_⟩
      cases e <;> exact h
    · rename_i hr; rw [hr, Oper.uponIn_row]
      exact ⟨fun h => (by rw [hdp] at h; cases h), fun c cs _ => let ⟨v, w', r, s⟩ := h c cs; ⟨v, w', r, hst _ _ s⟩⟩
    · rename_i hr; rw [hr]; exact h
    · exact h.elim
  · rename_i hw
    rw [if_neg hw] at h
    exact ⟨fun f _ => hfn f, h⟩
theorem rgI {id : Nat} {l : List Oper} {y : Code} (h : wpListIn G 0 P l.toArray (Exit.then (y.wpIn G 0 P Q) Q) l a w) : (Code.seq (Code.region id l.toArray false) y).wpIn G 0 P Q a w := wpIn_seq (wpIn_region_lit h)
theorem rgendI {y : Code} (h : y.wpIn G 0 P Q a w) : wpListIn G 0 P ops (Exit.then (y.wpIn G 0 P Q) Q) [] a w := wpListIn_nil h
/-- A region in a plain walk, under the wide fence. -/
theorem rgW {id : Nat} {l : List Oper} {y : Code} (h : wpListIn Fence.wide 0 P l.toArray (Exit.then (y.wp P Q) Q) l a w) : (Code.seq (Code.region id l.toArray false) y).wp P Q a w := wp_seq (wpIn_wide.1 (wpIn_region_lit (n := 0) h))
theorem rgendW {y : Code} (h : y.wp P Q a w) : wpListIn Fence.wide 0 P ops (Exit.then (y.wp P Q) Q) [] a w := wpListIn_nil h
/-- A call of yield. -/
theorem yieldI {n : Nat} {D : List Deferred} {l : List (Nat × Value)} (F : Fr n D l a) {d : Nat} {c : Operand} {xs : List Operand} {ts : Array TypeId} {ty : TypeId} {pos : String} {af : Array Edge} {L : Nat} {r : Loop} {args : List Value} {R : Value → World → Prop} (hL : w.heap[L]? = some (.loop r))
    (hround : RoundIn Fence.wide 0 P L r.fn ((r.params.zip args.toArray).foldl (fun tmps (t, a) => tmps.setIfInBounds t a) r.tmps) r.assign r.body w (fun e w' => ∃ v, e = .returned v ∧ R v w'))
    (hc : ev l c = some (.func (.yield L) #[] #[])) (hargs : evs l xs = some args) (hs : args.length = r.params.size)
    (k : ∀ v w', R v w' → ∀ a', Fr n D ((d, v) :: l) a' → wpListIn Fence.wide 0 P ops Q rest a' w') (hd : d < n := by exact Nat.le_of_ble_eq_true rfl) : wpListIn Fence.wide 0 P ops Q (⟨some d, .call ⟨.value c, xs.toArray, ts⟩, ty, pos, af, none⟩ :: rest) a w := by
  refine wpListIn_plain rfl fun K hK => ?_
  refine ⟨fun _ _ => trivial, ?_⟩
  have hrun : (execOp a.eval ⟨some d, .call ⟨.value c, xs.toArray, ts⟩, ty, pos, af, none⟩).run P w = .ok (.round L r.fn ((r.params.zip args.toArray).foldl (fun tmps (t, a) => tmps.setIfInBounds t a) r.tmps) r.assign r.body) w := by
    have hc' := F.ev hc
    have hargs' := F.evs hargs
    have hy := run_yield (P := P) (args := args.toArray) hL (by simpa using hs)
    unfold execOp
    simp [resolve, Deferred.ofValue, invoke, hc', hargs', hy]
  rw [show Oper.semAt Fence.wide.round a.eval _ = execOp a.eval _ from rfl, hrun, Oper.uponIn_round]
  refine ⟨fun h => (by cases h), hround.mono fun e w'' hh => ?_⟩
  obtain ⟨v, rfl, hR⟩ := hh
  exact hK _ _ (k v w'' hR _ (F.put hd v))
/-- The statement. -/
theorem wrange {w0 : World} {ps : List PF} {fs : List SF} {n : Nat} {l : List (Nat × Value)} (F : Fr n [] l a) (H : Hp w0 ps fs w) {g : Operand} {pr : Array Tmp} {assign body : Code} {gf : FuncId} {caps : List Value} {fn' : Func} (S : Nat → Nat → Option Code → World → Prop) (hf : P.funcs[gf]? = some fn') (hg : ev l g = some (.func (.func gf) #[] caps.toArray))
    (hcall : ∀ (fn : FuncId) (L D : Nat) (w1 : World), Hp w0 ps (objf L (.loop { state := .ready, pending := none, fn, tmps := a.tmps, params := pr, assign, body, defers := D }) :: objf D (.deferred (some [])) :: fs) w1 →
      Calls P gf ((.func (.yield L) #[] #[]) :: caps).toArray w1 fun e w3 => ∃ v, e = .returned v ∧ ∃ rl : Loop, rl.state ≠ .busy ∧ w3.heap[L]? = some (.loop rl) ∧ S L D rl.pending (w3.putObj L (.loop { rl with state := .exhausted })))
    (k : ∀ L D w4 a', S L D none w4 → Fr n [⟨.collected D, #[]⟩] l a' → Q .normal a' w4)
    (kc : ∀ L D c w4 a', S L D (some c) w4 → Fr n [⟨.collected D, #[]⟩] l a' → c.wp P Q a' w4)
    (hname : (fn'.name == "runtime.NumGoroutine") = false := by rfl) (hb : fn'.body.isSome = true := by rfl) : (Code.rangeFunc g pr assign body).wp P Q a w := by
  refine wpIn_wide.1 (wpIn_rangeFunc (n := 0) fun fn _ => ?_)
  have h1 : fn'.name ≠ "runtime.NumGoroutine" := by simpa using hname
  obtain ⟨b, hb⟩ := Option.isSome_iff_exists.1 hb
  have hg' := F.ev hg
  have H1 := H.newobj (.deferred (some []))
  have H2 := H1.newobj (.loop { state := .ready, pending := none, fn, tmps := a.tmps, params := pr, assign, body, defers := w.heap.size })
  rw [World.size_alloc] at H2
  obtain ⟨W1, hW1⟩ : ∃ W1, (w.alloc (.deferred (some []))).alloc (.loop { state := .ready, pending := none, fn, tmps := a.tmps, params := pr, assign, body, defers := w.heap.size }) = W1 := ⟨_, rfl⟩
  rw [hW1] at H2
  refine ⟨w.heap.size + 1, [{ target := .collected w.heap.size, args := #[] }], W1, { target := .fn (.func gf) caps.toArray, args := #[.func (.yield (w.heap.size + 1)) #[] #[]] }, W1, gf, ((.func (.yield (w.heap.size + 1)) #[] #[]) :: caps).toArray, W1, by rw [← hW1]; exact run_enterLoop_outer _ _ _ _ _, ?_, fun _ _ => trivial, ?_, fun h => (by cases h), ?_⟩
  · simp only [resolve, hg']
    simp [go_sem]
  · simp [invoke, callFunc, hf, h1, hb]
  · refine callsIn_wide.2 ((hcall fn _ _ _ H2).mono fun e w3 h => ?_)
    obtain ⟨v, rfl, rl, hbz, hl, hS⟩ := h
    have F' : Fr n [⟨.collected w.heap.size, #[]⟩] l { a with defers := [{ target := .collected w.heap.size, args := #[] }] ++ a.defers } := ⟨F.sz, by rw [F.df]; rfl, F.at_⟩
    refine ⟨_, _, run_endLoop hl hbz, ?_⟩
    cases hp : rl.pending with
    | none => rw [hp] at hS; exact k _ _ _ _ hS F'
    | some c => rw [hp] at hS; exact wpIn_wide.2 (kc _ _ c _ _ hS F')
end
end Go.Proofs.Ytpmkpiffbdcflaa
