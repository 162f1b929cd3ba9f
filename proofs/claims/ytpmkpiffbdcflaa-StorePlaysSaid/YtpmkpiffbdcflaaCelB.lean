/- What each operation leaves, over what is known of memory: steps of a walk. -/
import Derived.Test.YtpmkpiffbdcflaaCelA
import Derived.Laws.BytesArg
import Derived.Laws.BytesString
import Derived.Deep.MidRow
import Derived.ChangeKeysEq
import Derived.Laws.Slices
set_option linter.unusedVariables false
set_option linter.unusedSimpArgs false
namespace Go.Proofs.Ytpmkpiffbdcflaa
open Go Go.RowKit

/-! ### Steps -/
section
variable {P : Program} {ops : Array Oper} {Q : Exit → Act → World → Prop} {K : Act → World → Prop} {a : Act} {w : World} {o : Oper} {rest : List Oper}
/-- One operation, as its guard says. -/
def Nx (P : Program) (ops : Array Oper) (Q : Exit → Act → World → Prop) (o : Oper) (K : Act → World → Prop) (a : Act) (w : World) : Prop :=
  if Region.wanted o (yielded ops a.tmps) = true then o.wp P a w K Q else K (a.put o.dst undef) w
theorem ls (h : Nx P ops Q o (wpList P ops Q rest) a w) : wpList P ops Q (o :: rest) a w := by
  refine wpList_step fun K hK => ?_
  unfold Nx at h
  split
  · rename_i hw
    rw [if_pos hw] at h
    exact Oper.wp_mono hK h
  · rename_i hw
    rw [if_neg hw] at h
    exact hK _ _ h
/-- Whether an operation is wanted, by what is known of the slots. -/
def on (ops : Array Oper) (l : List (Nat × Value)) (o : Oper) : Option Bool :=
  match o.guard with
  | none => some true
  | some (j, b) => match (ops[j]?).bind (·.dst) with
    | some t => match l.lookup t with
      | some (.bool c) => some (c == b)
      | some (.tuple _) => some false
      | _ => none
    | none => none
theorem Fr.on {n : Nat} {D : List Deferred} {l : List (Nat × Value)} (F : Fr n D l a) {b : Bool} (h : Go.Proofs.Ytpmkpiffbdcflaa.on ops l o = some b) : Region.wanted o (yielded ops a.tmps) = b := by
  unfold Go.Proofs.Ytpmkpiffbdcflaa.on at h
  unfold Region.wanted
  split at h
  · rename_i hg
    injection h with h
    rw [hg]
    exact h
  · rename_i j c hg
    rw [hg]
    split at h
    · rename_i t ht
      split at h
      · rename_i d hd
        injection h with h
        subst h
        have h1 := F.at_ t _ hd
        have h2 : a.tmps[t]? = some (.bool d) := by
          rw [Array.getD_eq_getD_getElem?] at h1
          cases hq : a.tmps[t]? with
          | none => rw [hq] at h1; exact absurd h1 (by simp [undef])
          | some u => rw [hq] at h1; simp at h1; rw [h1]
        simp only [yielded, ht, Option.bind_some, h2]
        rfl
      · rename_i vs hd
        injection h with h
        subst h
        have h1 := F.at_ t _ hd
        have h2 : yielded ops a.tmps j = none := by
          rw [Array.getD_eq_getD_getElem?] at h1
          cases hq : a.tmps[t]? with
          | none => simp only [yielded, ht, Option.bind_some, hq]
          | some u => rw [hq] at h1; simp at h1; simp only [yielded, ht, Option.bind_some, hq, h1]
        simp only [h2]
        rfl
      · cases h
    · cases h
/-- An operation that leaves a value, and a world. -/
theorem qv {n : Nat} {D : List Deferred} {l : List (Nat × Value)} (F : Fr n D l a) {d : Nat} {op : Op} {ty : TypeId} {pos : String} {af : Array Edge} {gd : Option (Nat × Bool)} {v : Value} {w' : World}
    (hr : (execOp a.eval ⟨some d, op, ty, pos, af, gd⟩).run P w = .ok (.value v) w') (k : ∀ a', Fr n D ((d, v) :: l) a' → K a' w') (hd : d < n := by exact Nat.le_of_ble_eq_true rfl) (hg : on ops l ⟨some d, op, ty, pos, af, gd⟩ = some true := by rfl) : Nx P ops Q ⟨some d, op, ty, pos, af, gd⟩ K a w := by
  unfold Nx
  rw [if_pos (F.on hg)]
  unfold Oper.wp
  rw [hr]
  exact k _ (F.put hd v)
/-- One that leaves no value that is kept. -/
theorem qn {n : Nat} {D : List Deferred} {l : List (Nat × Value)} (F : Fr n D l a) {op : Op} {ty : TypeId} {pos : String} {af : Array Edge} {gd : Option (Nat × Bool)} {x : Next} {w' : World} (hx : x = .skip ∨ ∃ v, x = .value v)
    (hr : (execOp a.eval ⟨none, op, ty, pos, af, gd⟩).run P w = .ok x w') (k : ∀ a', Fr n D l a' → K a' w') (hg : on ops l ⟨none, op, ty, pos, af, gd⟩ = some true := by rfl) : Nx P ops Q ⟨none, op, ty, pos, af, gd⟩ K a w := by
  unfold Nx
  rw [if_pos (F.on hg)]
  unfold Oper.wp
  rw [hr]
  rcases hx with rfl | ⟨v, rfl⟩
  · exact k _ F
  · exact k _ F
/-- One whose guard is off. -/
theorem off {n : Nat} {D : List Deferred} {l : List (Nat × Value)} (F : Fr n D l a) {d : Nat} {op : Op} {ty : TypeId} {pos : String} {af : Array Edge} {gd : Option (Nat × Bool)} (k : ∀ a', Fr n D ((d, undef) :: l) a' → K a' w) (hd : d < n := by exact Nat.le_of_ble_eq_true rfl) (hg : on ops l ⟨some d, op, ty, pos, af, gd⟩ = some false := by rfl) : Nx P ops Q ⟨some d, op, ty, pos, af, gd⟩ K a w := by
  unfold Nx
  rw [if_neg (by rw [F.on hg]; simp)]
  exact k _ (F.put hd undef)
def evs (l : List (Nat × Value)) : List Operand → Option (List Value)
  | [] => some []
  | x :: xs => match ev l x, evs l xs with
    | some v, some vs => some (v :: vs)
    | _, _ => none
theorem Fr.evs {n : Nat} {D : List Deferred} {l : List (Nat × Value)} (F : Fr n D l a) : ∀ {xs : List Operand} {vs : List Value}, Go.Proofs.Ytpmkpiffbdcflaa.evs l xs = some vs → xs.map a.eval = vs
  | [], vs, h => by simp [Go.Proofs.Ytpmkpiffbdcflaa.evs] at h; subst h; rfl
  | x :: xs, vs, h => by
    unfold Go.Proofs.Ytpmkpiffbdcflaa.evs at h
    split at h
    · rename_i v us h1 h2
      injection h with h
      subst h
      rw [List.map_cons, F.ev h1, Fr.evs F h2]
    · cases h
/-- A call of a Go function. -/
theorem qc {n : Nat} {D : List Deferred} {l : List (Nat × Value)} (F : Fr n D l a) {d : Option Nat} {c : Operand} {xs : List Operand} {ts : Array TypeId} {ty : TypeId} {pos : String} {af : Array Edge} {gd : Option (Nat × Bool)} {f : FuncId} {cap args : List Value} {R : Ending → World → Prop}
    (hcal : Calls P f args.toArray w R) {fn : Func} (hf : P.funcs[f]? = some fn) (hc : ev l c = some (.func (.func f) #[] cap.toArray)) (hargs : (evs l xs).map (· ++ cap) = some args) (k : ∀ e w', R e w' → ∃ v, e = .returned v ∧ ∀ a', (∀ t, d = some t → t < n → Fr n D ((t, v) :: l) a') → (d = none → Fr n D l a') → K a' w')
    (hname : (fn.name == "runtime.NumGoroutine") = false := by rfl) (hb : fn.body.isSome = true := by rfl) (hg : on ops l ⟨d, .call ⟨.value c, xs.toArray, ts⟩, ty, pos, af, gd⟩ = some true := by rfl) : Nx P ops Q ⟨d, .call ⟨.value c, xs.toArray, ts⟩, ty, pos, af, gd⟩ K a w := by
  unfold Nx
  rw [if_pos (F.on hg)]
  unfold Oper.wp
  have h1 : fn.name ≠ "runtime.NumGoroutine" := by simpa using hname
  obtain ⟨b, hb⟩ := Option.isSome_iff_exists.1 hb
  have hrun : (execOp a.eval ⟨d, .call ⟨.value c, xs.toArray, ts⟩, ty, pos, af, gd⟩).run P w = .ok (.enter f args.toArray) w := by
    have hc' := F.ev hc
    have hargs' : xs.map a.eval ++ cap = args := by
      cases hq : evs l xs with
      | none => rw [hq] at hargs; cases hargs
      | some vs => rw [hq] at hargs; injection hargs with hargs; rw [F.evs hq]; exact hargs
    unfold execOp
    simp [resolve, Deferred.ofValue, invoke, hc', ← hargs', callFunc, hf, h1, hb]
  rw [hrun, Oper.upon_enter]
  refine hcal.mono fun e w'' hh => ?_
  obtain ⟨v, rfl, hk⟩ := k e w'' hh
  cases d with
  | none => exact hk _ (fun t ht => by cases ht) (fun _ => F)
  | some t => exact hk _ (fun u hu hlt => by injection hu with hu; subst hu; exact F.put hlt v) (fun h => by cases h)
/-- The usual call: its answer is kept. -/
theorem call {n : Nat} {D : List Deferred} {l : List (Nat × Value)} (F : Fr n D l a) {d : Nat} {c : Operand} {xs : List Operand} {ts : Array TypeId} {ty : TypeId} {pos : String} {af : Array Edge} {gd : Option (Nat × Bool)} {f : FuncId} {cap args : List Value} {R : Value → World → Prop} {fn : Func} (hf : P.funcs[f]? = some fn)
    (hcal : Calls P f args.toArray w fun e w' => ∃ v, e = .returned v ∧ R v w') (hc : ev l c = some (.func (.func f) #[] cap.toArray)) (hargs : (evs l xs).map (· ++ cap) = some args) (k : ∀ v w', R v w' → ∀ a', Fr n D ((d, v) :: l) a' → K a' w') (hd : d < n := by exact Nat.le_of_ble_eq_true rfl)
    (hname : (fn.name == "runtime.NumGoroutine") = false := by rfl) (hb : fn.body.isSome = true := by rfl) (hg : on ops l ⟨some d, .call ⟨.value c, xs.toArray, ts⟩, ty, pos, af, gd⟩ = some true := by rfl) : Nx P ops Q ⟨some d, .call ⟨.value c, xs.toArray, ts⟩, ty, pos, af, gd⟩ K a w :=
  qc F hcal hf hc hargs (fun e w' ⟨v, he, hR⟩ => ⟨v, he, fun a' h _ => k v w' hR a' (h d rfl hd)⟩) hname hb hg
end

/-! ### Regions that draw their order: what is known of the world may grow from operation to operation -/
section
variable {P : Program} {ops : Array Oper} {Q : Exit → Act → World → Prop} {S S' : World → Prop} {a : Act} {w : World} {o : Oper} {fuel : Nat}
/-- Number k is waited for by number i, directly or through one more. -/
def waitsF : Nat → Array Oper → Nat → Nat → Bool
  | 0, _, _, _ => false
  | n + 1, ops, i, k => match ops[i]? with
    | some o => (o.after.any fun e => Region.binds .any e && e.on == k) || o.after.any fun e => Region.binds .any e && waitsF n ops e.on k
    | none => false
def waits (ops : Array Oper) (i k : Nat) : Bool := waitsF 3 ops i k
/-- Each other one waits for number i, or is waited for. -/
def alone (ops : Array Oper) (i : Nat) : Bool := (List.range ops.size).all fun k => k == i || waits ops i k || waits ops k i
/-- What has come up had its elders come up. -/
def Shut (ops : Array Oper) (l : Array Bool) : Prop := ∀ k o, ops[k]? = some o → l.getD k false = true → ∀ e ∈ o.after, Region.binds .any e = true → l.getD e.on false = true
def shutB (ops : Array Oper) (l : Array Bool) : Bool := (List.range ops.size).all fun k => !l.getD k false || match ops[k]? with
  | some o => o.after.all fun e => !Region.binds .any e || l.getD e.on false
  | none => true
theorem shut_of {l : Array Bool} (h : shutB ops l = true) : Shut ops l := by
  intro k o hk hl e he hb
  have h1 := List.all_eq_true.1 h k (List.mem_range.2 (Array.getElem?_eq_some_iff.1 hk).1)
  simp only [hl, Bool.not_true, Bool.false_or, hk] at h1
  have h2 := Array.all_eq_true_iff_forall_mem.1 h1 e he
  simpa [hb] using h2
theorem shut_set {l : Array Bool} {i : Nat} (h : Shut ops l) (hr : i ∈ Region.ready .any ops l) : Shut ops (l.setIfInBounds i true) := by
  obtain ⟨_, oi, hoi, hall⟩ := mem_ready.1 hr
  intro k o hk hl e he hb
  by_cases hki : k = i
  · subst hki
    rw [hoi] at hk
    injection hk with hk
    subst hk
    exact getD_set_true (hall e he hb)
  · rw [getD_set_ne false (Ne.symm hki)] at hl
    exact getD_set_true (h k o hk hl e he hb)
theorem waitsF_in {l : Array Bool} {k : Nat} (h : Shut ops l) : ∀ (n i : Nat) (o : Oper), ops[i]? = some o → (∀ e ∈ o.after, Region.binds .any e = true → l.getD e.on false = true) → waitsF n ops i k = true → l.getD k false = true
  | 0, _, _, _, _, hw => by simp [waitsF] at hw
  | n + 1, i, o, ho, hall, hw => by
    unfold waitsF at hw
    rw [ho] at hw
    simp only [Bool.or_eq_true] at hw
    rcases hw with hw | hw
    · obtain ⟨e, he, hw⟩ := Array.any_eq_true'.1 hw
      simp only [Bool.and_eq_true, beq_iff_eq] at hw
      rw [← hw.2]
      exact hall e he hw.1
    · obtain ⟨e, he, hw⟩ := Array.any_eq_true'.1 hw
      simp only [Bool.and_eq_true] at hw
      have hl := hall e he hw.1
      cases ho' : ops[e.on]? with
      | none =>
        have h2 := hw.2
        cases n with
        | zero => simp [waitsF] at h2
        | succ n => simp [waitsF, ho'] at h2
      | some o' => exact waitsF_in h n e.on o' ho' (fun e' he' hb' => h _ _ ho' hl e' he' hb') hw.2
theorem waits_in {l : Array Bool} {i k : Nat} {o : Oper} (h : Shut ops l) (ho : ops[i]? = some o) (hall : ∀ e ∈ o.after, Region.binds .any e = true → l.getD e.on false = true) (hw : waits ops i k = true) : l.getD k false = true := waitsF_in h 3 i o ho hall hw
theorem alone_not {l : Array Bool} {i k : Nat} (h : Shut ops l) (ha : alone ops i = true) (hi : i ∈ Region.ready .any ops l) (hk : k ∈ Region.ready .any ops l) (hne : k ≠ i) : False := by
  obtain ⟨hiu, oi, hoi, hia⟩ := mem_ready.1 hi
  obtain ⟨hku, ok, hok, hka⟩ := mem_ready.1 hk
  have h1 := List.all_eq_true.1 ha k (List.mem_range.2 (Array.getElem?_eq_some_iff.1 hok).1)
  simp only [Bool.or_eq_true, beq_iff_eq] at h1
  have hb : ∀ m, l.getD m true = false → l.getD m false = true → False := fun m h1 h2 => by
    rcases Nat.lt_or_ge m l.size with h' | h'
    · simp [h'] at h1 h2; rw [h1] at h2; cases h2
    · simp [Array.getElem?_eq_none h'] at h1
  rcases h1 with (h1 | h1) | h1
  · exact hne h1
  · exact hb k hku (waits_in h hoi hia h1)
  · exact hb i hiu (waits_in h hok hka h1)
def wpG (P : Program) (ops : Array Oper) (Q : Exit → Act → World → Prop) : Nat → (World → Prop) → Array Bool → Act → World → Prop
  | 0, _, l, a, w => Region.ready .any ops l = [] ∧ Q .normal a w
  | fuel + 1, S, l, a, w => (Region.ready .any ops l = [] → Q .normal a w) ∧
    ∀ i ∈ Region.ready .any ops l, wpOp P ops Q i (fun a' w' => ∃ S' : World → Prop, S' w' ∧ (alone ops i = true ∨ ∀ w, S' w → S w) ∧ wpG P ops Q fuel S' (l.setIfInBounds i true) a' w') a w
theorem wpG_any : ∀ (fuel : Nat) (S : World → Prop) (l : Array Bool) (a : Act) (w : World), wpG P ops Q fuel S l a w → wpAny P .any ops Q fuel l a w
  | 0, _, _, _, _, h => h
  | fuel + 1, _, _, _, _, h => ⟨h.1, fun i hi => wpOp_mono (fun a' w' ⟨S', _, _, h'⟩ => wpG_any fuel S' _ a' w' h') (h.2 i hi)⟩
theorem wpG_more : ∀ {fuel : Nat} {l : Array Bool} {a : Act} {w : World}, (∀ w, S' w → S w) → wpG P ops Q fuel S' l a w → wpG P ops Q fuel S l a w
  | 0, _, _, _, _, h => h
  | fuel + 1, _, _, _, hs, h => ⟨h.1, fun i hi => wpOp_mono (fun a' w' ⟨S2, h1, h2, h3⟩ => ⟨S2, h1, h2.imp id fun h2 w hw => hs w (h2 w hw), h3⟩) (h.2 i hi)⟩
theorem yields_less {v : Value} (h : ∀ w, S' w → S w) (hy : YieldsIf P ops S o v a) : YieldsIf P ops S' o v a := hy.imp (fun ⟨h1, h2⟩ => ⟨h1, fun w hw => h2 w (h w hw)⟩) id
theorem wpG_first {i : Nat} {oi : Oper} {v : Value} (hi : ops[i]? = some oi) (hsel : ∀ (j : Nat) (o : Oper) cs b, ops[j]? = some o → o.op ≠ .select cs b) (hQ : ∀ c a w, ¬ Q (.panic c) a w) :
    ∀ (fuel : Nat) (S : World → Prop) (l : Array Bool) (a : Act) (w : World), Shut ops l →
      (∀ j oj, ops[j]? = some oj → j ≠ i → l.getD j true = false → (∀ e ∈ oj.after, Region.binds .any e = true → e.on ≠ i) → oi.apart ops oj = true) →
      i ∈ Region.ready .any ops l → YieldsIf P ops S oi v a → S w → wpG P ops Q fuel S (l.setIfInBounds i true) (a.put oi.dst v) w → wpG P ops Q (fuel + 1) S l a w := by
  intro fuel
  induction fuel with
  | zero =>
    intro S l a w _ _ hr hy hS H
    refine ⟨fun h => (by rw [h] at hr; cases hr), fun j hj => ?_⟩
    by_cases hji : j = i
    · subst hji; exact hy.wpOp hi hS ⟨S, hS, .inr fun _ h => h, H⟩
    · have := ready_mono hj hji
      rw [H.1] at this
      cases this
  | succ fuel ih =>
    intro S l a w hsh hfree hr hy hS H
    refine ⟨fun h => (by rw [h] at hr; cases hr), fun j hj => ?_⟩
    by_cases hji : j = i
    · subst hji; exact hy.wpOp hi hS ⟨S, hS, .inr fun _ h => h, H⟩
    · have h1 := H.2 j (ready_mono hj hji)
      obtain ⟨hjun, oj, hoj, hall⟩ := mem_ready.1 hj
      have hnot : ∀ e ∈ oj.after, Region.binds .any e = true → e.on ≠ i := fun e he hb heq => by
        have h1 := hall e he hb
        have h0 := (mem_ready.1 hr).1
        rw [heq] at h1
        rcases Nat.lt_or_ge i l.size with h' | h'
        · simp [h'] at h0 h1; rw [h0] at h1; cases h1
        · simp [Array.getElem?_eq_none h'] at h1
      have h2 := wpOp_putIf hoj (hfree j oj hoj hji hjun hnot) (fun cs b => hsel i oi cs b hi) (fun cs b => hsel j oj cs b hoj) (fun c a w h => absurd h (hQ c _ w)) hy h1
      have hfree' : ∀ k ok, ops[k]? = some ok → k ≠ i → (l.setIfInBounds j true).getD k true = false →
          (∀ e ∈ ok.after, Region.binds .any e = true → e.on ≠ i) → oi.apart ops ok = true := fun k ok hk hki hun hno => by
        refine hfree k ok hk hki ?_ hno
        by_cases hjk : j = k
        · subst hjk; exact hjun
        · rw [getD_set_ne true hjk] at hun; exact hun
      refine wpOp_mono (fun a' w' ⟨hya, S', hS', hSS, hW⟩ => ?_) h2
      have hSS' : ∀ w, S' w → S w := hSS.resolve_left fun ha => alone_not hsh ha hj hr (Ne.symm hji)
      refine ⟨S', hS', .inr hSS', ih S' (l.setIfInBounds j true) a' w' (shut_set hsh hj) hfree' (ready_mono hr (Ne.symm hji)) (yields_less hSS' hya) hS' ?_⟩
      rw [Array.setIfInBounds_comm _ _ hji]
      exact hW
/-- Into such a region. -/
theorem dr {id n : Nat} (S : World → Prop) (l : Array Bool) (hm : P.follows .mixedOrders = true) (h : wpG P ops Q n S l a w.drew) (hn : ops.size = n := by rfl) (hl : Array.replicate n false = l := by rfl) : (Code.region id ops true).wp P Q a w := by
  subst hn
  subst hl
  exact wp_region_any hm (wpG_any _ _ _ _ _ h)
theorem dmoreH {w0 : World} {ps' : List PF} {fs' : List SF} (H : Hp w0 ps' fs' w) {l : Array Bool} (hs : ∀ w, Hp w0 ps' fs' w → S w) (h : wpG P ops Q fuel (fun w => Hp w0 ps' fs' w) l a w) : wpG P ops Q fuel S l a w := wpG_more hs h
def dqB (ops : Array Oper) (l : Array Bool) (i : Nat) : Bool := Region.noSelect ops && Region.free .any ops l i && (Region.ready .any ops l).contains i && shutB ops l
/-- One that leaves its value whenever S holds comes first. -/
theorem dq (i : Nat) {l : Array Bool} {n : Nat} {D : List Deferred} {m : List (Nat × Value)} (F : Fr n D m a) {d : Nat} {op : Op} {ty : TypeId} {pos : String} {af : Array Edge} {gd : Option (Nat × Bool)} {v : Value}
    (hi : ops[i]? = some ⟨some d, op, ty, pos, af, gd⟩) (hc : dqB ops l i = true) (hQ : ∀ c a w, ¬ Q (.panic c) a w) (hS : S w) (hr : ∀ w, S w → (execOp a.eval ⟨some d, op, ty, pos, af, gd⟩).run P w = .ok (.value v) w)
    (k : ∀ a', Fr n D ((d, v) :: m) a' → wpG P ops Q fuel S (l.setIfInBounds i true) a' w) (hd : d < n := by exact Nat.le_of_ble_eq_true rfl) (hg : on ops m ⟨some d, op, ty, pos, af, gd⟩ = some true := by rfl) : wpG P ops Q (fuel + 1) S l a w := by
  simp only [dqB, Bool.and_eq_true] at hc
  obtain ⟨⟨⟨h1, h2⟩, h3⟩, h4⟩ := hc
  exact wpG_first hi (Region.noSelect_spec h1) hQ fuel S l a w (shut_of h4) (Region.free_spec hi h2) (by simpa using h3) (.inl ⟨F.on hg, hr⟩) hS (k _ (F.put hd v))
theorem doff (i : Nat) {l : Array Bool} {n : Nat} {D : List Deferred} {m : List (Nat × Value)} (F : Fr n D m a) {d : Nat} {op : Op} {ty : TypeId} {pos : String} {af : Array Edge} {gd : Option (Nat × Bool)}
    (hi : ops[i]? = some ⟨some d, op, ty, pos, af, gd⟩) (hc : dqB ops l i = true) (hQ : ∀ c a w, ¬ Q (.panic c) a w) (hS : S w)
    (k : ∀ a', Fr n D ((d, undef) :: m) a' → wpG P ops Q fuel S (l.setIfInBounds i true) a' w) (hd : d < n := by exact Nat.le_of_ble_eq_true rfl) (hg : on ops m ⟨some d, op, ty, pos, af, gd⟩ = some false := by rfl) : wpG P ops Q (fuel + 1) S l a w := by
  simp only [dqB, Bool.and_eq_true] at hc
  obtain ⟨⟨⟨h1, h2⟩, h3⟩, h4⟩ := hc
  exact wpG_first hi (Region.noSelect_spec h1) hQ fuel S l a w (shut_of h4) (Region.free_spec hi h2) (by simpa using h3) (.inr ⟨F.on hg, rfl⟩) hS (k _ (F.put hd undef))
/-- Behind an operation that is carried out. -/
def Kg (P : Program) (ops : Array Oper) (Q : Exit → Act → World → Prop) (fuel : Nat) (S : World → Prop) (l : Array Bool) (i : Nat) (a : Act) (w : World) : Prop := ∃ S' : World → Prop, S' w ∧ (alone ops i = true ∨ ∀ w, S' w → S w) ∧ wpG P ops Q fuel S' l a w
theorem kg {l : Array Bool} {i : Nat} (S' : World → Prop) (hS : S' w) (hs : ∀ w, S' w → S w) (h : wpG P ops Q fuel S' l a w) : Kg P ops Q fuel S l i a w := ⟨S', hS, .inr hs, h⟩
/-- Behind one that all others wait for, or are waited for by. -/
theorem kga {l : Array Bool} {i : Nat} (ha : alone ops i = true) {w0 : World} {ps : List PF} {fs : List SF} (H : Hp w0 ps fs w) (h : wpG P ops Q fuel (fun w => Hp w0 ps fs w) l a w) : Kg P ops Q fuel S l i a w := ⟨_, H, .inl ha, h⟩
theorem dop {i : Nat} {l : Array Bool} (hi : ops[i]? = some o) (h : Nx P ops Q o (Kg P ops Q fuel S (l.setIfInBounds i true) i) a w) : wpOp P ops Q i (fun a' w' => ∃ S' : World → Prop, S' w' ∧ (alone ops i = true ∨ ∀ w, S' w → S w) ∧ wpG P ops Q fuel S' (l.setIfInBounds i true) a' w') a w := by
  unfold wpOp
  rw [hi]
  unfold Nx at h
  show if Region.wanted o (yielded ops a.tmps) = true then _ else _
  split
  · rename_i hw
    rw [if_pos hw] at h
    exact .inl h
  · rename_i hw
    rw [if_neg hw] at h
    exact h
theorem dn (rs : List Nat) {l : Array Bool} (hr : (Region.ready .any ops l == rs) = true) (hne : rs ≠ []) (h : ∀ i ∈ rs, ∃ o, ops[i]? = some o ∧ Nx P ops Q o (Kg P ops Q fuel S (l.setIfInBounds i true) i) a w) : wpG P ops Q (fuel + 1) S l a w := by
  have hr' : Region.ready .any ops l = rs := by simpa using hr
  refine ⟨(fun h0 => absurd (hr'.symm.trans h0) hne), fun i hi => ?_⟩
  obtain ⟨o, ho, hx⟩ := h i (by rw [← hr']; exact hi)
  exact dop ho hx
theorem d1 (i : Nat) {l : Array Bool} (hi : ops[i]? = some o) (hc : (Region.ready .any ops l == [i]) = true) (h : Nx P ops Q o (Kg P ops Q fuel S (l.setIfInBounds i true) i) a w) : wpG P ops Q (fuel + 1) S l a w :=
  dn [i] hc (by simp) fun j hj => by rw [List.mem_singleton.1 hj]; exact ⟨o, hi, h⟩
theorem d2 (i j : Nat) {l : Array Bool} {oj : Oper} (hi : ops[i]? = some o) (hj : ops[j]? = some oj) (hc : (Region.ready .any ops l == [i, j]) = true)
    (h : Nx P ops Q o (Kg P ops Q fuel S (l.setIfInBounds i true) i) a w) (h2 : Nx P ops Q oj (Kg P ops Q fuel S (l.setIfInBounds j true) j) a w) : wpG P ops Q (fuel + 1) S l a w :=
  dn [i, j] hc (by simp) fun k hk => by
    rcases List.mem_cons.1 hk with rfl | hk
    · exact ⟨o, hi, h⟩
    · rw [List.mem_singleton.1 hk]; exact ⟨oj, hj, h2⟩
theorem ddone {l : Array Bool} (hr : (Region.ready .any ops l == []) = true) (h : Q .normal a w) : wpG P ops Q fuel S l a w := by
  have h0 : Region.ready .any ops l = [] := by simpa using hr
  cases fuel with
  | zero => exact ⟨h0, h⟩
  | succ n => exact ⟨fun _ => h, by rw [h0]; intro i hi; cases hi⟩
end

/-! ### Code -/
def slots : Nat → List Value → List (Nat × Value)
  | _, [] => []
  | i, v :: vs => (i, v) :: slots (i + 1) vs
theorem slots_at : ∀ (vs : List Value) (i t : Nat) (v : Value), (slots i vs).lookup t = some v → i ≤ t ∧ vs[t - i]? = some v
  | [], _, _, _, h => by simp [slots] at h
  | u :: vs, i, t, v, h => by
    rw [slots, List.lookup_cons] at h
    split at h
    · rename_i he
      have : t = i := by simpa using he
      subst this
      injection h with h
      subst h
      exact ⟨Nat.le_refl _, by simp⟩
    · rename_i he
      have hne : t ≠ i := by simpa using he
      obtain ⟨h1, h2⟩ := slots_at vs (i + 1) t v h
      refine ⟨by omega, ?_⟩
      rw [show t - i = (t - (i + 1)) + 1 from by omega, List.getElem?_cons_succ]
      exact h2
/-- Into a function. -/
theorem enter {P : Program} {f : FuncId} {fn : Func} {c : Code} {w : World} {R : Ending → World → Prop} (args : List Value) (n : Nat) (hf : P.funcs[f]? = some fn) (k : ∀ (Q : Exit → Act → World → Prop) a, (∀ c a w, Q (.panic c) a w → False ∨ ∃ w, R (.panicked c) w) → (∀ a w, bodyPost P fn R .ret a w → Q .ret a w) → (∀ a w, bodyPost P fn R .ret a w → Q .normal a w) → Fr n [] (slots 0 args) a → c.wp P Q a w) (hb : fn.body = some c := by rfl) (hn : fn.ntmps = n := by rfl) (hle : args.length ≤ n := by exact Nat.le_of_ble_eq_true rfl) : Calls P f args.toArray w R := by
  refine calls_of_wp hf hb (k _ _ (fun c a w h => .inr ⟨w, h.2⟩) (fun _ _ h => h) (fun _ _ h => h) ⟨?_, rfl, fun t v h => ?_⟩)
  · simp [hn]; omega
  · obtain ⟨_, h2⟩ := slots_at args 0 t v h
    have hlt : t < args.length := (List.getElem?_eq_some_iff.1 h2).1
    simp only [Nat.sub_zero] at h2
    simp [Array.getD_eq_getD_getElem?, Array.getElem?_append, hlt, List.getElem?_eq_getElem hlt] at h2 ⊢
    exact h2
section
variable {P : Program} {Q : Exit → Act → World → Prop} {a : Act} {w : World}
/-- A region in its order, and what follows. -/
theorem rg {id : Nat} {l : List Oper} {y : Code} (h : wpList P l.toArray (Exit.then (y.wp P Q) Q) l a w) : (Code.seq (Code.region id l.toArray false) y).wp P Q a w := wp_seq (wp_region_lit h)
theorem rgend {ops : Array Oper} {y : Code} (h : y.wp P Q a w) : wpList P ops (Exit.then (y.wp P Q) Q) [] a w := wpList_nil h
theorem cut {c : Code} (M : Act → World → Prop) (h1 : c.wp P (Exit.then M Q) a w) (h2 : ∀ a w, M a w → Q .normal a w) : c.wp P Q a w :=
  Code.wp_mono (fun e a w h => by cases e <;> first | exact h2 _ _ h | exact h) h1
theorem ret0 {fn : Func} {R : Ending → World → Prop} {n : Nat} {l : List (Nat × Value)} (F : Fr n [] l a) (hr : fn.results = #[]) (h : R (.returned (.tuple #[])) w) : bodyPost P fn R .ret a w := ⟨F.df, _, by simp [results, hr], h⟩
theorem ret1 {fn : Func} {R : Ending → World → Prop} {n : Nat} {l : List (Nat × Value)} {t : Nat} {v : Value} (F : Fr n [] l a) (hr : fn.results = #[.tmp t]) (hv : ev l (.tmp t) = some v) (h : R (.returned v) w) : bodyPost P fn R .ret a w := ⟨F.df, v, by have := F.ev hv; simp only [Act.eval, Array.getD_eq_getD_getElem?] at this; simp [results, hr, this], h⟩
theorem ret2 {fn : Func} {R : Ending → World → Prop} {n : Nat} {l : List (Nat × Value)} {t u : Nat} {v x : Value} (F : Fr n [] l a) (hr : fn.results = #[.tmp t, .tmp u]) (hv : ev l (.tmp t) = some v) (hx : ev l (.tmp u) = some x) (h : R (.returned (.tuple #[v, x])) w) : bodyPost P fn R .ret a w := ⟨F.df, .tuple #[v, x], by have h1 := F.ev hv; have h2 := F.ev hx; simp only [Act.eval, Array.getD_eq_getD_getElem?] at h1 h2; simp [results, hr, h1, h2], h⟩
theorem exT {id : Nat} {K : Act → World → Prop} (h : Q (.exit id) a w) : Exit.then K Q (.exit id) a w := h
theorem exB {id : Nat} (h : Q .normal a w) : Exit.inBlock id Q (.exit id) a w := by simp only [Exit.inBlock, if_true]; exact h
/-- The loops of the plain functions: so many rounds at most. -/
def lpn {σ ρ : Type} (f : σ → Option (σ ⊕ ρ)) : Nat → σ → Option ρ
  | 0, _ => none
  | n + 1, s => match f s with
    | none => none
    | some (.inl s') => lpn f n s'
    | some (.inr r) => some r
def lp {σ ρ : Type} (f : σ → Option (σ ⊕ ρ)) (s : σ) : Option ρ := lpn f 18446744073709551616 s
theorem lpn_more {σ ρ : Type} {f : σ → Option (σ ⊕ ρ)} : ∀ {n m : Nat} {s : σ} {r : ρ}, lpn f n s = some r → n ≤ m → lpn f m s = some r
  | 0, _, _, _, h, _ => by simp [lpn] at h
  | n + 1, 0, _, _, _, hm => by omega
  | n + 1, m + 1, s, r, h, hm => by
    simp only [lpn] at h ⊢
    cases hf : f s with
    | none => simp [hf] at h
    | some x =>
      cases x with
      | inl s' => simp only [hf] at h ⊢; exact lpn_more h (by omega)
      | inr r' => simp only [hf] at h ⊢; exact h
theorem lp_of {σ ρ : Type} {f : σ → Option (σ ⊕ ρ)} {n : Nat} {s : σ} {r : ρ} (h : lpn f n s = some r) (hn : n ≤ 18446744073709551616) : lp f s = some r := lpn_more h hn
/-- A loop: its plain function ends; what is known at its head; each round goes on, or is the last one. -/
theorem wloop {σ ρ : Type} {c : Code} (f : σ → Option (σ ⊕ ρ)) (I : σ → Act → World → Prop) {s : σ} {out : ρ} (h : lp f s = some out) (h0 : I s a w)
    (round : ∀ s a w o, f s = some o → (∀ r, o = .inr r → r = out) → I s a w → c.wp P (Exit.then (fun a' w' => ∃ s', o = .inl s' ∧ I s' a' w') Q) a w) : (Code.loop c).wp P Q a w := by
  intro b k cs
  have key : ∀ n s a w, lpn f n s = some out → I s a w → ∃ e a' w', Q e a' w' ∧ Arrives P (lone (b.at a (.code c :: .inLoop c :: k)) cs w) b k cs e a' w' := by
    intro n
    induction n with
    | zero => intro s a w h; simp [lpn] at h
    | succ n ih =>
      intro s a w h hI
      simp only [lpn] at h
      cases hf : f s with
      | none => simp [hf] at h
      | some o =>
        obtain ⟨e, a1, w1, hq, harr⟩ := round s a w o hf (fun r hr => by subst hr; simp only [hf] at h; injection h) hI b (.inLoop c :: k) cs
        cases e with
        | normal =>
          obtain ⟨s', ho, hI'⟩ := hq
          subst ho
          simp only [hf] at h
          obtain ⟨e2, a2, w2, hq2, harr2⟩ := ih s' a1 w1 h hI'
          exact ⟨e2, a2, w2, hq2, .of_steps (Steps.trans harr (.one step_inLoop)) harr2⟩
        | exit id => exact ⟨_, a1, w1, hq, .pass (x := .inLoop c) rfl (fun _ _ => .inl (by simp)) harr⟩
        | goto l => exact ⟨_, a1, w1, hq, .pass (x := .inLoop c) rfl (fun _ _ => .inl (by simp)) harr⟩
        | ret => exact ⟨_, a1, w1, hq, .pass (x := .inLoop c) rfl (fun _ _ => .inl (by simp)) harr⟩
        | panic ch => exact ⟨_, a1, w1, hq, .pass (x := .inLoop c) rfl (fun _ _ => .inl (by simp)) harr⟩
        | outgrown => exact ⟨_, a1, w1, hq, .pass (x := .inLoop c) rfl (fun _ _ => .inl (by simp)) harr⟩
  obtain ⟨e, a', w', hq, harr⟩ := key _ s a w h h0
  exact ⟨e, a', w', hq, .of_steps (.one step_loop) harr⟩
end
end Go.Proofs.Ytpmkpiffbdcflaa
