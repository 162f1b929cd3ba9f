/- Short names for what the printed texts say often. -/
import Derived.Test.YtpmkpiffbdcflaaGoto
set_option linter.unusedVariables false
namespace Go.Proofs.Ytpmkpiffbdcflaa
open Go Go.RowKit
abbrev pt (g : Nat) : Value := .pointer (some ⟨g, 0, none⟩)
section
variable {P : Program} {ops : Array Oper} {Q : Exit → Act → World → Prop} {a : Act} {n : Nat} {D : List Deferred} {l : List (Nat × Value)} {w w0 : World} {ps : List PF} {fs : List SF} {ty : TypeId} {pos : String} {af : Array Edge} {gd : Option (Nat × Bool)} {fuel : Nat} {S : World → Prop}
theorem Fr.k (F : Fr n D l a) (v : Value) : a.eval (.const v) = v := F.ev (x := .const v) rfl
theorem np {X : Value → World → Prop} (NP : ∀ c a w, Q (.panic c) a w → False ∨ ∃ w, ∃ v, Ending.panicked c = .returned v ∧ X v w) : ∀ c a w, ¬ Q (.panic c) a w := fun c a w h => by
  rcases NP c a w h with h | ⟨w, v, h, _⟩ <;> cases h
theorem dk (i : Nat) {l : Array Bool} {m : List (Nat × Value)} (F : Fr n D m a) {d : Nat} {op : Op} {v : Value}
    (hi : ops[i]? = some ⟨some d, op, ty, pos, af, gd⟩) (hQ : ∀ c a w, ¬ Q (.panic c) a w) (hS : S w) (hr : ∀ w, S w → (execOp a.eval ⟨some d, op, ty, pos, af, gd⟩).run P w = .ok (.value v) w)
    (k : ∀ a', Fr n D ((d, v) :: m) a' → wpG P ops Q fuel S (l.setIfInBounds i true) a' w) (hc : dqB ops l i = true := by kernel_rfl) (hd : d < n := by exact Nat.le_of_ble_eq_true rfl) (hg : on ops m ⟨some d, op, ty, pos, af, gd⟩ = some true := by rfl) : wpG P ops Q (fuel + 1) S l a w := dq i F hi hc hQ hS hr k hd hg
theorem df (i : Nat) {l : Array Bool} {m : List (Nat × Value)} (F : Fr n D m a) {d : Nat} {op : Op}
    (hi : ops[i]? = some ⟨some d, op, ty, pos, af, gd⟩) (hQ : ∀ c a w, ¬ Q (.panic c) a w) (hS : S w)
    (k : ∀ a', Fr n D ((d, undef) :: m) a' → wpG P ops Q fuel S (l.setIfInBounds i true) a' w) (hc : dqB ops l i = true := by kernel_rfl) (hd : d < n := by exact Nat.le_of_ble_eq_true rfl) (hg : on ops m ⟨some d, op, ty, pos, af, gd⟩ = some false := by rfl) : wpG P ops Q (fuel + 1) S l a w := doff i F hi hc hQ hS k hd hg
theorem sto (F : Fr n D l a) (vs cs' : List Value) {t t' : TypeId} {x y : Operand} {g o m : Nat} {cs : List Value} {v : Value} {rest : List Oper} (H : Hp w0 ps (cel g cs t' :: fs) w) (hx : ev l x = some (.pointer (some ⟨g, o, none⟩))) (hy : ev l y = some v) (hs : szB P t m = true)
    (k : ∀ w' a', Hp w0 ps (cel g cs' t' :: fs) w' → Fr n D l a' → wpList P ops Q rest a' w') (hv : v.cells.toList = vs := by rfl) (hn : vs.length = m := by rfl) (hle : o + m ≤ cs.length := by exact Nat.le_of_ble_eq_true rfl) (h1 : vs.all (·.oneCell') = true := by rfl) (hcs : putAt o vs cs = cs' := by rfl) (hg : on ops l ⟨none, .store t x y, ty, pos, af, gd⟩ = some true := by rfl) : wpList P ops Q (⟨none, .store t x y, ty, pos, af, gd⟩ :: rest) a w := by
  obtain ⟨w', hr, H'⟩ := Hp.store (ρ := a.eval) H (F.ev hx) (F.ev hy) hv hs hn hle h1 hcs
  exact ls (qn F (.inl rfl) (hr _ _ _ _) (fun a' F' => k w' a' H' F') hg)
theorem stF (F : Fr n D l a) (vs : List Value) {t t' : TypeId} {x y : Operand} {g o m : Nat} {cs : List Value} {v : Value} {rest : List Oper} (H : Hp w0 ps (cel g cs t' :: fs) w) (hx : ev l x = some (.pointer (some ⟨g, o, none⟩))) (hy : ev l y = some v) (hs : szB P t m = true)
    (k : ∀ w' a', Hp w0 ps (cel g vs t' :: fs) w' → Fr n D l a' → wpList P ops Q rest a' w') (hv : v.cells.toList = vs := by rfl) (hn : vs.length = m := by rfl) (hle : o + m ≤ cs.length := by exact Nat.le_of_ble_eq_true rfl) (h1 : vs.all (·.oneCell') = true := by rfl) (hcs : putAt o vs cs = vs := by rfl) (hg : on ops l ⟨none, .store t x y, ty, pos, af, gd⟩ = some true := by rfl) : wpList P ops Q (⟨none, .store t x y, ty, pos, af, gd⟩ :: rest) a w := sto F vs vs H hx hy hs k hv hn hle h1 hcs hg
end
end Go.Proofs.Ytpmkpiffbdcflaa
