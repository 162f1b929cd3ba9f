/- What is known of memory, as a list of facts with regions of their own: kinds of cells, rows that are read, rows and blocks that are one's own, and how a world that has turned keeps them. -/
import Derived.Below
import Derived.Maps.AppendAt
import Derived.Deep.AppendLies
import Derived.Laws.MakeOwn
import Derived.Laws.OwnMore
import Derived.KernelRfl
import Derived.Orders
import Derived.OrdersHeld
import Derived.Tactics
import Derived.Deep.Draws
set_option linter.unusedVariables false
set_option linter.unusedSimpArgs false
namespace Go.Proofs.Ytpmkpiffbdcflaa
open Go Go.RowKit

/-! ### Kinds of cells -/
/-- Blocks of Z stand as they stood. -/
def Same (Z : Nat → Prop) (w w' : World) : Prop := ∀ b, Z b → w'.heap[b]? = w.heap[b]?
theorem Same.refl (Z : Nat → Prop) (w : World) : Same Z w w := fun _ _ => rfl
/-- A kind: how so many cells say a thing; Z are the blocks that nobody writes any more. -/
structure Kd (α : Type) where
  sz : Nat
  ok : (Nat → Prop) → World → List Value → α → Prop
  len : ∀ {Z w cs x}, ok Z w cs x → cs.length = sz
  one : ∀ {Z w cs x}, ok Z w cs x → ∀ c ∈ cs, c.oneCell' = true
  stb : ∀ {Z w cs x Z' w'}, ok Z w cs x → (∀ b, Z b → Z' b) → Same Z w w' → ok Z' w' cs x
theorem cell_same {Z : Nat → Prop} {w w' : World} (h : Same Z w w') {a : Addr} (ha : Z a.block) : w'.cell? a = w.cell? a := World.cell?_of_block (h _ ha)
/-- Whole numbers. -/
def kInt (k : IntKind) : Kd Int where
  sz := 1
  ok _ _ cs x := cs = [.int k x]
  len h := by rw [h]; rfl
  one h := by rw [h]; intro c hc; rw [List.mem_singleton.1 hc]; rfl
  stb h _ _ := h
/-- Bytes, with their range. -/
def kByte : Kd Int where
  sz := 1
  ok _ _ cs x := cs = [.int .u8 x] ∧ 0 ≤ x ∧ x < 256
  len h := by rw [h.1]; rfl
  one h := by rw [h.1]; intro c hc; rw [List.mem_singleton.1 hc]; rfl
  stb h _ _ := h
def kBool : Kd Bool where
  sz := 1
  ok _ _ cs x := cs = [.bool x]
  len h := by rw [h]; rfl
  one h := by rw [h]; intro c hc; rw [List.mem_singleton.1 hc]; rfl
  stb h _ _ := h
/-- The bytes of a string. -/
def strOf (xs : List Int) : ByteArray := ⟨(xs.map fun x => UInt8.ofNat x.toNat).toArray⟩
def Bytes (xs : List Int) : Prop := ∀ x ∈ xs, 0 ≤ x ∧ x < 256
/-! ### Rows that are read -/
/-- The elements of a slice, cell by cell, in blocks that nobody writes. -/
def Rows {α : Type} (d : Kd α) (Z : Nat → Prop) (w : World) (A : Option Addr) (c : Nat) (xs : List α) : Prop :=
  xs.length ≤ c ∧ c ≤ maxLen ∧ ∀ j (h : j < xs.length), ∃ ad cs, A = some ad ∧ Z ad.block ∧ d.ok Z w cs xs[j] ∧ ∀ i, i < d.sz → w.cell? (ad.add (j * d.sz + i)) = cs[i]?
theorem addr_block (a : Addr) (n : Nat) : (a.add n).block = a.block := by unfold Addr.add; split <;> rfl
theorem addr_plain (g o j : Nat) : (⟨g, o, none⟩ : Addr).add j = ⟨g, o + j, none⟩ := by unfold Addr.add; split <;> simp_all
theorem Rows.stb {α : Type} {d : Kd α} {Z Z' : Nat → Prop} {w w' : World} {A : Option Addr} {c : Nat} {xs : List α} (h : Rows d Z w A c xs) (hz : ∀ b, Z b → Z' b) (hs : Same Z w w') : Rows d Z' w' A c xs := by
  refine ⟨h.1, h.2.1, fun j hj => ?_⟩
  obtain ⟨ad, cs, hA, hZ, hok, hc⟩ := h.2.2 j hj
  exact ⟨ad, cs, hA, hz _ hZ, d.stb hok hz hs, fun i hi => by rw [cell_same hs (by rw [addr_block]; exact hZ)]; exact hc i hi⟩
/-- A slice among the fields of a struct, or among the elements of a row. -/
def kSlice {α : Type} (d : Kd α) : Kd (List α) where
  sz := 1
  ok Z w cs xs := ∃ A c, cs = [.slice A xs.length c] ∧ Rows d Z w A c xs
  len h := by obtain ⟨_, _, h, _⟩ := h; rw [h]; rfl
  one h := by obtain ⟨_, _, h, _⟩ := h; rw [h]; intro c hc; rw [List.mem_singleton.1 hc]; rfl
  stb h hz hs := by obtain ⟨A, c, h, hr⟩ := h; exact ⟨A, c, h, hr.stb hz hs⟩

/-! ### Facts -/
/-- A fact that lasts: it speaks of blocks that nobody writes. -/
structure PF where
  p : (Nat → Prop) → World → Prop
  stb : ∀ {Z w Z' w'}, p Z w → (∀ b, Z b → Z' b) → Same Z w w' → p Z' w'
/-- A fact with blocks T of its own. -/
structure SF where
  p : (Nat → Prop) → (Nat → Prop) → World → Prop
  stb : ∀ {Z T w Z' w'}, p Z T w → (∀ b, Z b → Z' b) → Same Z w w' → Same T w w' → p Z' T w'
def rd {α : Type} (d : Kd α) (A : Option Addr) (c : Nat) (xs : List α) : PF := ⟨fun Z w => Rows d Z w A c xs, fun h hz hs => h.stb hz hs⟩
/-- Cells that say a thing. -/
def says {α : Type} (d : Kd α) (cs : List Value) (x : α) : PF := ⟨fun Z w => d.ok Z w cs x, fun h hz hs => d.stb h hz hs⟩
/-- A block whose cells are known. -/
def cel (g : Nat) (cs : List Value) (t : TypeId) : SF := ⟨fun _ T w => w.heap[g]? = some (.cells cs.toArray t (0, 0)) ∧ ∀ b, T b ↔ b = g, fun h _ _ hs => ⟨by rw [hs g ((h.2 g).2 rfl)]; exact h.1, h.2⟩⟩
/-- A row of one's own: elements of type e, of so many cells each. -/
def Own {α : Type} (d : Kd α) (Z T : Nat → Prop) (w : World) (e : TypeId) (A : Option Addr) (c : Nat) (xs : List α) : Prop :=
  (∀ b, T b → ∃ o, A = some ⟨b, o, none⟩) ∧ ∃ cs, w.ownsRow 0 e d.sz (.slice A xs.length c) xs.length cs ∧ (∀ g, (Value.slice A xs.length c).ownBlock = some g → T g) ∧ ∀ j (h : j < xs.length), d.ok Z w ((cs.drop (j * d.sz)).take d.sz) xs[j]
def own {α : Type} (d : Kd α) (e : TypeId) (A : Option Addr) (c : Nat) (xs : List α) : SF := ⟨fun Z T w => Own d Z T w e A c xs, by
  rintro Z T w Z' w' ⟨h0, cs, h1, h2, h3⟩ hz hs ht
  refine ⟨h0, cs, ⟨h1.1, ?_⟩, h2, fun j hj => d.stb (h3 j hj) hz hs⟩
  rcases h1.2 with h | ⟨g, cap, cur, hv, hb, hh, r⟩
  · exact .inl h
  · refine .inr ⟨g, cap, cur, hv, hb, ?_, r⟩
    rw [ht g (h2 g (by rw [hv]; rfl))]
    exact hh⟩
/-- A map, whole. -/
def mapf (g : Nat) (es : Array MapEntry) (n : Nat) : SF := ⟨fun _ T w => w.heap[g]? = some (.map es n) ∧ ∀ b, T b ↔ b = g, fun h _ _ hs => ⟨by rw [hs g ((h.2 g).2 rfl)]; exact h.1, h.2⟩⟩

/-! ### Facts side by side -/
def Sep (Z : Nat → Prop) : List SF → (Nat → Prop) → World → Prop
  | [], _, _ => True
  | F :: fs, S, w => ∃ T, (∀ b, T b → S b) ∧ F.p Z T w ∧ Sep Z fs (fun b => S b ∧ ¬ T b) w
theorem Sep.mono {Z : Nat → Prop} {w : World} : ∀ {fs : List SF} {S S' : Nat → Prop}, Sep Z fs S w → (∀ b, S b → S' b) → Sep Z fs S' w
  | [], _, _, _, _ => trivial
  | _ :: _, _, _, ⟨T, h1, h2, h3⟩, h => ⟨T, fun b hb => h b (h1 b hb), h2, h3.mono fun b hb => ⟨h b hb.1, hb.2⟩⟩
theorem Sep.stb {Z Z' : Nat → Prop} {w w' : World} (hz : ∀ b, Z b → Z' b) (hs : Same Z w w') : ∀ {fs : List SF} {S : Nat → Prop}, Sep Z fs S w → Same S w w' → Sep Z' fs S w'
  | [], _, _, _ => trivial
  | F :: _, _, ⟨T, h1, h2, h3⟩, h => ⟨T, h1, F.stb h2 hz hs (fun b hb => h b (h1 b hb)), h3.stb hz hs fun b hb => h b hb.1⟩
theorem Sep.append {Z : Nat → Prop} {w : World} : ∀ {fs gs : List SF} {S T : Nat → Prop}, Sep Z fs T w → Sep Z gs (fun b => S b ∧ ¬ T b) w → (∀ b, T b → S b) → Sep Z (fs ++ gs) S w
  | [], _, _, _, _, h, hT => h.mono fun _ hb => hb.1
  | F :: fs, gs, S, T, ⟨U, h1, h2, h3⟩, h, hT => ⟨U, fun b hb => hT b (h1 b hb), h2, Sep.append (T := fun b => T b ∧ ¬ U b) h3 (h.mono fun b hb => ⟨⟨hb.1, fun hu => hb.2 (h1 b hu)⟩, fun hn => hb.2 hn.1⟩) fun b hb => ⟨hT b hb.1, hb.2⟩⟩
/-- The i-th one comes first. -/
theorem Sep.front {Z : Nat → Prop} {w : World} : ∀ (i : Nat) {fs : List SF} {F : SF} {S : Nat → Prop}, fs[i]? = some F → Sep Z fs S w → Sep Z (F :: fs.eraseIdx i) S w
  | 0, _ :: _, _, _, hi, h => by simp at hi; subst hi; exact h
  | i + 1, G :: fs, F, S, hi, ⟨T, h1, h2, h3⟩ => by
    have hi' : fs[i]? = some F := by simpa using hi
    obtain ⟨U, k1, k2, k3⟩ := Sep.front i hi' h3
    exact ⟨U, fun b hb => (k1 b hb).1, k2, T, fun b hb => ⟨h1 b hb, fun hu => (k1 b hu).2 hb⟩, h2, k3.mono fun b hb => ⟨⟨hb.1.1, hb.2⟩, hb.1.2⟩⟩
def takes : List Nat → List SF → List SF
  | [], _ => []
  | i :: is, fs => match fs[i]? with
    | some F => F :: takes is (fs.eraseIdx i)
    | none => []
theorem Sep.takes {Z : Nat → Prop} {w : World} : ∀ (is : List Nat) {fs : List SF} {S : Nat → Prop}, Sep Z fs S w → Sep Z (Go.Proofs.Ytpmkpiffbdcflaa.takes is fs) S w
  | [], _, _, _ => trivial
  | i :: is, fs, S, h => by
    unfold Go.Proofs.Ytpmkpiffbdcflaa.takes
    split
    · rename_i F hi
      obtain ⟨T, h1, h2, h3⟩ := Sep.front i hi h
      exact ⟨T, h1, h2, Sep.takes is h3⟩
    · trivial

/-- What is known of a world: nothing of w0 has turned; what lasts; what is one's own. -/
structure HpZ (w0 : World) (ps : List PF) (fs : List SF) (Z : Nat → Prop) (w : World) : Prop where
  os : w.os = w0.os
  tape : w.tape = w0.tape
  output : w.output = w0.output
  old : ∀ b, b < w0.heap.size → Z b ∧ w.heap[b]? = w0.heap[b]?
  size : w0.heap.size ≤ w.heap.size
  zlt : ∀ b, Z b → b < w.heap.size
  pers : ∀ p ∈ ps, p.p Z w
  sep : Sep Z fs (fun b => ¬ Z b ∧ b < w.heap.size) w
def Hp (w0 : World) (ps : List PF) (fs : List SF) (w : World) : Prop := ∃ Z, HpZ w0 ps fs Z w

theorem Hp.below {w0 w : World} {ps : List PF} {fs : List SF} (H : Hp w0 ps fs w) : Below w0.heap.size w0 w := by
  obtain ⟨Z, H⟩ := H
  exact ⟨H.os, H.tape, H.output, H.size, fun k hk => (H.old k hk).2⟩
theorem Hp.init (w : World) (ps : List PF) (h : ∀ p ∈ ps, p.p (fun b => b < w.heap.size) w) : Hp w ps [] w :=
  ⟨fun b => b < w.heap.size, rfl, rfl, rfl, fun b hb => ⟨hb, rfl⟩, Nat.le_refl _, fun _ h => h, h, trivial⟩
/-- The facts on the left turn into those on the right; the world turns in their blocks, and in new ones. -/
theorem Hp.turn {w0 w w' : World} {ps : List PF} {Fs fs : List SF} (H : Hp w0 ps (Fs ++ fs) w) (np : List PF) (Fs' : List SF)
    (hos : w'.os = w.os) (htape : w'.tape = w.tape) (hout : w'.output = w.output) (hsz : w.heap.size ≤ w'.heap.size)
    (h : ∀ Z T, Sep Z Fs T w → (∀ b, T b → b < w.heap.size) → (∀ b, Z b → b < w.heap.size) → (∀ b, T b → ¬ Z b) → (∀ p ∈ ps, p.p Z w) →
      (∀ b, b < w.heap.size → ¬ T b → w'.heap[b]? = w.heap[b]?) ∧ ∃ Z' T' : Nat → Prop, (∀ b, Z b → Z' b) ∧ (∀ b, Z' b → ¬ Z b → (T b ∨ w.heap.size ≤ b) ∧ b < w'.heap.size) ∧ (∀ b, T' b → (T b ∨ w.heap.size ≤ b) ∧ ¬ Z' b ∧ b < w'.heap.size) ∧ Sep Z' Fs' T' w' ∧ ∀ p ∈ np, p.p Z' w') : Hp w0 (np ++ ps) (Fs' ++ fs) w' := by
  obtain ⟨Z, H⟩ := H
  -- the blocks of the left ones, by themselves
  have split : ∀ (Fs : List SF) (S : Nat → Prop), Sep Z (Fs ++ fs) S w → ∃ T, (∀ b, T b → S b) ∧ Sep Z Fs T w ∧ Sep Z fs (fun b => S b ∧ ¬ T b) w := by
    intro Fs
    induction Fs with
    | nil => exact fun S h => ⟨fun _ => False, fun _ h => h.elim, trivial, h.mono fun b hb => ⟨hb, fun h => h⟩⟩
    | cons F Fs ih =>
      rintro S ⟨T, h1, h2, h3⟩
      obtain ⟨U, k1, k2, k3⟩ := ih _ h3
      refine ⟨fun b => T b ∨ U b, fun b hb => hb.elim (h1 b) fun hu => (k1 b hu).1, ⟨T, fun b hb => .inl hb, h2, k2.mono fun b hb => ⟨.inr hb, (k1 b hb).2⟩⟩, k3.mono fun b hb => ⟨hb.1.1, fun hn => hn.elim hb.1.2 hb.2⟩⟩
  obtain ⟨T, t1, t2, t3⟩ := split Fs _ H.sep
  obtain ⟨hsame, Z', T', z1, z2, z3, hF, hnp⟩ := h Z T t2 (fun b hb => (t1 b hb).2) H.zlt (fun b hb => (t1 b hb).1) H.pers
  have hZs : Same Z w w' := fun b hb => hsame b (H.zlt b hb) fun ht => (t1 b ht).1 hb
  refine ⟨Z', hos.trans H.os, htape.trans H.tape, hout.trans H.output, fun b hb => ⟨z1 b (H.old b hb).1, (hZs b (H.old b hb).1).trans (H.old b hb).2⟩, Nat.le_trans H.size hsz, fun b hb => ?_, fun p hp => ?_, ?_⟩
  · by_cases hz : Z b
    · exact Nat.lt_of_lt_of_le (H.zlt b hz) hsz
    · exact (z2 b hb hz).2
  · rcases List.mem_append.1 hp with hp | hp
    · exact hnp p hp
    · exact p.stb (H.pers p hp) z1 hZs
  · refine Sep.append (T := T') hF ?_ fun b hb => (z3 b hb).2
    refine (t3.stb z1 hZs fun b hb => hsame b hb.1.2 hb.2).mono fun b hb => ?_
    have hnz : ¬ Z' b := fun hz => by
      rcases (z2 b hz hb.1.1).1 with ht | hge
      · exact hb.2 ht
      · exact absurd hb.1.2 (by omega)
    refine ⟨⟨hnz, Nat.lt_of_lt_of_le hb.1.2 hsz⟩, fun ht => ?_⟩
    rcases (z3 b ht).1 with h | h
    · exact hb.2 h
    · exact absurd hb.1.2 (by omega)
/-- Lists, put in another order, and with less. -/
theorem Hp.pick {w0 w : World} {ps ps' : List PF} {fs fs' : List SF} (is : List Nat) (H : Hp w0 ps fs w) (hp : ∀ p ∈ ps', p ∈ ps) (hf : takes is fs = fs') : Hp w0 ps' fs' w := by
  obtain ⟨Z, H⟩ := H
  subst hf
  exact ⟨Z, H.os, H.tape, H.output, H.old, H.size, H.zlt, fun p h => H.pers p (hp p h), H.sep.takes is⟩
theorem Hp.front {w0 w : World} {ps : List PF} {fs fs' : List SF} {F : SF} (i : Nat) (H : Hp w0 ps fs w) (hi : fs[i]? = some F) (hr : fs.eraseIdx i = fs') : Hp w0 ps (F :: fs') w := by
  obtain ⟨Z, H⟩ := H
  subst hr
  exact ⟨Z, H.os, H.tape, H.output, H.old, H.size, H.zlt, H.pers, H.sep.front i hi⟩
def sel {α : Type} : List Nat → List α → List α
  | [], _ => []
  | i :: is, l => match l[i]? with
    | some x => x :: sel is l
    | none => sel is l
theorem mem_sel {α : Type} : ∀ (is : List Nat) (l : List α) (x : α), x ∈ sel is l → x ∈ l
  | [], _, _, h => by simp [sel] at h
  | i :: is, l, x, h => by
    unfold sel at h
    split at h
    · rename_i y hy
      rcases List.mem_cons.1 h with rfl | h
      · exact List.mem_of_getElem? hy
      · exact mem_sel is l x h
    · exact mem_sel is l x h
/-- Both lists by their numbers: what lasts by its place, what is one's own by its place in what is left. -/
theorem Hp.sel {w0 w : World} {ps ps' : List PF} {fs fs' : List SF} (js is : List Nat) (H : Hp w0 ps fs w) (hp : Go.Proofs.Ytpmkpiffbdcflaa.sel js ps = ps') (hf : takes is fs = fs') : Hp w0 ps' fs' w :=
  H.pick is (by subst hp; exact mem_sel js ps) hf
/-- Both lists, as far as they are known, by their numbers; what is behind them stays. -/
theorem Hp.arr {w0 w : World} {ps ps' : List PF} {fs fs' : List SF} (n : Nat) (js : List Nat) (m : Nat) (is : List Nat) (H : Hp w0 ps fs w) (hp : Go.Proofs.Ytpmkpiffbdcflaa.sel js (ps.take n) ++ ps.drop n = ps') (hf : takes is (fs.take m) ++ fs.drop m = fs') : Hp w0 ps' fs' w := by
  obtain ⟨Z, H⟩ := H
  subst hp hf
  refine ⟨Z, H.os, H.tape, H.output, H.old, H.size, H.zlt, fun p hp => ?_, ?_⟩
  · rcases List.mem_append.1 hp with hp | hp
    · exact H.pers p (List.mem_of_mem_take (mem_sel js _ p hp))
    · exact H.pers p (List.mem_of_mem_drop hp)
  · have h := H.sep
    rw [← List.take_append_drop m fs] at h
    have split : ∀ (Fs fs : List SF) (S : Nat → Prop), Sep Z (Fs ++ fs) S w → ∃ T, (∀ b, T b → S b) ∧ Sep Z Fs T w ∧ Sep Z fs (fun b => S b ∧ ¬ T b) w := by
      intro Fs fs
      induction Fs with
      | nil => exact fun S h => ⟨fun _ => False, fun _ h => h.elim, trivial, h.mono fun b hb => ⟨hb, fun h => h⟩⟩
      | cons F Fs ih =>
        rintro S ⟨T, h1, h2, h3⟩
        obtain ⟨U, k1, k2, k3⟩ := ih _ h3
        exact ⟨fun b => T b ∨ U b, fun b hb => hb.elim (h1 b) fun hu => (k1 b hu).1, ⟨T, fun b hb => .inl hb, h2, k2.mono fun b hb => ⟨.inr hb, (k1 b hb).2⟩⟩, k3.mono fun b hb => ⟨hb.1.1, fun hn => hn.elim hb.1.2 hb.2⟩⟩
    obtain ⟨T, t1, t2, t3⟩ := split _ _ _ h
    exact Sep.append (t2.takes is) t3 t1
/-! One fact is told once more at the front (p), goes (px); one's own comes to the front (f), goes (fx). -/
theorem Sep.fr {Z : Nat → Prop} {w : World} : ∀ (l : List SF) {a : SF} {fs : List SF} {S : Nat → Prop}, Sep Z (l ++ a :: fs) S w → Sep Z (a :: (l ++ fs)) S w
  | [], _, _, _, h => h
  | G :: l, a, fs, S, ⟨T, h1, h2, h3⟩ => by
    obtain ⟨U, k1, k2, k3⟩ := Sep.fr l h3
    exact ⟨U, fun b hb => (k1 b hb).1, k2, T, fun b hb => ⟨h1 b hb, fun hu => (k1 b hu).2 hb⟩, h2, k3.mono fun b hb => ⟨⟨hb.1.1, hb.2⟩, hb.1.2⟩⟩
theorem Sep.del {Z : Nat → Prop} {w : World} {l : List SF} {a : SF} {fs : List SF} {S : Nat → Prop} (h : Sep Z (l ++ a :: fs) S w) : Sep Z (l ++ fs) S w := by
  obtain ⟨T, _, _, h⟩ := Sep.fr l h
  exact h.mono fun b hb => hb.1
section
variable {w0 w : World} {ps : List PF} {fs : List SF}
theorem Hp.dup {a : PF} (l : List PF) (H : Hp w0 (l ++ a :: ps) fs w) : Hp w0 (a :: (l ++ a :: ps)) fs w := H.imp fun _ H => ⟨H.os, H.tape, H.output, H.old, H.size, H.zlt, fun p hp => (List.mem_cons.1 hp).elim (fun e => e ▸ H.pers a (by simp)) (H.pers p), H.sep⟩
theorem Hp.del {a : PF} (l : List PF) (H : Hp w0 (l ++ a :: ps) fs w) : Hp w0 (l ++ ps) fs w := H.imp fun _ H => ⟨H.os, H.tape, H.output, H.old, H.size, H.zlt, fun p hp => H.pers p ((List.mem_append.1 hp).elim (fun h => List.mem_append_left _ h) (fun h => List.mem_append_right _ (List.mem_cons_of_mem _ h))), H.sep⟩
theorem Hp.fr {a : SF} (l : List SF) (H : Hp w0 ps (l ++ a :: fs) w) : Hp w0 ps (a :: (l ++ fs)) w := H.imp fun _ H => ⟨H.os, H.tape, H.output, H.old, H.size, H.zlt, H.pers, H.sep.fr l⟩
theorem Hp.fdel {a : SF} (l : List SF) (H : Hp w0 ps (l ++ a :: fs) w) : Hp w0 ps (l ++ fs) w := H.imp fun _ H => ⟨H.os, H.tape, H.output, H.old, H.size, H.zlt, H.pers, H.sep.del⟩
theorem Hp.p0 {a0 : PF} (H : Hp w0 (a0 :: ps) fs w) : Hp w0 (a0 :: a0 :: ps) fs w := Hp.dup [] H
theorem Hp.px0 {a0 : PF} (H : Hp w0 (a0 :: ps) fs w) : Hp w0 (ps) fs w := Hp.del [] H
theorem Hp.p1 {a0 a1 : PF} (H : Hp w0 (a0 :: a1 :: ps) fs w) : Hp w0 (a1 :: a0 :: a1 :: ps) fs w := Hp.dup [a0] H
theorem Hp.px1 {a0 a1 : PF} (H : Hp w0 (a0 :: a1 :: ps) fs w) : Hp w0 (a0 :: ps) fs w := Hp.del [a0] H
theorem Hp.p2 {a0 a1 a2 : PF} (H : Hp w0 (a0 :: a1 :: a2 :: ps) fs w) : Hp w0 (a2 :: a0 :: a1 :: a2 :: ps) fs w := Hp.dup [a0, a1] H
theorem Hp.px2 {a0 a1 a2 : PF} (H : Hp w0 (a0 :: a1 :: a2 :: ps) fs w) : Hp w0 (a0 :: a1 :: ps) fs w := Hp.del [a0, a1] H
theorem Hp.p3 {a0 a1 a2 a3 : PF} (H : Hp w0 (a0 :: a1 :: a2 :: a3 :: ps) fs w) : Hp w0 (a3 :: a0 :: a1 :: a2 :: a3 :: ps) fs w := Hp.dup [a0, a1, a2] H
theorem Hp.px3 {a0 a1 a2 a3 : PF} (H : Hp w0 (a0 :: a1 :: a2 :: a3 :: ps) fs w) : Hp w0 (a0 :: a1 :: a2 :: ps) fs w := Hp.del [a0, a1, a2] H
theorem Hp.p4 {a0 a1 a2 a3 a4 : PF} (H : Hp w0 (a0 :: a1 :: a2 :: a3 :: a4 :: ps) fs w) : Hp w0 (a4 :: a0 :: a1 :: a2 :: a3 :: a4 :: ps) fs w := Hp.dup [a0, a1, a2, a3] H
theorem Hp.px4 {a0 a1 a2 a3 a4 : PF} (H : Hp w0 (a0 :: a1 :: a2 :: a3 :: a4 :: ps) fs w) : Hp w0 (a0 :: a1 :: a2 :: a3 :: ps) fs w := Hp.del [a0, a1, a2, a3] H
theorem Hp.p5 {a0 a1 a2 a3 a4 a5 : PF} (H : Hp w0 (a0 :: a1 :: a2 :: a3 :: a4 :: a5 :: ps) fs w) : Hp w0 (a5 :: a0 :: a1 :: a2 :: a3 :: a4 :: a5 :: ps) fs w := Hp.dup [a0, a1, a2, a3, a4] H
theorem Hp.px5 {a0 a1 a2 a3 a4 a5 : PF} (H : Hp w0 (a0 :: a1 :: a2 :: a3 :: a4 :: a5 :: ps) fs w) : Hp w0 (a0 :: a1 :: a2 :: a3 :: a4 :: ps) fs w := Hp.del [a0, a1, a2, a3, a4] H
theorem Hp.p6 {a0 a1 a2 a3 a4 a5 a6 : PF} (H : Hp w0 (a0 :: a1 :: a2 :: a3 :: a4 :: a5 :: a6 :: ps) fs w) : Hp w0 (a6 :: a0 :: a1 :: a2 :: a3 :: a4 :: a5 :: a6 :: ps) fs w := Hp.dup [a0, a1, a2, a3, a4, a5] H
theorem Hp.px6 {a0 a1 a2 a3 a4 a5 a6 : PF} (H : Hp w0 (a0 :: a1 :: a2 :: a3 :: a4 :: a5 :: a6 :: ps) fs w) : Hp w0 (a0 :: a1 :: a2 :: a3 :: a4 :: a5 :: ps) fs w := Hp.del [a0, a1, a2, a3, a4, a5] H
theorem Hp.px7 {a0 a1 a2 a3 a4 a5 a6 a7 : PF} (H : Hp w0 (a0 :: a1 :: a2 :: a3 :: a4 :: a5 :: a6 :: a7 :: ps) fs w) : Hp w0 (a0 :: a1 :: a2 :: a3 :: a4 :: a5 :: a6 :: ps) fs w := Hp.del [a0, a1, a2, a3, a4, a5, a6] H
theorem Hp.p8 {a0 a1 a2 a3 a4 a5 a6 a7 a8 : PF} (H : Hp w0 (a0 :: a1 :: a2 :: a3 :: a4 :: a5 :: a6 :: a7 :: a8 :: ps) fs w) : Hp w0 (a8 :: a0 :: a1 :: a2 :: a3 :: a4 :: a5 :: a6 :: a7 :: a8 :: ps) fs w := Hp.dup [a0, a1, a2, a3, a4, a5, a6, a7] H
theorem Hp.px8 {a0 a1 a2 a3 a4 a5 a6 a7 a8 : PF} (H : Hp w0 (a0 :: a1 :: a2 :: a3 :: a4 :: a5 :: a6 :: a7 :: a8 :: ps) fs w) : Hp w0 (a0 :: a1 :: a2 :: a3 :: a4 :: a5 :: a6 :: a7 :: ps) fs w := Hp.del [a0, a1, a2, a3, a4, a5, a6, a7] H
theorem Hp.px9 {a0 a1 a2 a3 a4 a5 a6 a7 a8 a9 : PF} (H : Hp w0 (a0 :: a1 :: a2 :: a3 :: a4 :: a5 :: a6 :: a7 :: a8 :: a9 :: ps) fs w) : Hp w0 (a0 :: a1 :: a2 :: a3 :: a4 :: a5 :: a6 :: a7 :: a8 :: ps) fs w := Hp.del [a0, a1, a2, a3, a4, a5, a6, a7, a8] H
theorem Hp.p10 {a0 a1 a2 a3 a4 a5 a6 a7 a8 a9 a10 : PF} (H : Hp w0 (a0 :: a1 :: a2 :: a3 :: a4 :: a5 :: a6 :: a7 :: a8 :: a9 :: a10 :: ps) fs w) : Hp w0 (a10 :: a0 :: a1 :: a2 :: a3 :: a4 :: a5 :: a6 :: a7 :: a8 :: a9 :: a10 :: ps) fs w := Hp.dup [a0, a1, a2, a3, a4, a5, a6, a7, a8, a9] H
theorem Hp.px10 {a0 a1 a2 a3 a4 a5 a6 a7 a8 a9 a10 : PF} (H : Hp w0 (a0 :: a1 :: a2 :: a3 :: a4 :: a5 :: a6 :: a7 :: a8 :: a9 :: a10 :: ps) fs w) : Hp w0 (a0 :: a1 :: a2 :: a3 :: a4 :: a5 :: a6 :: a7 :: a8 :: a9 :: ps) fs w := Hp.del [a0, a1, a2, a3, a4, a5, a6, a7, a8, a9] H
theorem Hp.px11 {a0 a1 a2 a3 a4 a5 a6 a7 a8 a9 a10 a11 : PF} (H : Hp w0 (a0 :: a1 :: a2 :: a3 :: a4 :: a5 :: a6 :: a7 :: a8 :: a9 :: a10 :: a11 :: ps) fs w) : Hp w0 (a0 :: a1 :: a2 :: a3 :: a4 :: a5 :: a6 :: a7 :: a8 :: a9 :: a10 :: ps) fs w := Hp.del [a0, a1, a2, a3, a4, a5, a6, a7, a8, a9, a10] H
theorem Hp.px12 {a0 a1 a2 a3 a4 a5 a6 a7 a8 a9 a10 a11 a12 : PF} (H : Hp w0 (a0 :: a1 :: a2 :: a3 :: a4 :: a5 :: a6 :: a7 :: a8 :: a9 :: a10 :: a11 :: a12 :: ps) fs w) : Hp w0 (a0 :: a1 :: a2 :: a3 :: a4 :: a5 :: a6 :: a7 :: a8 :: a9 :: a10 :: a11 :: ps) fs w := Hp.del [a0, a1, a2, a3, a4, a5, a6, a7, a8, a9, a10, a11] H
theorem Hp.px13 {a0 a1 a2 a3 a4 a5 a6 a7 a8 a9 a10 a11 a12 a13 : PF} (H : Hp w0 (a0 :: a1 :: a2 :: a3 :: a4 :: a5 :: a6 :: a7 :: a8 :: a9 :: a10 :: a11 :: a12 :: a13 :: ps) fs w) : Hp w0 (a0 :: a1 :: a2 :: a3 :: a4 :: a5 :: a6 :: a7 :: a8 :: a9 :: a10 :: a11 :: a12 :: ps) fs w := Hp.del [a0, a1, a2, a3, a4, a5, a6, a7, a8, a9, a10, a11, a12] H
theorem Hp.px14 {a0 a1 a2 a3 a4 a5 a6 a7 a8 a9 a10 a11 a12 a13 a14 : PF} (H : Hp w0 (a0 :: a1 :: a2 :: a3 :: a4 :: a5 :: a6 :: a7 :: a8 :: a9 :: a10 :: a11 :: a12 :: a13 :: a14 :: ps) fs w) : Hp w0 (a0 :: a1 :: a2 :: a3 :: a4 :: a5 :: a6 :: a7 :: a8 :: a9 :: a10 :: a11 :: a12 :: a13 :: ps) fs w := Hp.del [a0, a1, a2, a3, a4, a5, a6, a7, a8, a9, a10, a11, a12, a13] H
theorem Hp.px15 {a0 a1 a2 a3 a4 a5 a6 a7 a8 a9 a10 a11 a12 a13 a14 a15 : PF} (H : Hp w0 (a0 :: a1 :: a2 :: a3 :: a4 :: a5 :: a6 :: a7 :: a8 :: a9 :: a10 :: a11 :: a12 :: a13 :: a14 :: a15 :: ps) fs w) : Hp w0 (a0 :: a1 :: a2 :: a3 :: a4 :: a5 :: a6 :: a7 :: a8 :: a9 :: a10 :: a11 :: a12 :: a13 :: a14 :: ps) fs w := Hp.del [a0, a1, a2, a3, a4, a5, a6, a7, a8, a9, a10, a11, a12, a13, a14] H
theorem Hp.px16 {a0 a1 a2 a3 a4 a5 a6 a7 a8 a9 a10 a11 a12 a13 a14 a15 a16 : PF} (H : Hp w0 (a0 :: a1 :: a2 :: a3 :: a4 :: a5 :: a6 :: a7 :: a8 :: a9 :: a10 :: a11 :: a12 :: a13 :: a14 :: a15 :: a16 :: ps) fs w) : Hp w0 (a0 :: a1 :: a2 :: a3 :: a4 :: a5 :: a6 :: a7 :: a8 :: a9 :: a10 :: a11 :: a12 :: a13 :: a14 :: a15 :: ps) fs w := Hp.del [a0, a1, a2, a3, a4, a5, a6, a7, a8, a9, a10, a11, a12, a13, a14, a15] H
theorem Hp.px17 {a0 a1 a2 a3 a4 a5 a6 a7 a8 a9 a10 a11 a12 a13 a14 a15 a16 a17 : PF} (H : Hp w0 (a0 :: a1 :: a2 :: a3 :: a4 :: a5 :: a6 :: a7 :: a8 :: a9 :: a10 :: a11 :: a12 :: a13 :: a14 :: a15 :: a16 :: a17 :: ps) fs w) : Hp w0 (a0 :: a1 :: a2 :: a3 :: a4 :: a5 :: a6 :: a7 :: a8 :: a9 :: a10 :: a11 :: a12 :: a13 :: a14 :: a15 :: a16 :: ps) fs w := Hp.del [a0, a1, a2, a3, a4, a5, a6, a7, a8, a9, a10, a11, a12, a13, a14, a15, a16] H
theorem Hp.px18 {a0 a1 a2 a3 a4 a5 a6 a7 a8 a9 a10 a11 a12 a13 a14 a15 a16 a17 a18 : PF} (H : Hp w0 (a0 :: a1 :: a2 :: a3 :: a4 :: a5 :: a6 :: a7 :: a8 :: a9 :: a10 :: a11 :: a12 :: a13 :: a14 :: a15 :: a16 :: a17 :: a18 :: ps) fs w) : Hp w0 (a0 :: a1 :: a2 :: a3 :: a4 :: a5 :: a6 :: a7 :: a8 :: a9 :: a10 :: a11 :: a12 :: a13 :: a14 :: a15 :: a16 :: a17 :: ps) fs w := Hp.del [a0, a1, a2, a3, a4, a5, a6, a7, a8, a9, a10, a11, a12, a13, a14, a15, a16, a17] H
theorem Hp.px19 {a0 a1 a2 a3 a4 a5 a6 a7 a8 a9 a10 a11 a12 a13 a14 a15 a16 a17 a18 a19 : PF} (H : Hp w0 (a0 :: a1 :: a2 :: a3 :: a4 :: a5 :: a6 :: a7 :: a8 :: a9 :: a10 :: a11 :: a12 :: a13 :: a14 :: a15 :: a16 :: a17 :: a18 :: a19 :: ps) fs w) : Hp w0 (a0 :: a1 :: a2 :: a3 :: a4 :: a5 :: a6 :: a7 :: a8 :: a9 :: a10 :: a11 :: a12 :: a13 :: a14 :: a15 :: a16 :: a17 :: a18 :: ps) fs w := Hp.del [a0, a1, a2, a3, a4, a5, a6, a7, a8, a9, a10, a11, a12, a13, a14, a15, a16, a17, a18] H
theorem Hp.px20 {a0 a1 a2 a3 a4 a5 a6 a7 a8 a9 a10 a11 a12 a13 a14 a15 a16 a17 a18 a19 a20 : PF} (H : Hp w0 (a0 :: a1 :: a2 :: a3 :: a4 :: a5 :: a6 :: a7 :: a8 :: a9 :: a10 :: a11 :: a12 :: a13 :: a14 :: a15 :: a16 :: a17 :: a18 :: a19 :: a20 :: ps) fs w) : Hp w0 (a0 :: a1 :: a2 :: a3 :: a4 :: a5 :: a6 :: a7 :: a8 :: a9 :: a10 :: a11 :: a12 :: a13 :: a14 :: a15 :: a16 :: a17 :: a18 :: a19 :: ps) fs w := Hp.del [a0, a1, a2, a3, a4, a5, a6, a7, a8, a9, a10, a11, a12, a13, a14, a15, a16, a17, a18, a19] H
theorem Hp.px21 {a0 a1 a2 a3 a4 a5 a6 a7 a8 a9 a10 a11 a12 a13 a14 a15 a16 a17 a18 a19 a20 a21 : PF} (H : Hp w0 (a0 :: a1 :: a2 :: a3 :: a4 :: a5 :: a6 :: a7 :: a8 :: a9 :: a10 :: a11 :: a12 :: a13 :: a14 :: a15 :: a16 :: a17 :: a18 :: a19 :: a20 :: a21 :: ps) fs w) : Hp w0 (a0 :: a1 :: a2 :: a3 :: a4 :: a5 :: a6 :: a7 :: a8 :: a9 :: a10 :: a11 :: a12 :: a13 :: a14 :: a15 :: a16 :: a17 :: a18 :: a19 :: a20 :: ps) fs w := Hp.del [a0, a1, a2, a3, a4, a5, a6, a7, a8, a9, a10, a11, a12, a13, a14, a15, a16, a17, a18, a19, a20] H
theorem Hp.px22 {a0 a1 a2 a3 a4 a5 a6 a7 a8 a9 a10 a11 a12 a13 a14 a15 a16 a17 a18 a19 a20 a21 a22 : PF} (H : Hp w0 (a0 :: a1 :: a2 :: a3 :: a4 :: a5 :: a6 :: a7 :: a8 :: a9 :: a10 :: a11 :: a12 :: a13 :: a14 :: a15 :: a16 :: a17 :: a18 :: a19 :: a20 :: a21 :: a22 :: ps) fs w) : Hp w0 (a0 :: a1 :: a2 :: a3 :: a4 :: a5 :: a6 :: a7 :: a8 :: a9 :: a10 :: a11 :: a12 :: a13 :: a14 :: a15 :: a16 :: a17 :: a18 :: a19 :: a20 :: a21 :: ps) fs w := Hp.del [a0, a1, a2, a3, a4, a5, a6, a7, a8, a9, a10, a11, a12, a13, a14, a15, a16, a17, a18, a19, a20, a21] H
theorem Hp.px23 {a0 a1 a2 a3 a4 a5 a6 a7 a8 a9 a10 a11 a12 a13 a14 a15 a16 a17 a18 a19 a20 a21 a22 a23 : PF} (H : Hp w0 (a0 :: a1 :: a2 :: a3 :: a4 :: a5 :: a6 :: a7 :: a8 :: a9 :: a10 :: a11 :: a12 :: a13 :: a14 :: a15 :: a16 :: a17 :: a18 :: a19 :: a20 :: a21 :: a22 :: a23 :: ps) fs w) : Hp w0 (a0 :: a1 :: a2 :: a3 :: a4 :: a5 :: a6 :: a7 :: a8 :: a9 :: a10 :: a11 :: a12 :: a13 :: a14 :: a15 :: a16 :: a17 :: a18 :: a19 :: a20 :: a21 :: a22 :: ps) fs w := Hp.del [a0, a1, a2, a3, a4, a5, a6, a7, a8, a9, a10, a11, a12, a13, a14, a15, a16, a17, a18, a19, a20, a21, a22] H
theorem Hp.fx0 {a0 : SF} (H : Hp w0 ps (a0 :: fs) w) : Hp w0 ps (fs) w := Hp.fdel [] H
theorem Hp.f1 {a0 a1 : SF} (H : Hp w0 ps (a0 :: a1 :: fs) w) : Hp w0 ps (a1 :: a0 :: fs) w := Hp.fr [a0] H
theorem Hp.fx1 {a0 a1 : SF} (H : Hp w0 ps (a0 :: a1 :: fs) w) : Hp w0 ps (a0 :: fs) w := Hp.fdel [a0] H
theorem Hp.f2 {a0 a1 a2 : SF} (H : Hp w0 ps (a0 :: a1 :: a2 :: fs) w) : Hp w0 ps (a2 :: a0 :: a1 :: fs) w := Hp.fr [a0, a1] H
theorem Hp.fx2 {a0 a1 a2 : SF} (H : Hp w0 ps (a0 :: a1 :: a2 :: fs) w) : Hp w0 ps (a0 :: a1 :: fs) w := Hp.fdel [a0, a1] H
theorem Hp.f3 {a0 a1 a2 a3 : SF} (H : Hp w0 ps (a0 :: a1 :: a2 :: a3 :: fs) w) : Hp w0 ps (a3 :: a0 :: a1 :: a2 :: fs) w := Hp.fr [a0, a1, a2] H
theorem Hp.fx3 {a0 a1 a2 a3 : SF} (H : Hp w0 ps (a0 :: a1 :: a2 :: a3 :: fs) w) : Hp w0 ps (a0 :: a1 :: a2 :: fs) w := Hp.fdel [a0, a1, a2] H
theorem Hp.f4 {a0 a1 a2 a3 a4 : SF} (H : Hp w0 ps (a0 :: a1 :: a2 :: a3 :: a4 :: fs) w) : Hp w0 ps (a4 :: a0 :: a1 :: a2 :: a3 :: fs) w := Hp.fr [a0, a1, a2, a3] H
theorem Hp.fx4 {a0 a1 a2 a3 a4 : SF} (H : Hp w0 ps (a0 :: a1 :: a2 :: a3 :: a4 :: fs) w) : Hp w0 ps (a0 :: a1 :: a2 :: a3 :: fs) w := Hp.fdel [a0, a1, a2, a3] H
theorem Hp.f5 {a0 a1 a2 a3 a4 a5 : SF} (H : Hp w0 ps (a0 :: a1 :: a2 :: a3 :: a4 :: a5 :: fs) w) : Hp w0 ps (a5 :: a0 :: a1 :: a2 :: a3 :: a4 :: fs) w := Hp.fr [a0, a1, a2, a3, a4] H
theorem Hp.fx5 {a0 a1 a2 a3 a4 a5 : SF} (H : Hp w0 ps (a0 :: a1 :: a2 :: a3 :: a4 :: a5 :: fs) w) : Hp w0 ps (a0 :: a1 :: a2 :: a3 :: a4 :: fs) w := Hp.fdel [a0, a1, a2, a3, a4] H
theorem Hp.f6 {a0 a1 a2 a3 a4 a5 a6 : SF} (H : Hp w0 ps (a0 :: a1 :: a2 :: a3 :: a4 :: a5 :: a6 :: fs) w) : Hp w0 ps (a6 :: a0 :: a1 :: a2 :: a3 :: a4 :: a5 :: fs) w := Hp.fr [a0, a1, a2, a3, a4, a5] H
theorem Hp.fx6 {a0 a1 a2 a3 a4 a5 a6 : SF} (H : Hp w0 ps (a0 :: a1 :: a2 :: a3 :: a4 :: a5 :: a6 :: fs) w) : Hp w0 ps (a0 :: a1 :: a2 :: a3 :: a4 :: a5 :: fs) w := Hp.fdel [a0, a1, a2, a3, a4, a5] H
theorem Hp.f7 {a0 a1 a2 a3 a4 a5 a6 a7 : SF} (H : Hp w0 ps (a0 :: a1 :: a2 :: a3 :: a4 :: a5 :: a6 :: a7 :: fs) w) : Hp w0 ps (a7 :: a0 :: a1 :: a2 :: a3 :: a4 :: a5 :: a6 :: fs) w := Hp.fr [a0, a1, a2, a3, a4, a5, a6] H
theorem Hp.fx7 {a0 a1 a2 a3 a4 a5 a6 a7 : SF} (H : Hp w0 ps (a0 :: a1 :: a2 :: a3 :: a4 :: a5 :: a6 :: a7 :: fs) w) : Hp w0 ps (a0 :: a1 :: a2 :: a3 :: a4 :: a5 :: a6 :: fs) w := Hp.fdel [a0, a1, a2, a3, a4, a5, a6] H
theorem Hp.f8 {a0 a1 a2 a3 a4 a5 a6 a7 a8 : SF} (H : Hp w0 ps (a0 :: a1 :: a2 :: a3 :: a4 :: a5 :: a6 :: a7 :: a8 :: fs) w) : Hp w0 ps (a8 :: a0 :: a1 :: a2 :: a3 :: a4 :: a5 :: a6 :: a7 :: fs) w := Hp.fr [a0, a1, a2, a3, a4, a5, a6, a7] H
theorem Hp.fx8 {a0 a1 a2 a3 a4 a5 a6 a7 a8 : SF} (H : Hp w0 ps (a0 :: a1 :: a2 :: a3 :: a4 :: a5 :: a6 :: a7 :: a8 :: fs) w) : Hp w0 ps (a0 :: a1 :: a2 :: a3 :: a4 :: a5 :: a6 :: a7 :: fs) w := Hp.fdel [a0, a1, a2, a3, a4, a5, a6, a7] H
theorem Hp.f9 {a0 a1 a2 a3 a4 a5 a6 a7 a8 a9 : SF} (H : Hp w0 ps (a0 :: a1 :: a2 :: a3 :: a4 :: a5 :: a6 :: a7 :: a8 :: a9 :: fs) w) : Hp w0 ps (a9 :: a0 :: a1 :: a2 :: a3 :: a4 :: a5 :: a6 :: a7 :: a8 :: fs) w := Hp.fr [a0, a1, a2, a3, a4, a5, a6, a7, a8] H
theorem Hp.fx9 {a0 a1 a2 a3 a4 a5 a6 a7 a8 a9 : SF} (H : Hp w0 ps (a0 :: a1 :: a2 :: a3 :: a4 :: a5 :: a6 :: a7 :: a8 :: a9 :: fs) w) : Hp w0 ps (a0 :: a1 :: a2 :: a3 :: a4 :: a5 :: a6 :: a7 :: a8 :: fs) w := Hp.fdel [a0, a1, a2, a3, a4, a5, a6, a7, a8] H
theorem Hp.f10 {a0 a1 a2 a3 a4 a5 a6 a7 a8 a9 a10 : SF} (H : Hp w0 ps (a0 :: a1 :: a2 :: a3 :: a4 :: a5 :: a6 :: a7 :: a8 :: a9 :: a10 :: fs) w) : Hp w0 ps (a10 :: a0 :: a1 :: a2 :: a3 :: a4 :: a5 :: a6 :: a7 :: a8 :: a9 :: fs) w := Hp.fr [a0, a1, a2, a3, a4, a5, a6, a7, a8, a9] H
theorem Hp.fx10 {a0 a1 a2 a3 a4 a5 a6 a7 a8 a9 a10 : SF} (H : Hp w0 ps (a0 :: a1 :: a2 :: a3 :: a4 :: a5 :: a6 :: a7 :: a8 :: a9 :: a10 :: fs) w) : Hp w0 ps (a0 :: a1 :: a2 :: a3 :: a4 :: a5 :: a6 :: a7 :: a8 :: a9 :: fs) w := Hp.fdel [a0, a1, a2, a3, a4, a5, a6, a7, a8, a9] H
end
/-- A draw. -/
theorem Hp.drew {w0 w : World} {ps : List PF} {fs : List SF} (H : Hp w0 ps fs w) : Hp w0 ps fs w.drew := by
  obtain ⟨Z, H⟩ := H
  exact ⟨Z, H.os, H.tape, H.output, H.old, H.size, H.zlt, fun p hp => p.stb (H.pers p hp) (fun _ h => h) (fun _ _ => rfl), (Sep.stb (w := w) (w' := w.drew) (fun _ h => h) (fun _ _ => rfl) H.sep (fun _ _ => rfl) : Sep Z fs (fun b => ¬ Z b ∧ b < w.heap.size) w.drew)⟩
/-- A new block. -/
theorem Hp.alloc {w0 w : World} {ps : List PF} {fs : List SF} (H : Hp w0 ps fs w) (cs : List Value) (t : TypeId) : Hp w0 ps (cel w.heap.size cs t :: fs) (w.alloc (.cells cs.toArray t)) := by
  refine H.turn (Fs := []) [] [cel w.heap.size cs t] rfl rfl rfl (by simp) fun Z T _ ht hz _ _ => ⟨fun b hb _ => heap_alloc_old w _ b hb, Z, fun b => b = w.heap.size, fun _ h => h, fun b h hn => absurd h hn, ?_, ⟨fun b => b = w.heap.size, fun _ h => h, ⟨heap_alloc_new w _, fun _ => Iff.rfl⟩, trivial⟩, fun _ h => by cases h⟩
  rintro b rfl
  exact ⟨.inr (Nat.le_refl _), fun h => absurd (hz _ h) (by omega), by simp⟩
theorem Hp.newmap {w0 w : World} {ps : List PF} {fs : List SF} (H : Hp w0 ps fs w) (es : Array MapEntry) (n : Nat) : Hp w0 ps (mapf w.heap.size es n :: fs) (w.alloc (.map es n)) := by
  refine H.turn (Fs := []) [] [mapf w.heap.size es n] rfl rfl rfl (by simp) fun Z T _ ht hz _ _ => ⟨fun b hb _ => heap_alloc_old w _ b hb, Z, fun b => b = w.heap.size, fun _ h => h, fun b h hn => absurd h hn, ?_, ⟨fun b => b = w.heap.size, fun _ h => h, ⟨heap_alloc_new w _, fun _ => Iff.rfl⟩, trivial⟩, fun _ h => by cases h⟩
  rintro b rfl
  exact ⟨.inr (Nat.le_refl _), fun h => absurd (hz _ h) (by omega), by simp⟩
theorem Hp.cell {w0 w : World} {ps : List PF} {fs : List SF} {g : Nat} {cs : List Value} {t : TypeId} (H : Hp w0 ps fs w) (i : Nat) (hi : fs[i]? = some (cel g cs t)) : w.heap[g]? = some (.cells cs.toArray t (0, 0)) := by
  obtain ⟨Z, H⟩ := H
  obtain ⟨T, _, h, _⟩ := H.sep.front i hi
  exact h.1
theorem Hp.lt {w0 w : World} {ps : List PF} {fs : List SF} {g : Nat} {cs : List Value} {t : TypeId} (H : Hp w0 ps fs w) (i : Nat) (hi : fs[i]? = some (cel g cs t)) : g < w.heap.size := (Array.getElem?_eq_some_iff.1 (H.cell i hi)).1
/-- What lasts, as it stands. -/
theorem Hp.fact {w0 w : World} {ps : List PF} {fs : List SF} {p : PF} (H : Hp w0 ps fs w) (i : Nat) (hi : ps[i]? = some p) : ∃ Z, p.p Z w := by
  obtain ⟨Z, H⟩ := H
  exact ⟨Z, H.pers p (List.mem_of_getElem? hi)⟩
/-- What follows of what lasts lasts. -/
theorem Hp.more {w0 w : World} {ps : List PF} {fs : List SF} (H : Hp w0 ps fs w) (q : PF) (h : ∀ Z, (∀ p ∈ ps, p.p Z w) → q.p Z w) : Hp w0 (q :: ps) fs w := by
  obtain ⟨Z, H⟩ := H
  exact ⟨Z, H.os, H.tape, H.output, H.old, H.size, H.zlt, fun p hp => (List.mem_cons.1 hp).elim (fun e => e ▸ h Z H.pers) (H.pers p), H.sep⟩
/-- A block of one's own is written. -/
theorem Hp.rewrite {w0 w w' : World} {ps : List PF} {fs : List SF} {g : Nat} {cs : List Value} {t : TypeId} (cs' : List Value) (H : Hp w0 ps (cel g cs t :: fs) w)
    (hos : w'.os = w.os) (htape : w'.tape = w.tape) (hout : w'.output = w.output) (hsz : w'.heap.size = w.heap.size) (hg : w'.heap[g]? = some (.cells cs'.toArray t (0, 0))) (hk : ∀ b, b ≠ g → w'.heap[b]? = w.heap[b]?) : Hp w0 ps (cel g cs' t :: fs) w' := by
  refine H.turn (Fs := [cel g cs t]) [] [cel g cs' t] hos htape hout (Nat.le_of_eq hsz.symm) ?_
  rintro Z T ⟨U, hU, ⟨_, hUg⟩, _⟩ ht hz htz _
  have hTg : T g := hU g ((hUg g).2 rfl)
  refine ⟨fun b _ hb => hk b fun e => hb (e ▸ hTg), Z, fun b => b = g, fun _ h => h, fun b h hn => absurd h hn, ?_, ⟨fun b => b = g, fun _ h => h, ⟨hg, fun _ => Iff.rfl⟩, trivial⟩, fun _ h => by cases h⟩
  rintro b rfl
  exact ⟨.inl hTg, htz b hTg, by rw [hsz]; exact ht b hTg⟩
/-- A row of one's own is written no more: it is read. -/
theorem own_rows {α : Type} {d : Kd α} {Z T : Nat → Prop} {w : World} {e : TypeId} {A : Option Addr} {c : Nat} {xs : List α} (h : Own d Z T w e A c xs) {Z' : Nat → Prop} (hz : ∀ b, Z b → Z' b) (ht : ∀ b, T b → Z' b) : Rows d Z' w A c xs := by
  obtain ⟨_, cs, h1, h2, h3⟩ := h
  rcases h1.2 with ⟨hv, hn⟩ | ⟨g, cap, cur, hv, _, hh, hnc, hcm, hcs, hcur⟩
  · injection hv with hA _ hc
    subst hA hc
    exact ⟨Nat.le_of_eq hn, Nat.zero_le _, fun j hj => absurd hj (by omega)⟩
  · injection hv with hA _ hc
    subst hA hc
    refine ⟨hnc, hcm, fun j hj => ⟨_, (cs.drop (j * d.sz)).take d.sz, rfl, ht g (h2 g rfl), d.stb (h3 j hj) hz (Same.refl _ _), fun i hi => ?_⟩⟩
    rw [addr_plain, Nat.zero_add]
    have hlt : j * d.sz + i < xs.length * d.sz := Nat.lt_of_lt_of_le (by omega : j * d.sz + i < j * d.sz + d.sz) (by rw [← Nat.succ_mul]; exact Nat.mul_le_mul_right _ hj)
    rw [h1.cellAt (j * d.sz + i) hlt, List.getElem?_take_of_lt hi, List.getElem?_drop]
theorem Hp.freeze {α : Type} {w0 w : World} {ps : List PF} {fs : List SF} {d : Kd α} {e : TypeId} {A : Option Addr} {c : Nat} {xs : List α} (H : Hp w0 ps (own d e A c xs :: fs) w) : Hp w0 (rd d A c xs :: ps) fs w := by
  refine H.turn (Fs := [own d e A c xs]) [rd d A c xs] [] rfl rfl rfl (Nat.le_refl _) ?_
  rintro Z T ⟨U, hU, hown, _⟩ ht hz htz _
  refine ⟨fun _ _ _ => rfl, fun b => Z b ∨ U b, fun _ => False, fun b h => .inl h, fun b h hn => h.elim (fun h => absurd h hn) fun h => ⟨.inl (hU b h), ht b (hU b h)⟩, fun _ h => h.elim, trivial, fun p hp => ?_⟩
  rw [List.mem_singleton.1 hp]
  exact own_rows (Z' := fun b => Z b ∨ U b) hown (fun _ h => Or.inl h) (fun _ h => Or.inr h)
theorem own_nil {α : Type} (Z : Nat → Prop) (w : World) (d : Kd α) (e : TypeId) : Own d Z (fun _ => False) w e none 0 [] :=
  ⟨fun _ h => h.elim, [], ⟨by simp, .inl ⟨rfl, rfl⟩⟩, (fun _ h => by simp [Value.ownBlock] at h), (fun j hj => absurd hj (Nat.not_lt_zero j))⟩
/-- Nothing, as a row of one's own; as one that is read. -/
theorem Hp.nilOwn {α : Type} {w0 w : World} {ps : List PF} {fs : List SF} (H : Hp w0 ps fs w) (d : Kd α) (e : TypeId) : Hp w0 ps (own d e none 0 [] :: fs) w := by
  refine H.turn (Fs := []) [] [own d e none 0 []] rfl rfl rfl (Nat.le_refl _) fun Z T _ ht hz _ _ => ⟨fun _ _ _ => rfl, Z, fun _ => False, fun _ h => h, fun b h hn => absurd h hn, fun _ h => h.elim, ⟨fun _ => False, fun _ h => h, own_nil Z w d e, trivial⟩, fun _ h => by cases h⟩
theorem Hp.nilRd {α : Type} {w0 w : World} {ps : List PF} {fs : List SF} (H : Hp w0 ps fs w) (d : Kd α) : Hp w0 (rd d none 0 [] :: ps) fs w := H.nilOwn d 0 |>.freeze

/-! ### Facts made of facts -/
def star (l : List SF) : SF := ⟨fun Z T w => Sep Z l T w, fun h hz hs ht => h.stb hz hs ht⟩
def exF {α : Type} (f : α → SF) : SF := ⟨fun Z T w => ∃ x, (f x).p Z T w, fun ⟨x, h⟩ hz hs ht => ⟨x, (f x).stb h hz hs ht⟩⟩
def lift (p : PF) : SF := ⟨fun Z _ w => p.p Z w, fun h hz hs _ => p.stb h hz hs⟩
theorem Sep.split {Z : Nat → Prop} {w : World} : ∀ {Fs fs : List SF} {S : Nat → Prop}, Sep Z (Fs ++ fs) S w → ∃ T, (∀ b, T b → S b) ∧ Sep Z Fs T w ∧ Sep Z fs (fun b => S b ∧ ¬ T b) w
  | [], _, _, h => ⟨fun _ => False, fun _ h => h.elim, trivial, h.mono fun _ hb => ⟨hb, fun h => h⟩⟩
  | F :: Fs, fs, S, ⟨T, h1, h2, h3⟩ => by
    obtain ⟨U, k1, k2, k3⟩ := Sep.split (Fs := Fs) h3
    exact ⟨fun b => T b ∨ U b, fun b hb => hb.elim (h1 b) fun hu => (k1 b hu).1, ⟨T, fun b hb => .inl hb, h2, k2.mono fun b hb => ⟨.inr hb, (k1 b hb).2⟩⟩, k3.mono fun b hb => ⟨hb.1.1, fun hn => hn.elim hb.1.2 hb.2⟩⟩
theorem Hp.openStar {w0 w : World} {ps : List PF} {l fs : List SF} (H : Hp w0 ps (star l :: fs) w) : Hp w0 ps (l ++ fs) w := by
  obtain ⟨Z, H⟩ := H
  obtain ⟨T, h1, h2, h3⟩ := H.sep
  exact ⟨Z, H.os, H.tape, H.output, H.old, H.size, H.zlt, H.pers, Sep.append h2 h3 h1⟩
theorem Hp.closeStar {w0 w : World} {ps : List PF} {l fs : List SF} (H : Hp w0 ps (l ++ fs) w) : Hp w0 ps (star l :: fs) w := by
  obtain ⟨Z, H⟩ := H
  obtain ⟨T, h1, h2, h3⟩ := Sep.split H.sep
  exact ⟨Z, H.os, H.tape, H.output, H.old, H.size, H.zlt, H.pers, T, h1, h2, h3⟩
theorem Hp.openEx {α : Type} {f : α → SF} {w0 w : World} {ps : List PF} {fs : List SF} (H : Hp w0 ps (exF f :: fs) w) : ∃ x, Hp w0 ps (f x :: fs) w := by
  obtain ⟨Z, H⟩ := H
  obtain ⟨T, h1, ⟨x, h2⟩, h3⟩ := H.sep
  exact ⟨x, Z, H.os, H.tape, H.output, H.old, H.size, H.zlt, H.pers, T, h1, h2, h3⟩
theorem Hp.closeEx {α : Type} {f : α → SF} {w0 w : World} {ps : List PF} {fs : List SF} (x : α) (H : Hp w0 ps (f x :: fs) w) : Hp w0 ps (exF f :: fs) w := by
  obtain ⟨Z, H⟩ := H
  obtain ⟨T, h1, h2, h3⟩ := H.sep
  exact ⟨Z, H.os, H.tape, H.output, H.old, H.size, H.zlt, H.pers, T, h1, ⟨x, h2⟩, h3⟩
theorem Hp.openLift {p : PF} {w0 w : World} {ps : List PF} {fs : List SF} (H : Hp w0 ps (lift p :: fs) w) : Hp w0 (p :: ps) fs w := by
  obtain ⟨Z, H⟩ := H
  obtain ⟨T, h1, h2, h3⟩ := H.sep
  exact ⟨Z, H.os, H.tape, H.output, H.old, H.size, H.zlt, fun q hq => (List.mem_cons.1 hq).elim (fun e => e ▸ h2) (H.pers q), h3.mono fun b hb => hb.1⟩
theorem Hp.closeLift {p : PF} {w0 w : World} {ps : List PF} {fs : List SF} (i : Nat) (hi : ps[i]? = some p) (H : Hp w0 ps fs w) : Hp w0 ps (lift p :: fs) w := by
  obtain ⟨Z, H⟩ := H
  exact ⟨Z, H.os, H.tape, H.output, H.old, H.size, H.zlt, H.pers, fun _ => False, fun _ h => h.elim, H.pers p (List.mem_of_getElem? hi), H.sep.mono fun b hb => ⟨hb, fun h => h⟩⟩

/-! ### Frames: what is known of the slots -/
structure Fr (n : Nat) (D : List Deferred) (l : List (Nat × Value)) (a : Act) : Prop where
  sz : a.tmps.size = n
  df : a.defers = D
  at_ : ∀ t v, l.lookup t = some v → a.tmps.getD t undef = v
/-- An operand's value. -/
def ev (l : List (Nat × Value)) : Operand → Option Value
  | .tmp t => l.lookup t
  | .const v => some v
  | .global g => some (.pointer (some ⟨g, 0, none⟩))
  | .func f => some (.func (.func f) #[] #[])
theorem Fr.ev {n : Nat} {D : List Deferred} {l : List (Nat × Value)} {a : Act} (F : Fr n D l a) {x : Operand} {v : Value} (h : Go.Proofs.Ytpmkpiffbdcflaa.ev l x = some v) : a.eval x = v := by
  cases x with
  | tmp t => exact F.at_ t v h
  | const u => simpa [Go.Proofs.Ytpmkpiffbdcflaa.ev, Act.eval] using h
  | global g => simpa [Go.Proofs.Ytpmkpiffbdcflaa.ev, Act.eval] using h
  | func f => simpa [Go.Proofs.Ytpmkpiffbdcflaa.ev, Act.eval] using h
theorem Fr.put {n : Nat} {D : List Deferred} {l : List (Nat × Value)} {a : Act} (F : Fr n D l a) {d : Nat} (hd : d < n) (v : Value) : Fr n D ((d, v) :: l) (a.put (some d) v) := by
  refine ⟨by simp [Act.put, F.sz], F.df, fun t u h => ?_⟩
  have hd' : d < a.tmps.size := by rw [F.sz]; exact hd
  by_cases e : t = d
  · subst e
    simp at h
    subst h
    simp [Act.put, Array.getD_eq_getD_getElem?, hd']
  · have hne : (t == d) = false := by simpa using e
    rw [List.lookup_cons, hne] at h
    rw [← F.at_ t u h]
    have hne2 : ¬ d = t := fun h => e h.symm
    simp [Act.put, Array.getD_eq_getD_getElem?, hne2]
/-- Less is known, or the same in another order. -/
theorem Fr.keep {n : Nat} {D : List Deferred} {l l' : List (Nat × Value)} {a : Act} (F : Fr n D l a) (h : ∀ p ∈ l', l.lookup p.1 = some p.2) : Fr n D l' a := by
  refine ⟨F.sz, F.df, fun t v hv => ?_⟩
  have : ∀ (l' : List (Nat × Value)), l'.lookup t = some v → (t, v) ∈ l' := by
    intro l'
    induction l' with
    | nil => intro h; cases h
    | cons p l' ih =>
      intro h
      rw [List.lookup_cons] at h
      split at h
      · rename_i heq
        have : t = p.1 := by simpa using heq
        injection h with h
        subst h this
        exact List.mem_cons_self
      · exact List.mem_cons_of_mem _ (ih h)
  exact F.at_ t v (h _ (this l' hv))
def only : List Nat → List (Nat × Value) → List (Nat × Value)
  | [], _ => []
  | t :: ts, l => match l.lookup t with
    | some v => (t, v) :: only ts l
    | none => only ts l
theorem mem_only : ∀ (ts : List Nat) (l : List (Nat × Value)) (p : Nat × Value), p ∈ only ts l → l.lookup p.1 = some p.2
  | [], _, _, h => by cases h
  | t :: ts, l, p, h => by
    unfold only at h
    split at h
    · rename_i v hv
      rcases List.mem_cons.1 h with rfl | h
      · exact hv
      · exact mem_only ts l p h
    · exact mem_only ts l p h
theorem Fr.only {n : Nat} {D : List Deferred} {l l' : List (Nat × Value)} {a : Act} (F : Fr n D l a) (ts : List Nat) (h : Go.Proofs.Ytpmkpiffbdcflaa.only ts l = l') : Fr n D l' a := F.keep (by subst h; exact mem_only ts l)
end Go.Proofs.Ytpmkpiffbdcflaa
