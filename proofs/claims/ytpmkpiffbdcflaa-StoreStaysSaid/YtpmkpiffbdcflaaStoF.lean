/- Stores, plain: where nothing stands still; how great a generation may be. -/
import Derived.Test.YtpmkpiffbdcflaaStoE
set_option linter.unusedVariables false
set_option linter.unusedSimpArgs false
namespace Go.Proofs.Ytpmkpiffbdcflaa
open Go Go.RowKit
theorem low_fuse {n : Nat} {d : disk_Disk} (W : WFd n d) (hf : d.fuse = -1) : (lower d).fuse = -1 := by rw [lower_fuse W, hf]; decide
theorem wr_fuse {n : Nat} {d : disk_Disk} (W : WFd n d) (hf : d.fuse = -1) (i : Int) (b : List Int) : (wr d i b).2.fuse = -1 := by
  have h := low_fuse W hf
  unfold wr
  rw [if_neg (by omega)]
  split
  · exact h
  · split <;> exact h
theorem layW_fuse {n : Nat} (a : Int) : ∀ (xs : List (List Int)) (p : Nat) {d : disk_Disk}, WFd n d → d.fuse = -1 → (layW a p d xs).2.fuse = -1
  | [], _, _, _, h => h
  | x :: xs, p, d, W, h => by
    have Ww := (W.wr (a + (p : Int)) x).1
    have hw := wr_fuse W h (a + (p : Int)) x
    rw [layW_cons]
    split
    · exact hw
    · exact layW_fuse a xs (p + 1) Ww hw
theorem layV_fuse {n : Nat} {d : disk_Disk} (W : WFd n d) (hf : d.fuse = -1) (a lim g : Int) (st : List Int) (ents : List (List Int)) : (layV d a lim g st ents).2.fuse = -1 := by
  rcases layV_cases d a lim g st ents with h | h | ⟨_, h⟩
  · rw [h]; exact hf
  · rw [h]; exact hf
  · rw [h]; exact layW_fuse a _ 0 W hf
theorem sy_fuse {n : Nat} {d : disk_Disk} (W : WFd n d) (hf : d.fuse = -1) : (sy d).2.fuse = -1 ∧ (sy d).1 = 0 := by
  unfold sy
  rw [if_neg (by omega)]
  exact ⟨low_fuse W hf, rfl⟩
theorem beg_fuse {n : Nat} {d : disk_Disk} (W : WFd n d) (hf' : d.fuse = -1) (s : store_Store) (st : List Int) (ents : List (List Int)) : (begV n s st ents d).2.2.fuse = -1 := by
  have h1 := layV_fuse W hf' (othr n s) (hf n) (grt n d + 1) st ents
  have h2 := sy_fuse (layV_wf W (othr n s) (hf n) (grt n d + 1) st ents).1 h1
  unfold begV
  split
  · exact hf'
  · split
    · exact hf'
    · split
      · exact hf'
      · split
        · exact h1
        · split
          · exact h2.1
          · exact h2.1
/-- Begin, where nothing stands still: whether there is room. -/
theorem beg_code {n : Nat} (hn : n ≤ 4096) {d : disk_Disk} (W : WFd n d) (hf' : d.fuse = -1) {s : store_Store} (hb : s.broken = false) {st : List Int} {ents : List (List Int)} (hsb : Bytes st) (heb : ∀ e ∈ ents, Bytes e) (hm : mayOk st ents) (hg : grt n d < 281474976710656) :
    (begV n s st ents d).1 = if (nparts st : Int) + (ents.length : Int) ≤ hf n then 0 else 5 := by
  have hg0 := grt_le n d
  have ho := othr_le hn s
  unfold begV
  rw [if_neg (by rw [hb]; simp), if_neg (not_not_intro hm), if_neg (by omega)]
  by_cases c : (nparts st : Int) + (ents.length : Int) ≤ hf n
  · have L : LayOk (grt n d + 1) st ents (hf n) := ⟨by omega, hm.1, hm.2.1, hm.2.2, c⟩
    have e := lay_fine W hf' L hsb heb ho.1 ho.2.1
    have h1 := layV_fuse W hf' (othr n s) (hf n) (grt n d + 1) st ents
    have h2 := sy_fuse (layV_wf W (othr n s) (hf n) (grt n d + 1) st ents).1 h1
    rw [if_pos c, if_neg (by rw [e]; simp), if_neg (by rw [h2.2]; simp)]
  · have e : layV d (othr n s) (hf n) (grt n d + 1) st ents = (5, d) := by
      unfold layV
      rw [if_neg (by
        rintro (h | h | h | h | h)
        · omega
        · omega
        · exact h hm.1
        · have := hm.2.1; omega
        · exact h hm.2.2), if_pos (by omega)]
    rw [if_neg c, e]
    dsimp only
    rw [if_pos (by decide)]
/-- No sector has a greater generation. -/
def GB (g : Int) (d : disk_Disk) : Prop := ∀ i, (dec (rdv d i).1).2 = true → (dec (rdv d i).1).1.Gen ≤ g
theorem GB.wr {n : Nat} {g : Int} {d : disk_Disk} (W : WFd n d) (h : GB g d) (i : Int) {s : api_Sector} (hs : s.Gen ≤ g) (hb : Bytes s.Body) : GB g (wr d i (putOf s)).2 := by
  intro j hj
  by_cases c : d.fuse ≠ 0 ∧ ((putOf s).length : Int) = 64 ∧ (0 ≤ i ∧ i < (d.sectors.length : Int))
  · rw [rdv_wr c.1 c.2.1 c.2.2] at hj ⊢
    by_cases e : i = j
    · rw [if_pos e] at hj ⊢
      dsimp only at hj ⊢
      have hl : (putOf s).length = 64 := by have := c.2.1; omega
      rw [arr_of hl (putOf_bytes hb)] at hj ⊢
      unfold putOf at hj ⊢ hl
      by_cases r : RtP s
      · rw [if_pos r, dec_enc r hb] at hj ⊢; exact hs
      · rw [if_neg r] at hl; simp at hl
    · rw [if_neg e] at hj ⊢
      exact h j hj
  · have e : rdv (Go.Proofs.Ytpmkpiffbdcflaa.wr d i (putOf s)).2 j = rdv d j := by
      unfold Go.Proofs.Ytpmkpiffbdcflaa.wr
      split
      · rfl
      · rename_i c1
        split
        · rfl
        · rename_i c2
          split
          · rename_i c3
            exact absurd ⟨c1, by omega, c3⟩ c
          · rfl
    rw [e] at hj ⊢
    exact h j hj
theorem GB.layW {n : Nat} {g a : Int} : ∀ (xs : List (List Int)) (p : Nat) {d : disk_Disk}, WFd n d → GB g d → (∀ x ∈ xs, ∃ s : api_Sector, x = putOf s ∧ s.Gen ≤ g ∧ Bytes s.Body) → GB g (layW a p d xs).2
  | [], _, _, _, h, _ => h
  | x :: xs, p, d, W, h, hx => by
    obtain ⟨s, e, h1, h2⟩ := hx x List.mem_cons_self
    have Ww := (W.wr (a + (p : Int)) x).1
    have hw : GB g (Go.Proofs.Ytpmkpiffbdcflaa.wr d (a + (p : Int)) x).2 := by rw [e]; exact h.wr W _ h1 h2
    rw [layW_cons]
    split
    · exact hw
    · exact GB.layW xs (p + 1) Ww hw fun y hy => hx y (List.mem_cons_of_mem _ hy)
theorem GB.layV {n : Nat} {g a lim gen : Int} {d : disk_Disk} (W : WFd n d) (h : GB g d) (hg : gen ≤ g) {st : List Int} {ents : List (List Int)} (hsb : Bytes st) (heb : ∀ e ∈ ents, Bytes e) : GB g (layV d a lim gen st ents).2 := by
  rcases layV_cases d a lim gen st ents with e | e | ⟨L, e⟩
  · rw [e]; exact h
  · rw [e]; exact h
  · rw [e]
    refine GB.layW _ 0 W h fun x hx => ?_
    obtain ⟨p, hp, rfl⟩ := List.getElem_of_mem hx
    rw [secs_len] at hp
    have e2 := secs_at (gen := gen) hp
    rw [List.getElem?_eq_getElem (by rw [secs_len]; exact hp)] at e2
    exact ⟨_, Option.some.inj e2, hg, bodyAt_bytes hsb heb hp⟩
theorem GB.sy {n : Nat} {g : Int} {d : disk_Disk} (W : WFd n d) (h : GB g d) : GB g (sy d).2 := fun i hi => by
  rw [rdv_sy W] at hi ⊢
  exact h i hi
theorem GB.new (n : Nat) : GB 0 (dnew n) := fun i hi => by rw [rdv_new] at hi; cases hi
theorem GB.more {g g' : Int} {d : disk_Disk} (h : GB g d) (hg : g ≤ g') : GB g' d := fun i hi => Int.le_trans (h i hi) hg
theorem gr_le2 {g : Int} (hg : 0 ≤ g) : ∀ (k : Nat) {f : Nat → Option api_Sector}, (∀ p s, f p = some s → s.Gen ≤ g) → gr f k ≤ g
  | 0, _, _ => hg
  | k + 1, f, h => by
    have ih := gr_le2 hg k h
    show (match f k with | some s => max (gr f k) s.Gen | none => gr f k) ≤ g
    cases e : f k with
    | none => exact ih
    | some s => exact Int.max_le.2 ⟨ih, h k s e⟩
theorem GB.grt {g : Int} {d : disk_Disk} (h : GB g d) (hg : 0 ≤ g) (n : Nat) : grt n d ≤ g := by
  have key : ∀ a p s, fa (rdv d) a (hf n) p = some s → s.Gen ≤ g := by
    intro a p s hs
    unfold fa sa at hs
    split at hs
    · split at hs
      · rename_i c
        rw [← Option.some.inj hs]
        exact h _ c.2
      · cases hs
    · cases hs
  unfold Go.Proofs.Ytpmkpiffbdcflaa.grt
  exact Int.max_le.2 ⟨gr_le2 hg 5000 (key 0), gr_le2 hg 5000 (key (hf n))⟩
theorem beg_GB {n : Nat} {g : Int} {d : disk_Disk} (W : WFd n d) (h : GB g d) (hg : Go.Proofs.Ytpmkpiffbdcflaa.grt n d + 1 ≤ g) (s : store_Store) {st : List Int} {ents : List (List Int)} (hsb : Bytes st) (heb : ∀ e ∈ ents, Bytes e) : GB g (begV n s st ents d).2.2 := by
  have h1 := h.layV W (a := othr n s) (lim := hf n) (gen := Go.Proofs.Ytpmkpiffbdcflaa.grt n d + 1) hg hsb heb
  have W1 := (layV_wf W (othr n s) (hf n) (Go.Proofs.Ytpmkpiffbdcflaa.grt n d + 1) st ents).1
  unfold begV
  split
  · exact h
  · split
    · exact h
    · split
      · exact h
      · split
        · exact h1
        · split
          · exact h1.sy W1
          · exact h1.sy W1
theorem Inv.pend {n : Nat} (hn : n ≤ 4096) {s : store_Store} {d : disk_Disk} {m1 m2 ys : List (List Int)} {nst : List Int} {nen : List (List Int)} (I : Inv n s d m1 m2 ys nst nen) : d.pending.length ≤ 4096 := by
  have hh := hf_le hn
  rw [I.p, List.length_append, wrs_len, wrs_len, enS_len]
  have h1 : (m2.length : Int) ≤ hf n := by
    cases h : s.has_ with
    | true =>
      rcases I.cur h with ⟨_, _, _, _, hfit⟩ | ⟨_, h2, _⟩
      · omega
      · rw [h2, List.length_nil]; omega
    | false =>
      obtain ⟨_, _, _, h2, _⟩ := I.no h
      rw [h2, List.length_nil]; omega
  rcases I.lenY with hy | hy
  · rw [hy, List.length_nil]; omega
  · omega
end Go.Proofs.Ytpmkpiffbdcflaa
