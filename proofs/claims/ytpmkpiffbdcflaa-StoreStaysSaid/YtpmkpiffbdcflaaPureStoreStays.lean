/- The statement StoreStays: plain Lean. -/
import Derived.Test.YtpmkpiffbdcflaaStoF
import Derived.Test.YtpmkpiffbdcflaaRegS
import Derived.Test.YtpmkpiffbdcflaaGStoreStays
import Derived.Test.YtpmkpiffbdcflaaG2
set_option linter.unusedVariables false
set_option linter.unusedSimpArgs false
namespace Go.Proofs.Ytpmkpiffbdcflaa
open Go Go.RowKit
abbrev St11 := store_Store × Bool × Bool × Int × Int × (List Int) × (List (List Int)) × (List (List Int)) × disk_Disk × (List Int) × (List (List Int))
/-- What the statement knows, beside the store and the disk. -/
structure Kn (n k : Nat) (t : St11) (m1 m2 ys : List (List Int)) : Prop where
  i : t.2.2.2.2.1 = (k : Int)
  inv : Inv n t.1 t.2.2.2.2.2.2.2.2.1 m1 m2 ys t.2.2.2.2.2.2.2.2.2.1 t.2.2.2.2.2.2.2.2.2.2
  has : t.2.1 = t.1.has_
  br : t.2.2.1 = t.1.broken
  now : t.1.has_ = true → t.2.2.2.2.2.1 = t.1.now.State ∧ t.2.2.2.2.2.2.1 ++ t.2.2.2.2.2.2.2.1 = t.1.now.Kept ++ t.1.now.More ∧ t.2.2.2.1 = ((t.1.now.Kept.length + m1.length : Nat) : Int)
  kl : t.2.2.2.2.2.2.1.length ≤ 6000
  ml : t.2.2.2.2.2.2.2.1.length ≤ k
theorem stays_beg0 (o : law18_Op) (c : Int) : ((if o.What < 2 then some ((decide (c = 0))) else (if o.What > 7 then some ((decide (c = 0))) else some false)) : Option (Bool)) = some (decide (Begins o ∧ c = 0)) := by
  have hB : Begins o ↔ o.What < 2 ∨ o.What > 7 := Iff.rfl
  by_cases c1 : o.What < 2
  · rw [if_pos c1]; congr 1; exact decide_eq_decide.2 ⟨fun h => ⟨hB.2 (.inl c1), h⟩, fun h => h.2⟩
  · rw [if_neg c1]
    by_cases c2 : o.What > 7
    · rw [if_pos c2]; congr 1; exact decide_eq_decide.2 ⟨fun h => ⟨hB.2 (.inr c2), h⟩, fun h => h.2⟩
    · rw [if_neg c2]; congr 1; exact (decide_eq_false fun h => by rcases hB.1 h.1 with h | h; exact c1 h; exact c2 h).symm
theorem stays_beg1 (o : law18_Op) (c : Int) : ((if o.What < 2 then (if c ≠ 1 then some ((decide (c ≠ 43))) else some false) else (if o.What > 7 then (if c ≠ 1 then some ((decide (c ≠ 43))) else some false) else some false)) : Option (Bool)) = some (decide (Begins o ∧ c ≠ 1 ∧ c ≠ 43)) := by
  have hB : Begins o ↔ o.What < 2 ∨ o.What > 7 := Iff.rfl
  have hc : ((if c ≠ 1 then some ((decide (c ≠ 43))) else some false) : Option Bool) = some (decide (c ≠ 1 ∧ c ≠ 43)) := by
    by_cases h : c ≠ 1
    · rw [if_pos h]; congr 1; exact decide_eq_decide.2 ⟨fun h2 => ⟨h, h2⟩, fun h2 => h2.2⟩
    · rw [if_neg h]; congr 1; exact (decide_eq_false fun h2 => h h2.1).symm
  rw [hc]
  by_cases c1 : o.What < 2
  · rw [if_pos c1]; congr 1; exact decide_eq_decide.2 ⟨fun h => ⟨hB.2 (.inl c1), h⟩, fun h => h.2⟩
  · rw [if_neg c1]
    by_cases c2 : o.What > 7
    · rw [if_pos c2]; congr 1; exact decide_eq_decide.2 ⟨fun h => ⟨hB.2 (.inr c2), h⟩, fun h => h.2⟩
    · rw [if_neg c2]; congr 1; exact (decide_eq_false fun h => by rcases hB.1 h.1 with h | h; exact c1 h; exact c2 h).symm
theorem stays_app0 (o : law18_Op) (c : Int) : ((if o.What ≥ 2 then (if o.What ≤ 4 then some ((decide (c = 0))) else some false) else some false) : Option (Bool)) = some (decide ((2 ≤ o.What ∧ o.What ≤ 4) ∧ c = 0)) := by
  by_cases c1 : o.What ≥ 2
  · rw [if_pos c1]
    by_cases c2 : o.What ≤ 4
    · rw [if_pos c2]; congr 1; exact decide_eq_decide.2 ⟨fun h => ⟨⟨c1, c2⟩, h⟩, fun h => h.2⟩
    · rw [if_neg c2]; congr 1; exact (decide_eq_false fun h => c2 h.1.2).symm
  · rw [if_neg c1]; congr 1; exact (decide_eq_false fun h => c1 h.1.1).symm
theorem stays_syn0 (o : law18_Op) (c : Int) : ((if o.What = 5 then some ((decide (c = 0))) else some false) : Option (Bool)) = some (decide (o.What = 5 ∧ c = 0)) := by
  by_cases c1 : o.What = 5
  · rw [if_pos c1]; congr 1; exact decide_eq_decide.2 ⟨fun h => ⟨c1, h⟩, fun h => h.2⟩
  · rw [if_neg c1]; congr 1; exact (decide_eq_false fun h => c1 h.1).symm
theorem beginning_eq {A B : List (List Int)} {m : Int} (hA : A.length ≤ 20000) (hB : B.length ≤ 20000) : law18_beginning_f A B m = some (decide (m ≤ (A.length : Int) ∧ A.length ≤ B.length ∧ A = B.take A.length)) := by
  unfold law18_beginning_f
  by_cases c1 : (A.length : Int) ≥ m
  · rw [if_pos c1]
    by_cases c2 : (A.length : Int) ≤ (B.length : Int)
    · rw [if_pos c2, show min (A.length : Int) (B.length : Int) = (A.length : Int) by omega, if_pos (by omega), Int.toNat_natCast, show ((0 : Int)).toNat = 0 from rfl, List.drop_zero, sameRows_eq _ _ (by omega)]
      dsimp only [Option.bind_some]
      congr 1
      exact decide_eq_decide.2 ⟨fun h => ⟨c1, by omega, h⟩, fun h => h.2.2⟩
    · rw [if_neg c2]
      dsimp only [Option.bind_some]
      congr 1
      exact (decide_eq_false fun h => c2 (by have := h.2.1; omega)).symm
  · rw [if_neg c1]
    dsimp only [Option.bind_some]
    congr 1
    exact (decide_eq_false fun h => c1 h.1).symm
theorem pre_take {α : Type} (A B : List α) (j : Nat) : A ++ B.take j = (A ++ B).take (A.length + j) := by
  rw [List.take_append, List.take_of_length_le (l := A) (by omega), show A.length + j - A.length = j by omega]
/-- A crash is answered as it may be. -/
theorem stays_crash {n : Nat} {s s' : store_Store} {d d' : disk_Disk} {m1 m2 ys m1' : List (List Int)} {nst : List Int} {nen : List (List Int)} (I : Inv n s d m1 m2 ys nst nen) (I' : Inv n s' d' m1' [] [] nst nen)
    (hw : (s.has_ = true ∧ s'.has_ = true ∧ s'.now.Gen = s.now.Gen ∧ s'.now.State = s.now.State ∧ s'.now.Kept = s.now.Kept ∧ ∃ j, j ≤ m2.length ∧ s'.now.More = m1 ++ m2.take j) ∨
       (s.broken = true ∧ s'.has_ = true ∧ (s.has_ = true → s.now.Gen < s'.now.Gen) ∧ s'.now.State = nst ∧ s'.now.Kept = nen ∧ s'.now.More = []) ∨
       (s.has_ = false ∧ s'.has_ = false ∧ s'.now = RG0))
    {S : List Int} {K M : List (List Int)} {safe : Int} (hn : s.has_ = true → S = s.now.State ∧ K ++ M = s.now.Kept ++ s.now.More ∧ safe = ((s.now.Kept.length + m1.length : Nat) : Int)) (hK : K.length ≤ 6000) (hM : M.length ≤ 60) :
    ∃ b1 b2 b3, (((if s.has_ = true then ((store_Store_Has_f s').bind fun x93 => (if x93 = true then ((store_Store_State_f s').bind fun x97 => (if x97 = S then ((law18_beginning_f (s'.now.Kept ++ s'.now.More) (K ++ M) safe).bind fun x103 => some (true, x103)) else some (true, false))) else some (true, false))) else some (false, false)) : Option (Bool × Bool))) = some (b1, b2) ∧
      (((if s.broken = true then ((store_Store_Has_f s').bind fun x108 => (if x108 = true then ((store_Store_State_f s').bind fun x112 => (if x112 = nst then ((ref17_SameRows_f (s'.now.Kept ++ s'.now.More) nen).bind fun x118 => some x118) else some false)) else some false)) else some false) : Option (Bool))) = some b3 ∧
      (((if b2 = true then some false else (if b3 = true then some false else (if b1 = true then some true else ((store_Store_Has_f s').bind fun x125 => some x125)))) : Option (Bool))) = some false := by
  have hgk := I'.g.kl
  have hgm := I'.g.ml
  have hkl := I.g.kl
  have hml := I.g.ml
  have hlen : (s'.now.Kept ++ s'.now.More).length ≤ 20000 := by rw [List.length_append]; omega
  have hlen2 : (K ++ M).length ≤ 20000 := by rw [List.length_append]; omega
  rw [stateT_eq I'.g]
  dsimp only [store_Store_Has_f, Option.bind_some]
  rw [beginning_eq hlen hlen2, sameRows_eq _ _ (by omega)]
  dsimp only [Option.bind_some]
  rcases hw with ⟨h1, h2, _, h3, h4, j, hj, h5⟩ | ⟨hb, h2, _, h3, h4, h5⟩ | ⟨h1, h2, h3⟩
  · obtain ⟨e1, e2, e3⟩ := hn h1
    have hm := I.more
    have hl : (s.now.Kept ++ (m1 ++ m2.take j)).length = s.now.Kept.length + (m1.length + j) := by rw [List.length_append, List.length_append, List.length_take]; omega
    have hok : safe ≤ ((s'.now.Kept ++ s'.now.More).length : Int) ∧ (s'.now.Kept ++ s'.now.More).length ≤ (K ++ M).length ∧ s'.now.Kept ++ s'.now.More = (K ++ M).take (s'.now.Kept ++ s'.now.More).length := by
      rw [h4, h5, e2, e3, hm, hl]
      refine ⟨by omega, by rw [List.length_append, List.length_append]; omega, ?_⟩
      have e5 := pre_take (s.now.Kept ++ m1) m2 j
      rw [List.length_append] at e5
      rw [← List.append_assoc, ← List.append_assoc, e5, Nat.add_assoc]
    rw [h1, h2, if_pos rfl, if_pos rfl, h3, e1, if_pos rfl, decide_eq_true hok]
    cases hbr : s.broken with
    | false => exact ⟨true, true, false, rfl, by rw [if_neg (by simp)], by rw [if_pos rfl]⟩
    | true =>
      by_cases c : s.now.State = nst
      · exact ⟨true, true, _, rfl, by rw [if_pos rfl, if_pos rfl, if_pos c], by rw [if_pos rfl]⟩
      · exact ⟨true, true, _, rfl, by rw [if_pos rfl, if_pos rfl, if_neg c], by rw [if_pos rfl]⟩
  · have hfr : (((if s.broken = true then (if s'.has_ = true then (if s'.now.State = nst then some (decide (s'.now.Kept ++ s'.now.More = nen)) else some false) else some false) else some false) : Option (Bool))) = some true := by
      rw [hb, h2, h3, if_pos rfl, if_pos rfl, if_pos rfl, h4, h5, List.append_nil, decide_eq_true rfl]
    rw [hfr]
    cases hs : s.has_ with
    | false => exact ⟨false, false, true, by rw [if_neg (by simp)], rfl, by rw [if_neg (by simp), if_pos rfl]⟩
    | true =>
      rw [h2, if_pos rfl, if_pos rfl]
      by_cases c : s'.now.State = S
      · rw [if_pos c]
        refine ⟨_, _, true, rfl, rfl, ?_⟩
        split
        · rfl
        · rw [if_pos rfl]
      · rw [if_neg c]
        exact ⟨_, _, true, rfl, rfl, by rw [if_neg (by simp), if_pos rfl]⟩
  · refine ⟨false, false, false, by rw [h1, if_neg (by simp)], ?_, by rw [h2]; simp⟩
    rw [h2]
    cases s.broken <;> simp
theorem stays_step {n : Nat} (hn : n ≤ 4096) {a1 : List law18_Op} (hl : a1.length ≤ 60) {k : Nat} (hk : k < a1.length) {t : St11} {m1 m2 ys : List (List Int)} (H : Kn n k t m1 m2 ys) (go : GoodOp (a1.getD k OP8)) (hp : t.2.2.2.2.2.2.2.2.1.pending.length ≤ 4096) :
    ∃ t', law18_StoreStays_b0 a1 t = some (.inl t') ∧ ∃ m1 m2 ys, Kn n (k + 1) t' m1 m2 ys := by
  obtain ⟨s, has, br, safe, i, S, K, M, d, nst, nen⟩ := t
  obtain ⟨hi, I, hh, hb, hnow, hK, hM⟩ := H
  dsimp only at hi I hh hb hnow hK hM hp
  subst hi hh hb
  have D := do_did hn I go
  have hdo := I.do hn (by omega) go
  generalize doT n d s (a1.getD k OP8) = r at D hdo
  obtain ⟨s', c, d'⟩ := r
  dsimp only at D
  unfold law18_StoreStays_b0
  dsimp only
  rw [if_pos (by omega), if_pos (by omega), Int.toNat_natCast, hdo]
  dsimp only [Option.bind_some]
  rw [if_pos (by omega), if_pos (by omega), w64n (by omega)]
  generalize hO : a1.getD k OP8 = o at D go
  rw [stays_beg0, stays_beg1, stays_app0, stays_syn0, w64 (x := (K.length : Int) + (M.length : Int)) (by omega) (by omega), if_pos (show (0 + M.length) * 24 ≤ 140737488355328 by omega), if_pos (show (M.length + 1) * 24 ≤ 140737488355328 by omega)]
  have hB : Begins o ↔ o.What < 2 ∨ o.What > 7 := Iff.rfl
  cases D with
  | fail h e hc I' hh' =>
    subst e
    rw [if_neg (by omega), decide_eq_false (p := Begins o ∧ c = 0) (fun h => hc h.2), decide_eq_false (p := Begins o ∧ c ≠ 1 ∧ c ≠ 43) (fun h => by have := hB.1 h.1; omega), decide_eq_false (p := (2 ≤ o.What ∧ o.What ≤ 4) ∧ c = 0) (fun h => hc h.2), decide_eq_false (p := o.What = 5 ∧ c = 0) (fun h => hc h.2)]
    simp only [Option.bind_some, Bool.false_eq_true, if_false]
    exact ⟨_, rfl, m1, m2, ys, ⟨rfl, I', rfl, rfl, hnow, hK, by dsimp only; omega⟩⟩
  | app h e hc hb hg I' =>
    subst e hc
    rw [if_neg (by omega), decide_eq_false (p := Begins o ∧ (0 : Int) = 0) (fun h => by have := hB.1 h.1; omega), decide_eq_false (p := Begins o ∧ (0 : Int) ≠ 1 ∧ (0 : Int) ≠ 43) (fun h => by have := hB.1 h.1; omega), decide_eq_true (p := (2 ≤ o.What ∧ o.What ≤ 4) ∧ (0 : Int) = 0) ⟨h, rfl⟩]
    simp only [Option.bind_some, Bool.false_eq_true, if_false, if_true]
    refine ⟨_, rfl, m1, _, ys, ⟨rfl, I', rfl, rfl, fun hs => ?_, hK, by dsimp only; rw [List.length_append, List.length_singleton]; omega⟩⟩
    obtain ⟨h1, h2, h3⟩ := hnow hs
    refine ⟨h1, ?_, h3⟩
    show K ++ (M ++ [o.Entry]) = s.now.Kept ++ (s.now.More ++ [o.Entry])
    rw [← List.append_assoc, h2, List.append_assoc]
  | syn h e hc hb hg I' =>
    subst e hc
    rw [if_neg (by omega), decide_eq_false (p := Begins o ∧ (0 : Int) = 0) (fun h => by have := hB.1 h.1; omega), decide_eq_false (p := Begins o ∧ (0 : Int) ≠ 1 ∧ (0 : Int) ≠ 43) (fun h => by have := hB.1 h.1; omega), decide_eq_false (p := (2 ≤ o.What ∧ o.What ≤ 4) ∧ (0 : Int) = 0) (fun h => by omega), decide_eq_true (p := o.What = 5 ∧ (0 : Int) = 0) ⟨h, rfl⟩]
    simp only [Option.bind_some, Bool.false_eq_true, if_false, if_true]
    refine ⟨_, rfl, _, _, _, ⟨rfl, I', rfl, rfl, fun hs => ?_, hK, by dsimp only; omega⟩⟩
    obtain ⟨h1, h2, h3⟩ := hnow hs
    refine ⟨h1, h2, ?_⟩
    have h4 := congrArg List.length h2
    rw [List.length_append, List.length_append, I.more] at h4
    dsimp only
    omega
  | fus h e hc I' =>
    subst e hc
    rw [if_neg (by omega), decide_eq_false (p := Begins o ∧ (0 : Int) = 0) (fun h => by have := hB.1 h.1; omega), decide_eq_false (p := Begins o ∧ (0 : Int) ≠ 1 ∧ (0 : Int) ≠ 43) (fun h => by have := hB.1 h.1; omega), decide_eq_false (p := (2 ≤ o.What ∧ o.What ≤ 4) ∧ (0 : Int) = 0) (fun h => by omega), decide_eq_false (p := o.What = 5 ∧ (0 : Int) = 0) (fun h => by omega)]
    simp only [Option.bind_some, Bool.false_eq_true, if_false]
    exact ⟨_, rfl, m1, m2, ys, ⟨rfl, I', rfl, rfl, hnow, hK, by dsimp only; omega⟩⟩
  | crash h hc m1' I' hb hg hw =>
    subst hc
    obtain ⟨b1, b2, b3, e1, e2, e3⟩ := stays_crash I I' hw hnow hK (by omega)
    rw [if_pos h, entries_eq I'.g]
    dsimp only [Option.bind_some]
    rw [e1]
    dsimp only [Option.bind_some]
    rw [e2]
    dsimp only [Option.bind_some]
    rw [e3]
    dsimp only [Option.bind_some, store_Store_Has_f]
    rw [if_neg (by simp), stateT_eq I'.g]
    dsimp only [Option.bind_some]
    have hkl := I'.g.kl
    have hml := I'.g.ml
    refine ⟨_, rfl, m1', [], [], ⟨rfl, I', rfl, hb.symm, fun _ => ⟨rfl, List.append_nil _, ?_⟩, ?_, Nat.zero_le _⟩⟩
    · dsimp only
      rw [List.length_append, I'.more, List.append_nil]
    · dsimp only
      rw [List.length_append]; omega
  | no h e I' hc =>
    subst e
    have h0 := hB.1 h
    rw [if_neg (by omega), decide_eq_false (p := Begins o ∧ c = 0) (fun h => by have := h.2; omega), decide_eq_false (p := Begins o ∧ c ≠ 1 ∧ c ≠ 43) (fun h => by have := h.2; omega), decide_eq_false (p := (2 ≤ o.What ∧ o.What ≤ 4) ∧ c = 0) (fun h => by omega), decide_eq_false (p := o.What = 5 ∧ c = 0) (fun h => by omega)]
    simp only [Option.bind_some, Bool.false_eq_true, if_false]
    exact ⟨_, rfl, m1, m2, ys, ⟨rfl, I', rfl, rfl, hnow, hK, by dsimp only; omega⟩⟩
  | brok h hb e hc ys' I' =>
    subst e
    have h0 := hB.1 h
    rw [if_neg (by omega), decide_eq_false (p := Begins o ∧ c = 0) (fun h => by have := h.2; omega), decide_eq_true (p := Begins o ∧ c ≠ 1 ∧ c ≠ 43) ⟨h, by omega, by omega⟩]
    simp only [Option.bind_some, Bool.false_eq_true, if_false, if_true]
    exact ⟨_, rfl, m1, m2, ys', ⟨rfl, I', rfl, rfl, hnow, hK, by dsimp only; omega⟩⟩
  | beg h hb g e hc hg h1 I' =>
    subst e hc
    have h0 := hB.1 h
    have hkl := I'.g.kl
    dsimp only at hkl
    rw [if_neg (by omega), decide_eq_true (p := Begins o ∧ (0 : Int) = 0) ⟨h, rfl⟩]
    simp only [Option.bind_some, if_true]
    refine ⟨_, rfl, [], [], [], ⟨rfl, I', rfl, ?_, fun _ => ⟨rfl, rfl, rfl⟩, ?_, Nat.zero_le _⟩⟩
    · exact hb
    · dsimp only; omega
theorem pure_StoreStays (a0 : Int) (a1 : List law18_Op) (g0 : 0 ≤ a0 ∧ a0 < 256) (g1 : a1.length ≤ maxLen ∧ ∀ y ∈ a1, good_law18_Op y) : law18_StoreStays_f a0 a1 = some true := by
  unfold law18_StoreStays_f
  obtain ⟨n, hn⟩ : ∃ n : Nat, a0 = n := ⟨a0.toNat, by omega⟩
  rw [head18_eq]
  dsimp only [Option.bind_some]
  rw [w64 (x := a0) (by omega) (by omega), hn, new_eq (by omega)]
  dsimp only [Option.bind_some]
  obtain ⟨b, hb, hlen⟩ := great18_eq a1 g1.1 g1.2
  rw [hb]
  dsimp only [Option.bind_some]
  cases b with
  | true => rfl
  | false =>
    have hl := hlen rfl
    have hn4 : n ≤ 4096 := by omega
    obtain ⟨e0, I0⟩ := inv_new n [] []
    rw [if_neg (by simp), open_eq (WFd.new n) hn4, e0]
    dsimp only [Option.bind_some]
    have key : ∃ r, lp (law18_StoreStays_b0 a1) (⟨RG0, false, 0, false, false⟩, false, false, 0, 0, [], [], [], dnew n, [], []) = some r ∧ ∃ x, r = .inl x := by
      refine lp_all (fun k (t : St11) => ∃ m1 m2 ys, Kn n k t m1 m2 ys) _ a1.length (by omega) ⟨[], [], [], ⟨rfl, I0, rfl, rfl, fun h => (by cases h), Nat.zero_le _, Nat.zero_le _⟩⟩ ?_ ?_
      · rintro k t hk ⟨m1, m2, ys, H⟩
        exact stays_step hn4 hl hk H (good8 (g1.2 _ (getD_mem hk OP8))) (H.inv.pend hn4)
      · rintro ⟨s, has, br, safe, i, S, K, M, d, nst, nen⟩ ⟨m1, m2, ys, H⟩
        have hi := H.i
        dsimp only at hi
        subst hi
        exact ⟨_, by unfold law18_StoreStays_b0; dsimp only; rw [if_neg (by omega)], _, rfl⟩
    obtain ⟨r, h1, x, rfl⟩ := key
    rw [h1]; rfl
end Go.Proofs.Ytpmkpiffbdcflaa
