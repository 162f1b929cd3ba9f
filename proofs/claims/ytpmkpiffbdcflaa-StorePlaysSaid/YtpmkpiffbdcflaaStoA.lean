/- Stores, plain: what each call answers and leaves. -/
import Derived.Test.YtpmkpiffbdcflaaRegL
import Derived.Test.YtpmkpiffbdcflaaG1
import Derived.Test.YtpmkpiffbdcflaaG1
set_option linter.unusedVariables false
set_option linter.unusedSimpArgs false
namespace Go.Proofs.Ytpmkpiffbdcflaa
open Go Go.RowKit
/-- Half of the sectors. -/
def hf (n : Nat) : Int := ((n / 2 : Nat) : Int)
theorem half_eq {n : Nat} {d : disk_Disk} (W : WFd n d) (hn : n ≤ 4096) : (((disk_Disk_Sectors_f d).bind fun x => some ((IntKind.i64.wrap (x.tdiv 2)))) : Option (Int)) = some (hf n) := by
  show some (IntKind.i64.wrap ((d.sectors.length : Int).tdiv 2)) = _
  rw [W.len, Int.tdiv_eq_ediv_of_nonneg (by omega), w64 (by omega) (by omega)]
  rfl
theorem hf_le {n : Nat} (hn : n ≤ 4096) : 0 ≤ hf n ∧ hf n ≤ 2048 ∧ hf n + hf n ≤ (n : Int) := by unfold hf; omega
theorem cln_eq {x : List Int} (h : x.length ≤ 140737488355328) : slices_Clone_f x = some x := by
  unfold slices_Clone_f
  rw [if_pos (by omega)]
/-! ### A region that is read -/
structure GdR (r : api_Region) : Prop where
  st : r.State.length ≤ 1600
  sb : Bytes r.State
  kl : r.Kept.length ≤ 1000
  ml : r.More.length ≤ 4096
  ke : ∀ e ∈ r.Kept, e.length ≤ 50 ∧ Bytes e
  me : ∀ e ∈ r.More, e.length ≤ 50 ∧ Bytes e
theorem good0 : GdR RG0 := ⟨Nat.zero_le _, fun x hx => (by cases hx), Nat.zero_le _, Nat.zero_le _, fun x hx => (by cases hx), fun x hx => (by cases hx)⟩
theorem rows_mem {f : Nat → Option api_Sector} {h : api_Sector} : ∀ k p b, b ∈ rows f h k p → ∃ q s, f q = some s ∧ s.Body = b
  | 0, p, b, hb => by cases hb
  | k + 1, p, b, hb => by
    unfold rows at hb
    cases hl : lk f h p with
    | none => rw [hl] at hb; cases hb
    | some x =>
      rw [hl] at hb
      rcases List.mem_cons.1 hb with rfl | hb
      · obtain ⟨s, hs, _, _, _, _, h5⟩ := lk_some hl
        exact ⟨p, s, hs, h5⟩
      · exact rows_mem k (p + 1) b hb
theorem bytes_flat : ∀ (l : List (List Int)), (∀ b ∈ l, Bytes b) → Bytes l.flatten
  | [], _ => fun x hx => by cases hx
  | b :: l, h => by
    rw [List.flatten_cons]
    exact bytes_app (h b List.mem_cons_self) (bytes_flat l fun y hy => h y (List.mem_cons_of_mem _ hy))
theorem good_read {n : Nat} {d : disk_Disk} (W : WFd n d) (hn : n ≤ 4096) (a lim : Int) : GdR (rdR (fa (rdv d) a lim) lim).1 := by
  unfold rdR
  cases e : fa (rdv d) a lim 0 with
  | none => exact good0
  | some h =>
    dsimp only
    have hr := (sa_some (rdv_bytes d) e).1
    have hlen := rows_le4096 W hn a lim h
    have hb : ∀ b ∈ rows (fa (rdv d) a lim) h 5000 0, b.length ≤ 50 ∧ Bytes b := by
      intro b hb
      obtain ⟨q, s, hs, rfl⟩ := rows_mem _ _ _ hb
      have := sa_some (rdv_bytes d) hs
      exact ⟨this.1.2.2.2.2.2, this.2⟩
    split
    · exact good0
    · split
      · exact good0
      · generalize rows (fa (rdv d) a lim) h 5000 0 = R at hlen hb
        obtain ⟨_, _, ⟨p1, p2⟩, ⟨q1, q2⟩, _⟩ := hr
        unfold regOf
        refine ⟨?_, ?_, ?_, ?_, ?_, ?_⟩
        · have h3 := flat_len (R.take h.Parts.toNat) fun b hb' => (hb b (List.mem_of_mem_take hb')).1
          have h4 : (R.take h.Parts.toNat).length ≤ 32 := by simp only [List.length_take]; omega
          dsimp only; omega
        · exact bytes_flat _ fun b hb' => (hb b (List.mem_of_mem_take hb')).2
        · simp only [List.length_drop, List.length_take]; omega
        · simp only [List.length_drop]; omega
        · exact fun b hb' => hb b (List.mem_of_mem_take (List.mem_of_mem_drop hb'))
        · exact fun b hb' => hb b (List.mem_of_mem_drop hb')
/-! ### Open -/
def opn (n : Nat) (d : disk_Disk) : store_Store :=
  if (rdR (fa (rdv d) (hf n) (hf n)) (hf n)).2 = true ∧ ((rdR (fa (rdv d) 0 (hf n)) (hf n)).2 = true → (rdR (fa (rdv d) (hf n) (hf n)) (hf n)).1.Gen > (rdR (fa (rdv d) 0 (hf n)) (hf n)).1.Gen) then ⟨(rdR (fa (rdv d) (hf n) (hf n)) (hf n)).1, true, hf n, false, false⟩
  else if (rdR (fa (rdv d) 0 (hf n)) (hf n)).2 = true then ⟨(rdR (fa (rdv d) 0 (hf n)) (hf n)).1, true, 0, false, false⟩ else ⟨RG0, false, 0, false, false⟩
def opA (n : Nat) (d : disk_Disk) : store_Store := if (rdR (fa (rdv d) 0 (hf n)) (hf n)).2 = true then ⟨(rdR (fa (rdv d) 0 (hf n)) (hf n)).1, true, 0, false, false⟩ else ⟨RG0, false, 0, false, false⟩
theorem open_eq {n : Nat} {d : disk_Disk} (W : WFd n d) (hn : n ≤ 4096) : store_Open_f d = some (opn n d) := by
  have hh := hf_le hn
  unfold store_Open_f
  rw [half_eq W hn]
  dsimp only [Option.bind_some]
  have s0 : store_Open_b0 d (hf n) (0, (⟨⟨0, [], [], []⟩, false, 0, false, false⟩ : store_Store)) = some (.inl (1, opA n d)) := by
    unfold store_Open_b0 opA
    dsimp only
    rw [if_pos (by decide), if_pos (by simp), half_eq W hn]
    dsimp only [Option.bind_some]
    rw [show ([0, hf n].getD (0 : Int).toNat 0) = 0 from rfl, region_read_eq W hn (by omega)]
    dsimp only [Option.bind_some]
    rw [show IntKind.i64.wrap ((0 : Int) + 1) = 1 from w64 (by omega) (by omega)]
    by_cases c : (rdR (fa (rdv d) 0 (hf n)) (hf n)).2 = true
    · rw [if_pos c, if_neg (by simp)]
      dsimp only [Option.bind_some]
      rw [if_pos rfl, if_pos c]; rfl
    · rw [if_neg c]
      dsimp only [Option.bind_some]
      rw [if_neg (by simp), if_neg c]; rfl
  have s1 : store_Open_b0 d (hf n) (1, opA n d) = some (.inl (2, opn n d)) := by
    unfold store_Open_b0 opA
    dsimp only
    rw [if_pos (by decide), if_pos (by simp), half_eq W hn]
    dsimp only [Option.bind_some]
    rw [show ([0, hf n].getD (1 : Int).toNat 0) = hf n from rfl, region_read_eq W hn (by omega)]
    dsimp only [Option.bind_some]
    rw [show IntKind.i64.wrap ((1 : Int) + 1) = 2 from w64 (by omega) (by omega)]
    unfold opn
    by_cases cB : (rdR (fa (rdv d) (hf n) (hf n)) (hf n)).2 = true
    · rw [if_pos cB]
      by_cases cA : (rdR (fa (rdv d) 0 (hf n)) (hf n)).2 = true
      · rw [if_pos cA]
        dsimp only
        rw [if_pos rfl]
        dsimp only [Option.bind_some]
        by_cases cG : (rdR (fa (rdv d) (hf n) (hf n)) (hf n)).1.Gen > (rdR (fa (rdv d) 0 (hf n)) (hf n)).1.Gen
        · rw [if_pos (decide_eq_true cG), if_pos ⟨cB, fun _ => cG⟩]; rfl
        · rw [if_neg (by simpa using cG), if_neg fun h => cG (h.2 cA)]; rfl
      · rw [if_neg cA]
        dsimp only
        rw [if_neg (by simp)]
        dsimp only [Option.bind_some]
        rw [if_pos rfl, if_pos ⟨cB, fun h => absurd h cA⟩]; rfl
    · rw [if_neg cB]
      dsimp only [Option.bind_some]
      rw [if_neg (by simp), if_neg fun h : _ ∧ _ => cB h.1]; rfl
  have s2 : store_Open_b0 d (hf n) (2, opn n d) = some (.inr (opn n d)) := by
    unfold store_Open_b0
    dsimp only
    rw [if_neg (by decide)]
  have h3 : lpn (store_Open_b0 d (hf n)) 3 (0, (⟨⟨0, [], [], []⟩, false, 0, false, false⟩ : store_Store)) = some (opn n d) := by
    simp only [lpn, s0, s1, s2]
  rw [lp_of h3 (by omega)]; rfl
/-! ### Rows that are told -/
theorem copy_lp {f : List (List Int) × Int → Option (List (List Int) × Int ⊕ List (List Int))} (l : List (List Int)) (hl : l.length ≤ 9000)
    (hs : ∀ (acc : List (List Int)) (k : Nat), k < l.length → acc.length ≤ 9000 → f (acc, (k : Int)) = some (.inl (acc ++ [l.getD k []], ((k + 1 : Nat) : Int)))) (he : ∀ acc, f (acc, (l.length : Int)) = some (.inr acc)) : lp f ([], 0) = some l := by
  have key : ∃ r, lp f ([], 0) = some r ∧ r = l := by
    refine lp_all (fun k (s : List (List Int) × Int) => s = (l.take k, (k : Int))) _ l.length (by omega) (by simp) ?_ ?_
    · rintro k s hk rfl
      refine ⟨_, hs _ _ hk (by rw [List.length_take]; omega), ?_⟩
      rw [take_snoc hk, List.getD_eq_getElem?_getD, List.getElem?_eq_getElem hk]; rfl
    · rintro s rfl
      exact ⟨_, he _, by rw [List.take_length]⟩
  obtain ⟨r, h1, rfl⟩ := key
  exact h1
theorem entries_eq {s : store_Store} (g : GdR s.now) : store_Store_Entries_f s = some (s.now.Kept ++ s.now.More) := by
  have hk := g.kl
  have hm := g.ml
  unfold store_Store_Entries_f
  rw [copy_lp s.now.Kept (by omega) (fun acc k hk hacc => by
      have := (g.ke _ (getD_mem hk [])).1
      unfold store_Store_Entries_b0
      dsimp only
      rw [if_pos (by omega), if_pos (by omega), Int.toNat_natCast, cln_eq (by omega)]
      dsimp only [Option.bind_some]
      rw [if_pos (by omega), w64n (by omega)]) (fun acc => by
      unfold store_Store_Entries_b0
      dsimp only
      rw [if_neg (by omega)])]
  dsimp only [Option.bind_some]
  rw [copy_lp s.now.More (by omega) (fun acc k hk hacc => by
      have := (g.me _ (getD_mem hk [])).1
      unfold store_Store_Entries_b1
      dsimp only
      rw [if_pos (by omega), if_pos (by omega), Int.toNat_natCast, cln_eq (by omega)]
      dsimp only [Option.bind_some]
      rw [if_pos (by omega), w64n (by omega)]) (fun acc => by
      unfold store_Store_Entries_b1
      dsimp only
      rw [if_neg (by omega)])]
  dsimp only [Option.bind_some]
  rw [if_pos (by omega)]
theorem stateT_eq {s : store_Store} (g : GdR s.now) : store_Store_State_f s = some s.now.State := by
  have := g.st
  unfold store_Store_State_f
  rw [cln_eq (by omega)]; rfl
/-! ### Begin -/
def mayOk (st : List Int) (ents : List (List Int)) : Prop := stOk st ∧ ents.length ≤ 1000 ∧ ∀ e ∈ ents, enOk e
instance (st : List Int) (ents : List (List Int)) : Decidable (mayOk st ents) := inferInstanceAs (Decidable (_ ∧ _))
theorem may_eq {st : List Int} {ents : List (List Int)} (hsb : Bytes st) (heb : ∀ e ∈ ents, Bytes e) : store_may_f st ents = some (decide (mayOk st ents)) := by
  unfold store_may_f
  rw [show disk_New_f 0 = some (some (dnew 0)) from new_eq (n := 0) (by decide)]
  dsimp only [Option.bind_some]
  rw [lay_eq (by omega) hsb heb (WFd.new 0) (Nat.zero_le _)]
  dsimp only [Option.bind_some]
  congr 1
  unfold layV
  by_cases c : mayOk st ents
  · rw [decide_eq_true c, if_neg (by
      rintro (h | h | h | h | h)
      · omega
      · omega
      · exact h c.1
      · have := c.2.1; omega
      · exact h c.2.2), if_pos (by have := np_le c.1; omega)]
    decide
  · rw [decide_eq_false c]
    have h : (1 : Int) < 1 ∨ (1 : Int) > 281474976710656 ∨ ¬ stOk st ∨ (ents.length : Int) > 1000 ∨ ¬ (∀ e ∈ ents, enOk e) := by
      refine Classical.byContradiction fun hh => c ⟨?_, ?_, ?_⟩
      · exact Classical.not_not.1 fun h => hh (.inr (.inr (.inl h)))
      · have := fun h => hh (.inr (.inr (.inr (.inl h)))); omega
      · exact Classical.not_not.1 fun h => hh (.inr (.inr (.inr (.inr h))))
    rw [if_pos h]
    decide
def brk (s : store_Store) : store_Store := ⟨s.now, s.has_, s.from_, s.begun, true⟩
def othr (n : Nat) (s : store_Store) : Int := if s.has_ = true ∧ s.from_ = 0 then hf n else 0
def grt (n : Nat) (d : disk_Disk) : Int := max (gr (fa (rdv d) 0 (hf n)) 5000) (gr (fa (rdv d) (hf n) (hf n)) 5000)
def begV (n : Nat) (s : store_Store) (st : List Int) (ents : List (List Int)) (d : disk_Disk) : Int × store_Store × disk_Disk :=
  if s.broken = true then (43, s, d) else if ¬ mayOk st ents then (1, s, d) else
    if grt n d ≥ 281474976710656 then (5, brk s, d) else
      if (layV d (othr n s) (hf n) (grt n d + 1) st ents).1 ≠ 0 then ((layV d (othr n s) (hf n) (grt n d + 1) st ents).1, brk s, (layV d (othr n s) (hf n) (grt n d + 1) st ents).2) else
        if (sy (layV d (othr n s) (hf n) (grt n d + 1) st ents).2).1 ≠ 0 then ((sy (layV d (othr n s) (hf n) (grt n d + 1) st ents).2).1, brk s, (sy (layV d (othr n s) (hf n) (grt n d + 1) st ents).2).2) else
          (0, ⟨⟨grt n d + 1, st, ents, []⟩, true, othr n s, true, false⟩, (sy (layV d (othr n s) (hf n) (grt n d + 1) st ents).2).2)
theorem othr_le {n : Nat} (hn : n ≤ 4096) (s : store_Store) : 0 ≤ othr n s ∧ othr n s + hf n ≤ (n : Int) ∧ othr n s ≤ 2048 := by
  have := hf_le hn
  unfold othr
  split <;> omega
theorem other_eq {n : Nat} {d : disk_Disk} (W : WFd n d) (hn : n ≤ 4096) (s : store_Store) : store_Store_other_f s d = some (othr n s) := by
  unfold store_Store_other_f othr
  by_cases c : s.has_ = true
  · rw [if_pos c]
    dsimp only [Option.bind_some]
    by_cases c2 : s.from_ = 0
    · rw [if_pos (decide_eq_true c2), half_eq W hn, if_pos ⟨c, c2⟩]; rfl
    · rw [if_neg (by simpa using c2), if_neg fun h => c2 h.2]
  · rw [if_neg c]
    dsimp only [Option.bind_some]
    rw [if_neg (by simp), if_neg fun h => c h.1]
theorem gr_le : ∀ (k : Nat) {f : Nat → Option api_Sector}, (∀ p s, f p = some s → s.Gen ≤ 281474976710656) → 0 ≤ gr f k ∧ gr f k ≤ 281474976710656
  | 0, _, _ => by show 0 ≤ (0 : Int) ∧ (0 : Int) ≤ _; omega
  | k + 1, f, h => by
    have ih := gr_le k h
    show 0 ≤ (match f k with | some s => max (gr f k) s.Gen | none => gr f k) ∧ (match f k with | some s => max (gr f k) s.Gen | none => gr f k) ≤ _
    cases e : f k with
    | none => exact ih
    | some s =>
      have := h k s e
      dsimp only
      exact ⟨Int.le_trans ih.1 (Int.le_max_left _ _), Int.max_le.2 ⟨ih.2, this⟩⟩
theorem grt_le (n : Nat) (d : disk_Disk) : 0 ≤ grt n d ∧ grt n d ≤ 281474976710656 := by
  have h1 := gr_le 5000 (f := fa (rdv d) 0 (hf n)) fun p s hs => (sa_some (rdv_bytes d) hs).1.1.2
  have h2 := gr_le 5000 (f := fa (rdv d) (hf n) (hf n)) fun p s hs => (sa_some (rdv_bytes d) hs).1.1.2
  unfold grt
  exact ⟨Int.le_trans h1.1 (Int.le_max_left _ _), Int.max_le.2 ⟨h1.2, h2.2⟩⟩
theorem layV_wf {n : Nat} {d : disk_Disk} (W : WFd n d) (a lim gen : Int) (st : List Int) (ents : List (List Int)) : WFd n (layV d a lim gen st ents).2 ∧ (layV d a lim gen st ents).2.pending.length ≤ d.pending.length + 1100 := by
  rcases layV_cases d a lim gen st ents with h | h | ⟨L, h⟩
  · rw [h]; exact ⟨W, by dsimp only; omega⟩
  · rw [h]; exact ⟨W, by dsimp only; omega⟩
  · rw [h]
    have h2 := layW_wf a (secs gen st ents) 0 W
    have h3 := secs_len gen st ents
    have h4 := np_le L.s
    have h5 := L.k
    exact ⟨h2.1, by have := h2.2; omega⟩
theorem begin_eq {n : Nat} {d : disk_Disk} (W : WFd n d) (hn : n ≤ 4096) (hp : d.pending.length ≤ 400000) (s : store_Store) {st : List Int} {ents : List (List Int)} (hsb : Bytes st) (heb : ∀ e ∈ ents, Bytes e) : store_Store_Begin_f s st ents d = some (begV n s st ents d) := by
  have hh := hf_le hn
  have ho := othr_le hn s
  have hg := grt_le n d
  unfold store_Store_Begin_f begV
  by_cases c1 : s.broken = true
  · rw [if_pos c1, if_pos c1]
  · rw [if_neg c1, if_neg c1, may_eq hsb heb]
    dsimp only [Option.bind_some]
    by_cases c2 : mayOk st ents
    · rw [if_pos (decide_eq_true c2), if_neg (not_not_intro c2)]
      simp only [half_eq W hn, Option.bind_some]
      rw [greatest_eq W hn (by omega)]
      dsimp only [Option.bind_some]
      rw [greatest_eq W hn (by omega)]
      dsimp only [Option.bind_some]
      rw [show max (gr (fa (rdv d) 0 (hf n)) 5000) (gr (fa (rdv d) (hf n) (hf n)) 5000) = grt n d from rfl]
      by_cases c3 : grt n d ≥ 281474976710656
      · rw [if_pos c3, if_pos c3]; rfl
      · rw [if_neg c3, if_neg c3, other_eq W hn]
        dsimp only [Option.bind_some]
        rw [w64 (x := grt n d + 1) (by omega) (by omega), lay_eq (by omega) hsb heb W (by omega)]
        dsimp only [Option.bind_some]
        have WL := layV_wf W (othr n s) (hf n) (grt n d + 1) st ents
        generalize layV d (othr n s) (hf n) (grt n d + 1) st ents = L at WL ⊢
        by_cases c4 : L.1 ≠ 0
        · rw [if_pos c4, if_pos c4, decide_eq_true c4]; rfl
        · rw [if_neg c4, if_neg c4, sync_eq WL.1 (by have := WL.2; omega)]
          dsimp only [Option.bind_some]
          by_cases c5 : (sy L.2).1 ≠ 0
          · rw [if_pos c5, if_pos c5, decide_eq_true c5]; rfl
          · rw [if_neg c5, if_neg c5, cln_eq (by have := c2.1.2; omega)]
            dsimp only [Option.bind_some]
            rw [copy_lp ents (by have := c2.2.1; omega) (fun acc k hk hacc => by
              have := (c2.2.2 _ (getD_mem hk [])).2
              unfold store_Store_Begin_b0
              dsimp only
              rw [if_pos (by omega), if_pos (by omega), Int.toNat_natCast, cln_eq (by omega)]
              dsimp only [Option.bind_some]
              rw [if_pos (by omega), w64n (by have := c2.2.1; omega)]) (fun acc => by
              unfold store_Store_Begin_b0
              dsimp only
              rw [if_neg (by omega)])]
            rfl
    · rw [if_neg (by simpa using c2), if_pos c2]
/-! ### Append, Sync -/
def addM (s : store_Store) (e : List Int) : store_Store := ⟨⟨s.now.Gen, s.now.State, s.now.Kept, s.now.More ++ [e]⟩, s.has_, s.from_, s.begun, s.broken⟩
def appV (n : Nat) (s : store_Store) (e : List Int) (d : disk_Disk) : Int × store_Store × disk_Disk :=
  if s.broken = true ∨ ¬ s.begun = true then (43, s, d) else
    if (putV d s.from_ (hf n) s.now e).1 = 0 then (0, addM s e, (putV d s.from_ (hf n) s.now e).2) else ((putV d s.from_ (hf n) s.now e).1, s, (putV d s.from_ (hf n) s.now e).2)
def synV (s : store_Store) (d : disk_Disk) : Int × disk_Disk := if s.broken = true ∨ ¬ s.begun = true then (43, d) else sy d
theorem append_eq {n : Nat} {d : disk_Disk} (W : WFd n d) (hn : n ≤ 4096) (hp : d.pending.length ≤ 400000) {s : store_Store} (g : GdR s.now) (hfr : 0 ≤ s.from_ ∧ s.from_ ≤ 2048) {e : List Int} (he : Bytes e) : store_Store_Append_f s e d = some (appV n s e d) := by
  have hm := g.ml
  unfold store_Store_Append_f appV
  by_cases c1 : s.broken = true
  · rw [if_pos c1, if_pos (.inl c1)]; rfl
  · rw [if_neg c1]
    by_cases c2 : s.begun = true
    · rw [if_pos c2, if_neg (by rintro (h | h); exact c1 h; exact h c2), half_eq W hn]
      dsimp only [Option.bind_some]
      rw [put_eq (by omega) (by omega) he (by omega)]
      dsimp only [Option.bind_some]
      by_cases c3 : (putV d s.from_ (hf n) s.now e).1 = 0
      · have hel : e.length ≤ 50 := by
          refine Classical.byContradiction fun hh => ?_
          have : putV d s.from_ (hf n) s.now e = (1, d) := by
            unfold putV
            rw [if_pos (.inl fun h => hh h.2)]
          rw [this] at c3
          exact absurd c3 (show ¬ (1 : Int) = 0 by decide)
        rw [if_pos c3, if_pos c3, cln_eq (by omega)]
        dsimp only [Option.bind_some]
        rw [if_pos (by omega), c3]; rfl
      · rw [if_neg c3, if_neg c3]; rfl
    · rw [if_neg c2, if_pos (.inr c2)]; rfl
theorem syncT_eq {n : Nat} {d : disk_Disk} (W : WFd n d) (hp : d.pending.length ≤ 1000000) (s : store_Store) : store_Store_Sync_f s d = some (synV s d) := by
  unfold store_Store_Sync_f synV
  by_cases c1 : s.broken = true
  · rw [if_pos c1, if_pos (.inl c1)]; rfl
  · rw [if_neg c1]
    by_cases c2 : s.begun = true
    · rw [if_pos c2, if_neg (by rintro (h | h); exact c1 h; exact h c2), sync_eq W hp]; rfl
    · rw [if_neg c2, if_pos (.inr c2)]; rfl
/-! ### One call -/
def doT (n : Nat) (d : disk_Disk) (s : store_Store) (o : law18_Op) : store_Store × Int × disk_Disk :=
  if o.What = 2 ∨ o.What = 3 ∨ o.What = 4 then ((appV n s o.Entry d).2.1, (appV n s o.Entry d).1, (appV n s o.Entry d).2.2) else
    if o.What = 5 then (s, (synV s d).1, (synV s d).2) else if o.What = 6 then (s, 0, fus d o.N) else
      if o.What = 7 then (opn n (cra d o.Keep o.N), 0, cra d o.Keep o.N) else ((begV n s o.State o.Kept d).2.1, (begV n s o.State o.Kept d).1, (begV n s o.State o.Kept d).2.2)
structure GoodOp (o : law18_Op) : Prop where
  s : Bytes o.State
  k : ∀ e ∈ o.Kept, Bytes e
  e : Bytes o.Entry
  n : o.N < 9223372036854775808
theorem doT_eq {n : Nat} {d : disk_Disk} (W : WFd n d) (hn : n ≤ 4096) (hp : d.pending.length ≤ 400000) {s : store_Store} (g : GdR s.now) (hfr : 0 ≤ s.from_ ∧ s.from_ ≤ 2048) {o : law18_Op} (go : GoodOp o) : law18_do_f d s o = some (doT n d s o) := by
  unfold law18_do_f doT
  have e0 : (((if o.What = 2 then some true else (((if o.What = 3 then some true else some ((decide (o.What = 4)))) : Option (Bool)).bind fun x5 => some x5)) : Option (Bool))) = some (decide (o.What = 2 ∨ o.What = 3 ∨ o.What = 4)) := by
    by_cases c2 : o.What = 2
    · rw [if_pos c2, decide_eq_true (.inl c2)]
    · rw [if_neg c2]
      by_cases c3 : o.What = 3
      · rw [if_pos c3, decide_eq_true (.inr (.inl c3))]; rfl
      · rw [if_neg c3]
        show some (decide (o.What = 4)) = _
        congr 1
        exact decide_eq_decide.2 (by omega)
  rw [e0]
  dsimp only [Option.bind_some]
  by_cases c1 : o.What = 2 ∨ o.What = 3 ∨ o.What = 4
  · rw [if_pos (decide_eq_true c1), if_pos c1, append_eq W hn hp g hfr go.e]; rfl
  · rw [if_neg (by simpa using c1), if_neg c1]
    by_cases c5 : o.What = 5
    · rw [if_pos c5, if_pos c5, syncT_eq W (by omega)]; rfl
    · rw [if_neg c5, if_neg c5]
      by_cases c6 : o.What = 6
      · rw [if_pos c6, if_pos c6]; rfl
      · rw [if_neg c6, if_neg c6]
        by_cases c7 : o.What = 7
        · rw [if_pos c7, if_pos c7, crash_eq W (by omega)]
          dsimp only [Option.bind_some]
          rw [open_eq (W.cra _ _) hn]; rfl
        · rw [if_neg c7, if_neg c7, begin_eq W hn hp s go.s go.k]; rfl
end Go.Proofs.Ytpmkpiffbdcflaa
