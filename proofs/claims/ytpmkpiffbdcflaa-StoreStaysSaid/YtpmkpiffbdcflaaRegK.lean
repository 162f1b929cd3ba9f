/- Regions, plain: what Lay leaves; what is read of it. -/
import Derived.Test.YtpmkpiffbdcflaaRegG
set_option linter.unusedVariables false
set_option linter.unusedSimpArgs false
namespace Go.Proofs.Ytpmkpiffbdcflaa
open Go Go.RowKit
/-! ### Noughts -/
theorem num0 (n : Nat) : num (List.replicate n 0) = 0 := by
  induction n with
  | zero => rfl
  | succ n ih => rw [List.replicate_succ', num_snoc, ih]; rfl
theorem dec0 (n : Nat) : (dec (List.replicate n 0)).2 = false := by
  unfold dec
  by_cases c : n = 64
  · subst c; decide +kernel
  · rw [if_neg fun h : OkP _ => c (by have := h.1; rwa [List.length_replicate] at this)]
/-! ### Writes, one behind the other -/
def wrs (a : Int) : Nat → List (List Int) → List disk_write
  | _, [] => []
  | p, x :: xs => ⟨a + (p : Int), Arr.of 64 (x.take 64)⟩ :: wrs a (p + 1) xs
theorem wrs_len (a : Int) : ∀ (xs : List (List Int)) (p : Nat), (wrs a p xs).length = xs.length
  | [], _ => rfl
  | x :: xs, p => by rw [wrs, List.length_cons, wrs_len a xs, List.length_cons]
theorem wrs_take (a : Int) : ∀ (xs : List (List Int)) (p m : Nat), (wrs a p xs).take m = wrs a p (xs.take m)
  | [], _, m => by simp [wrs]
  | x :: xs, p, 0 => by simp [wrs]
  | x :: xs, p, m + 1 => by rw [wrs, List.take_succ_cons, List.take_succ_cons, wrs, wrs_take a xs]
theorem wrs_at (a : Int) : ∀ (xs : List (List Int)) (p : Nat) {q : disk_write}, q ∈ wrs a p xs → a + (p : Int) ≤ q.at_ ∧ q.at_ < a + (p : Int) + (xs.length : Int)
  | [], _, _, h => by cases h
  | x :: xs, p, q, h => by
    rw [wrs] at h
    rw [List.length_cons]
    rcases List.mem_cons.1 h with rfl | h
    · dsimp only; omega
    · have := wrs_at a xs (p + 1) h
      omega
/-- Full sectors. -/
def Full (xs : List (List Int)) : Prop := ∀ x ∈ xs, x.length = 64 ∧ Bytes x
theorem Full.tail {x : List Int} {xs : List (List Int)} (h : Full (x :: xs)) : Full xs := fun y hy => h y (List.mem_cons_of_mem _ hy)
theorem Full.take {xs : List (List Int)} (h : Full xs) (m : Nat) : Full (xs.take m) := fun y hy => h y (List.mem_of_mem_take hy)
theorem fold_wrs (a i : Int) : ∀ (xs : List (List Int)) (p : Nat) (v : List Int × Int), Full xs → (wrs a p xs).foldl (upd1 i) v = if a + (p : Int) ≤ i ∧ i < a + (p : Int) + (xs.length : Int) then (xs.getD (i - a - (p : Int)).toNat [], 0) else v
  | [], p, v, _ => by
    rw [wrs, List.foldl_nil, if_neg (by simp only [List.length_nil]; omega)]
  | x :: xs, p, v, h => by
    have hx := h x List.mem_cons_self
    rw [wrs, List.foldl_cons, fold_wrs a i xs (p + 1) _ h.tail]
    unfold upd1
    dsimp only
    rw [arr_of hx.1 hx.2, List.length_cons]
    by_cases c : a + (p : Int) = i
    · rw [if_neg (by omega), if_pos c, if_pos (by omega), show (i - a - (p : Int)).toNat = 0 by omega]; rfl
    · rw [if_neg c]
      by_cases c2 : a + ((p + 1 : Nat) : Int) ≤ i ∧ i < a + ((p + 1 : Nat) : Int) + (xs.length : Int)
      · rw [if_pos c2, if_pos (by omega), show (i - a - (p : Int)).toNat = (i - a - ((p + 1 : Nat) : Int)).toNat + 1 by omega, List.getD_cons_succ]
      · rw [if_neg c2, if_neg (by omega)]
/-- What a run of writes leaves: some of them, one behind the other; all, if it says so. -/
theorem layW_run {n : Nat} {a : Int} : ∀ (xs : List (List Int)) (p : Nat) {d : disk_Disk}, WFd n d → Full xs → 0 ≤ a + (p : Int) → a + (p : Int) + (xs.length : Int) ≤ (n : Int) →
    ∃ m, m ≤ xs.length ∧ (layW a p d xs).2 = ⟨d.sectors, d.torn, d.pending ++ wrs a p (xs.take m), (layW a p d xs).2.fuse⟩ ∧ (((layW a p d xs).1 = 0 ∧ m = xs.length) ∨ ((layW a p d xs).1 = 42 ∧ (layW a p d xs).2.fuse = 0)) ∧ (d.fuse = -1 → (layW a p d xs).1 = 0 ∧ (layW a p d xs).2.fuse = -1)
  | [], p, d, W, _, _, _ => ⟨0, Nat.le_refl _, by show d = _; rw [List.take_nil, wrs, List.append_nil]; rfl, .inl ⟨rfl, rfl⟩, fun h => ⟨rfl, h⟩⟩
  | x :: xs, p, d, W, hF, h0, h1 => by
    have hx := hF x List.mem_cons_self
    rw [List.length_cons] at h1
    rw [layW_cons]
    by_cases c : d.fuse = 0
    · have e : wr d (a + (p : Int)) x = (42, d) := by unfold wr; rw [if_pos c]
      rw [e, if_pos (show ¬ (42 : Int) = 0 by decide)]
      exact ⟨0, Nat.zero_le _, by rw [List.take_zero, wrs, List.append_nil], .inr ⟨rfl, c⟩, fun h => absurd h (by omega)⟩
    · have hl : (x.length : Int) = 64 := by rw [hx.1]; rfl
      have hi : 0 ≤ a + (p : Int) ∧ a + (p : Int) < (d.sectors.length : Int) := by rw [W.len]; omega
      have Ww := W.wr (a + (p : Int)) x
      rw [wr_ok c hl hi] at Ww ⊢
      rw [if_neg (by simp)]
      obtain ⟨m, g1, g2, g3, g4⟩ := layW_run (n := n) (a := a) xs (p + 1) Ww.1 hF.tail (by omega) (by omega)
      refine ⟨m + 1, by rw [List.length_cons]; omega, ?_, ?_, fun h => ?_⟩
      · rw [g2]
        dsimp only
        rw [List.take_succ_cons, wrs, List.append_assoc]; rfl
      · rcases g3 with ⟨g3, rfl⟩ | g3
        · exact .inl ⟨g3, by rw [List.length_cons]⟩
        · exact .inr g3
      · exact g4 (by show (lower d).fuse = -1; rw [lower_fuse W, h]; decide)
theorem rdv_more (s : List (Arr 64)) (t : List (Int × Int)) (ps qs : List disk_write) (f g i : Int) : rdv ⟨s, t, ps ++ qs, f⟩ i = qs.foldl (upd1 i) (rdv ⟨s, t, ps, g⟩ i) := by
  unfold rdv
  dsimp only
  rw [List.foldl_append]; rfl
/-! ### The sectors of a region -/
def secAt (gen : Int) (st : List Int) (ents : List (List Int)) (p : Nat) : api_Sector := ⟨gen, (p : Int), (nparts st : Int), (ents.length : Int), bodyAt st ents p⟩
theorem piece_len {st : List Int} {p : Nat} : (piece st p).length = min (50 * (p + 1)) st.length - 50 * p := by unfold piece; rw [List.length_drop, List.length_take]
theorem secAt_right {gen : Int} (hg : 1 ≤ gen ∧ gen ≤ 281474976710656) {st : List Int} (hs : stOk st) {ents : List (List Int)} (he : ∀ e ∈ ents, enOk e) (hl : ents.length ≤ 1000) {p : Nat} (hp : p < nparts st + ents.length) : RtP (secAt gen st ents p) := by
  have hP : nparts st ≤ 32 ∧ 1 ≤ nparts st := by obtain ⟨h1, h2⟩ := hs; unfold nparts; omega
  refine ⟨hg, ⟨by show 0 ≤ (p : Int); omega, by show (p : Int) ≤ 4096; omega⟩, ⟨by show 1 ≤ (nparts st : Int); omega, by show (nparts st : Int) ≤ 32; omega⟩, ⟨by show 0 ≤ (ents.length : Int); omega, by show (ents.length : Int) ≤ 1000; omega⟩, ?_⟩
  show 1 ≤ (bodyAt st ents p).length ∧ (bodyAt st ents p).length ≤ 50
  unfold bodyAt
  by_cases c : p < nparts st
  · rw [if_pos c, piece_len]
    obtain ⟨h1, h2⟩ := hs
    unfold nparts at c
    omega
  · rw [if_neg c]
    exact he _ (getD_mem (by omega) [])
theorem secs_full {gen : Int} (hg : 1 ≤ gen ∧ gen ≤ 281474976710656) {st : List Int} (hs : stOk st) (hsb : Bytes st) {ents : List (List Int)} (he : ∀ e ∈ ents, enOk e) (heb : ∀ e ∈ ents, Bytes e) (hl : ents.length ≤ 1000) : Full (secs gen st ents) := by
  intro x hx
  obtain ⟨p, hp, rfl⟩ := List.getElem_of_mem hx
  rw [secs_len] at hp
  have e := secs_at (gen := gen) hp
  rw [List.getElem?_eq_getElem (by rw [secs_len]; exact hp)] at e
  have e := Option.some.inj e
  rw [e]
  have hr := secAt_right hg hs he hl hp
  have hb : Bytes (secAt gen st ents p).Body := bodyAt_bytes hsb heb hp
  exact ⟨by show (putOf (secAt gen st ents p)).length = 64; unfold putOf; rw [if_pos hr, enc_len hr.2.2.2.2.2], putOf_bytes hb⟩
theorem secs_getD {gen : Int} {st : List Int} {ents : List (List Int)} {p : Nat} (hp : p < nparts st + ents.length) : (secs gen st ents).getD p [] = putOf (secAt gen st ents p) := by
  rw [List.getD_eq_getElem?_getD, secs_at hp]; rfl
/-! ### What stands at a place -/
theorem fa_put {v : View} {a lim : Int} {p : Nat} {s : api_Sector} (h : v (a + (p : Int)) = (putOf s, 0)) (hr : RtP s) (hb : Bytes s.Body) (hp : (p : Int) < lim) (ha : 0 ≤ a) : fa v a lim p = some s := by
  unfold fa sa
  rw [if_pos ⟨hp, ha⟩, h]
  have e : dec (putOf s) = (s, true) := by unfold putOf; rw [if_pos hr]; exact dec_enc hr hb
  dsimp only
  rw [e, if_pos ⟨rfl, rfl⟩]
theorem fa_same {v v' : View} {a lim : Int} {p : Nat} (h : v (a + (p : Int)) = v' (a + (p : Int))) : fa v a lim p = fa v' a lim p := by
  unfold fa sa
  rw [h]
theorem fa_err {v : View} {a lim : Int} {p : Nat} (h : (v (a + (p : Int))).2 ≠ 0) : fa v a lim p = none := by
  unfold fa sa
  split
  · rw [if_neg fun hh => h hh.1]
  · rfl
theorem fa_zero {v : View} {a lim : Int} {p : Nat} (h : (dec (v (a + (p : Int))).1).2 = false) : fa v a lim p = none := by
  unfold fa sa
  split
  · rw [if_neg (by rw [h]; simp)]
  · rfl
/-! ### Rows -/
def hdr (gen : Int) (st : List Int) (ents : List (List Int)) : api_Sector := ⟨gen, 0, (nparts st : Int), (ents.length : Int), []⟩
theorem lk_like {f : Nat → Option api_Sector} {h h' : api_Sector} (e1 : h.Gen = h'.Gen) (e2 : h.Parts = h'.Parts) (e3 : h.Kept = h'.Kept) (p : Nat) : lk f h p = lk f h' p := by
  unfold lk
  rw [e1, e2, e3]
theorem rows_like {f : Nat → Option api_Sector} {h h' : api_Sector} (e1 : h.Gen = h'.Gen) (e2 : h.Parts = h'.Parts) (e3 : h.Kept = h'.Kept) : ∀ k p, rows f h k p = rows f h' k p
  | 0, _ => rfl
  | k + 1, p => by
    unfold rows
    rw [lk_like e1 e2 e3 p, rows_like e1 e2 e3 k (p + 1)]
theorem rows_of {f : Nat → Option api_Sector} {h : api_Sector} : ∀ (L : List (List Int)) (k p : Nat), (∀ j (hj : j < L.length), lk f h (p + j) = some L[j]) → lk f h (p + L.length) = none → L.length < k → rows f h k p = L
  | _, 0, _, _, _, hk => absurd hk (Nat.not_lt_zero _)
  | [], k + 1, p, _, he, _ => by
    unfold rows
    rw [show lk f h p = none from he]
  | x :: L, k + 1, p, hL, he, hk => by
    unfold rows
    have h0 := hL 0 (by simp)
    rw [Nat.add_zero] at h0
    rw [h0]
    simp only [List.getElem_cons_zero]
    rw [rows_of L k (p + 1) (fun j hj => by
      have := hL (j + 1) (by simpa using hj)
      rw [show p + 1 + j = p + (j + 1) by omega, this]; rfl) (by rw [show p + 1 + L.length = p + (x :: L).length by rw [List.length_cons]; omega]; exact he) (by simpa using hk)]
theorem rows_stop {f : Nat → Option api_Sector} {h : api_Sector} {k p j : Nat} (hn : lk f h (p + j) = none) : (rows f h k p).length ≤ j := by
  rcases Nat.lt_or_ge j (rows f h k p).length with hlt | hge
  · have := rows_at f h k p j hlt
    rw [hn, List.getElem?_eq_getElem hlt] at this
    cases this
  · exact hge
theorem pieces_flat (st : List Int) : ∀ m, ((List.range m).map (piece st)).flatten = st.take (50 * m)
  | 0 => by simp
  | m + 1 => by
    rw [List.range_succ, List.map_append, List.flatten_append, pieces_flat st m]
    simp only [List.map_cons, List.map_nil, List.flatten_cons, List.flatten_nil, List.append_nil]
    unfold piece
    have e : st.take (50 * m) = (st.take (50 * (m + 1))).take (50 * m) := by rw [List.take_take, Nat.min_eq_left (by omega)]
    rw [e, List.take_append_drop]
/-- All rows of a region. -/
def bods (st : List Int) (l : List (List Int)) : List (List Int) := (List.range (nparts st)).map (piece st) ++ l
theorem bods_len (st : List Int) (l : List (List Int)) : (bods st l).length = nparts st + l.length := by simp [bods]
theorem bods_at {st : List Int} {l : List (List Int)} {p : Nat} (hp : p < nparts st + l.length) : (bods st l)[p]? = some (bodyAt st l p) := by
  unfold bods bodyAt
  by_cases c : p < nparts st
  · rw [if_pos c, List.getElem?_append_left (by simpa using c), List.getElem?_map, List.getElem?_range c]; rfl
  · rw [if_neg c, List.getElem?_append_right (by simpa using c), List.length_map, List.length_range, List.getElem?_eq_getElem (by omega), List.getD_eq_getElem?_getD, List.getElem?_eq_getElem (by omega)]; rfl
/-- A region stands there: its sectors, and none behind that goes with them. -/
structure Rg (f : Nat → Option api_Sector) (gen : Int) (st : List Int) (kept more : List (List Int)) : Prop where
  has : ∀ p, p < nparts st + (kept ++ more).length → lk f (hdr gen st kept) p = some (bodyAt st (kept ++ more) p)
  fin : lk f (hdr gen st kept) (nparts st + (kept ++ more).length) = none
theorem Rg.rows {f : Nat → Option api_Sector} {gen : Int} {st : List Int} {kept more : List (List Int)} (R : Rg f gen st kept more) (hl : nparts st + (kept ++ more).length < 5000) : rows f (hdr gen st kept) 5000 0 = bods st (kept ++ more) := by
  refine rows_of _ _ _ (fun j hj => ?_) (by rw [bods_len, Nat.zero_add]; exact R.fin) (by rw [bods_len]; exact hl)
  rw [bods_len] at hj
  rw [Nat.zero_add, R.has j hj]
  have := bods_at hj
  rw [List.getElem?_eq_getElem (by rw [bods_len]; exact hj)] at this
  exact this.symm
theorem Rg.read {f : Nat → Option api_Sector} {gen lim : Int} {st : List Int} {kept more : List (List Int)} (hs : stOk st) (R : Rg f gen st kept more) (hl : nparts st + (kept ++ more).length < 5000) (hm : (nparts st : Int) + (kept.length : Int) ≤ lim) : rdR f lim = (⟨gen, st, kept, more⟩, true) := by
  have hP : nparts st ≤ 32 ∧ 1 ≤ nparts st := by obtain ⟨h1, h2⟩ := hs; unfold nparts; omega
  obtain ⟨s, e, s1, s2, s3, s4, s5⟩ := lk_some (R.has 0 (by omega))
  unfold rdR
  rw [e]
  dsimp only
  rw [s3, s4]
  rw [show (hdr gen st kept).Parts = (nparts st : Int) from rfl, show (hdr gen st kept).Kept = (kept.length : Int) from rfl] at *
  rw [if_neg (by omega), rows_like s2 s3 s4, R.rows hl]
  have hfl : ((bods st (kept ++ more)).take (nparts st)) = (List.range (nparts st)).map (piece st) := by
    unfold bods
    rw [List.take_left' (by simp)]
  have c1 : ¬ (((bods st (kept ++ more)).length : Int) < (nparts st : Int) + (kept.length : Int) ∨ ((bods st (kept ++ more)).take ((nparts st : Int).toNat - 1)).any (fun b => decide (b.length < 50)) = true) := by
    rintro (h | h)
    · rw [bods_len, List.length_append] at h; omega
    · obtain ⟨b, hb1, hb2⟩ := List.any_eq_true.1 h
      obtain ⟨j, hj, rfl⟩ := List.mem_take_iff_getElem.1 hb1
      have hj2 : j < nparts st - 1 := by omega
      have h3 := bods_at (st := st) (l := kept ++ more) (p := j) (by omega)
      rw [List.getElem?_eq_getElem (by omega)] at h3
      have h3 := Option.some.inj h3
      rw [h3] at hb2
      have hb2 := of_decide_eq_true hb2
      unfold bodyAt at hb2
      rw [if_pos (by omega), piece_len] at hb2
      obtain ⟨h1, h2⟩ := hs
      unfold nparts at hj2
      omega
  rw [if_neg c1]
  unfold regOf
  rw [s2, s3, s4]
  rw [show (hdr gen st kept).Gen = gen from rfl]
  rw [Int.toNat_natCast, show ((nparts st : Int) + (kept.length : Int)).toNat = nparts st + kept.length by omega, hfl, pieces_flat, List.take_of_length_le (by obtain ⟨h1, h2⟩ := hs; unfold nparts; omega)]
  have e1 : ((bods st (kept ++ more)).take (nparts st + kept.length)).drop (nparts st) = kept := by
    unfold bods
    rw [← List.append_assoc, List.take_left' (by simp), List.drop_left' (by simp)]
  have e2 : (bods st (kept ++ more)).drop (nparts st + kept.length) = more := by
    unfold bods
    rw [← List.append_assoc, List.drop_left' (by simp)]
  rw [e1, e2]
theorem rdR_off {f : Nat → Option api_Sector} {lim : Int} (h : ∀ s, f 0 = some s → s.Parts + s.Kept > lim ∨ ∃ p : Nat, (p : Int) < s.Parts + s.Kept ∧ lk f s p = none) : rdR f lim = (RG0, false) := by
  unfold rdR
  cases e : f 0 with
  | none => rfl
  | some s =>
    dsimp only
    rcases h s e with h | ⟨p, h1, h2⟩
    · rw [if_pos h]
    · have h3 := rows_stop (f := f) (h := s) (k := 5000) (p := 0) (j := p) (by rw [Nat.zero_add]; exact h2)
      by_cases c : s.Parts + s.Kept > lim
      · rw [if_pos c]
      · rw [if_neg c, if_pos (.inl (by omega))]
end Go.Proofs.Ytpmkpiffbdcflaa
