/- Stores, plain: the document's, beside them. -/
import Derived.Test.YtpmkpiffbdcflaaStoH
import Derived.Test.YtpmkpiffbdcflaaRegJ
import Derived.Test.YtpmkpiffbdcflaaDiskS
import Derived.Test.YtpmkpiffbdcflaaGRL
import Derived.Test.YtpmkpiffbdcflaaGRL
set_option linter.unusedVariables false
set_option linter.unusedSimpArgs false
namespace Go.Proofs.Ytpmkpiffbdcflaa
open Go Go.RowKit
/-- One store beside the other. -/
structure Rs (n : Nat) (s : store_Store) (r : ref18_Store) : Prop where
  R : r.R = s.now
  I : r.Is = s.has_
  h : (r.Half = 0 ∨ r.Half = 1) ∧ s.from_ = r.Half * hf n
  p : s.has_ = true → 1 ≤ hf n
  b : r.Begun = s.begun
  k : r.Broken = s.broken
theorem rhalf_eq {n : Nat} {d : disk_Disk} {r : ref15_Disk} (R : Rf n d r) (W : WFd n d) (hn : n ≤ 4096) : ref18_half_f r = some (hf n) := by
  unfold ref18_half_f
  show some (IntKind.i64.wrap ((r.L.length : Int).tdiv 2)) = _
  rw [R.len, W.len, Int.tdiv_eq_ediv_of_nonneg (by omega), w64 (by omega) (by omega)]
  rfl
theorem hf_1 {n : Nat} {d : disk_Disk} {a : Int} (h : (rdR (fa (rdv d) a (hf n)) (hf n)).2 = true) : 1 ≤ hf n := by
  unfold rdR at h
  cases e : fa (rdv d) a (hf n) 0 with
  | none => rw [e] at h; cases h
  | some s =>
    unfold fa sa at e
    by_cases c : ((0 : Nat) : Int) < hf n ∧ 0 ≤ a
    · omega
    · rw [if_neg c] at e; cases e
theorem ropen_eq {n : Nat} {d : disk_Disk} {r : ref15_Disk} (R : Rf n d r) (W : WFd n d) (hm : d.pending.length ≤ 1000000) (hn : n ≤ 4096) : ∃ q, ref18_Open_f r = some q ∧ Rs n (opn n d) q := by
  unfold ref18_Open_f
  rw [rhalf_eq R W hn]
  dsimp only [Option.bind_some]
  rw [rread17_eq R W hm hn]
  dsimp only [Option.bind_some]
  rw [rread17_eq R W hm hn]
  dsimp only [Option.bind_some]
  have hA := @hf_1 n d 0
  have hB := @hf_1 n d (hf n)
  unfold opn
  generalize rdR (fa (rdv d) 0 (hf n)) (hf n) = A at hA ⊢
  generalize rdR (fa (rdv d) (hf n) (hf n)) (hf n) = B at hB ⊢
  by_cases cA : A.2 = true
  · rw [if_pos cA]
    dsimp only [Option.bind_some]
    by_cases cB : B.2 = true
    · rw [if_pos cB, if_pos rfl]
      dsimp only [Option.bind_some]
      by_cases cG : B.1.Gen > A.1.Gen
      · rw [if_pos (decide_eq_true cG), if_pos ⟨cB, fun _ => cG⟩]
        exact ⟨_, rfl, ⟨rfl, rfl, ⟨.inr rfl, by dsimp only; omega⟩, fun _ => hB cB, rfl, rfl⟩⟩
      · rw [if_neg (by simpa using cG), if_neg (by rintro ⟨_, h⟩; exact cG (h cA)), if_pos cA]
        exact ⟨_, rfl, ⟨rfl, rfl, ⟨.inl rfl, by dsimp only; omega⟩, fun _ => hA cA, rfl, rfl⟩⟩
    · rw [if_neg cB]
      dsimp only [Option.bind_some]
      rw [if_neg (by simp), if_neg fun h : _ ∧ _ => cB h.1, if_pos cA]
      exact ⟨_, rfl, ⟨rfl, rfl, ⟨.inl rfl, by dsimp only; omega⟩, fun _ => hA cA, rfl, rfl⟩⟩
  · rw [if_neg cA]
    dsimp only [Option.bind_some]
    by_cases cB : B.2 = true
    · rw [if_pos cB, if_neg (by simp)]
      dsimp only [Option.bind_some]
      rw [if_pos rfl, if_pos ⟨cB, fun h => absurd h cA⟩]
      exact ⟨_, rfl, ⟨rfl, rfl, ⟨.inr rfl, by dsimp only; omega⟩, fun _ => hB cB, rfl, rfl⟩⟩
    · rw [if_neg cB]
      dsimp only [Option.bind_some]
      rw [if_neg (by simp), if_neg fun h : _ ∧ _ => cB h.1, if_neg cA]
      exact ⟨_, rfl, ⟨rfl, rfl, ⟨.inl rfl, by dsimp only; omega⟩, fun h => (by cases h), rfl, rfl⟩⟩
/-! ### What is current -/
theorem rentries_eq {r : ref18_Store} (g : GdR r.R) : ref18_Store_Entries_f r = some (r.R.Kept ++ r.R.More) := by
  have hk := g.kl
  have hm := g.ml
  unfold ref18_Store_Entries_f
  rw [copy_lp r.R.Kept (by omega) (fun acc k hk hacc => by
      have := (g.ke _ (getD_mem hk [])).1
      unfold ref18_Store_Entries_b0
      dsimp only
      rw [if_pos (by omega), if_pos (by omega), Int.toNat_natCast, if_pos (by omega), if_pos (by omega), w64n (by omega)]) (fun acc => by
      unfold ref18_Store_Entries_b0
      dsimp only
      rw [if_neg (by omega)])]
  dsimp only [Option.bind_some]
  have key : ∃ q, lp (ref18_Store_Entries_b1 r) (r.R.Kept, 0) = some q ∧ q = r.R.Kept ++ r.R.More := by
    refine lp_all (fun k (s : List (List Int) × Int) => s = (r.R.Kept ++ r.R.More.take k, (k : Int))) _ r.R.More.length (by omega) (by simp) ?_ ?_
    · rintro k s hk rfl
      have := (g.me _ (getD_mem hk [])).1
      refine ⟨_, ?_, rfl⟩
      unfold ref18_Store_Entries_b1
      dsimp only
      rw [if_pos (by omega), if_pos (by omega), Int.toNat_natCast, if_pos (by omega), if_pos (by rw [List.length_append, List.length_take]; omega), w64n (by omega), take_snoc hk, List.getD_eq_getElem?_getD, List.getElem?_eq_getElem hk, List.append_assoc]
      rfl
    · rintro s rfl
      exact ⟨_, by unfold ref18_Store_Entries_b1; dsimp only; rw [if_neg (by omega)], by rw [List.take_length]⟩
  obtain ⟨q, h1, rfl⟩ := key
  rw [h1]; rfl
theorem rstateT_eq {r : ref18_Store} (g : GdR r.R) : ref18_Store_State_f r = some r.R.State := by
  have := g.st
  unfold ref18_Store_State_f
  rw [if_pos (by omega)]
theorem rown_eq {l : List (List Int)} (hl : l.length ≤ 5000) (he : ∀ e ∈ l, e.length ≤ 50) : ref18_own_f l = some l := by
  unfold ref18_own_f
  rw [copy_lp l (by omega) (fun acc k hk hacc => by
      have := he _ (getD_mem hk [])
      unfold ref18_own_b0
      dsimp only
      rw [if_pos (by omega), if_pos (by omega), Int.toNat_natCast, if_pos (by omega), if_pos (by omega), w64n (by omega)]) (fun acc => by
      unfold ref18_own_b0
      dsimp only
      rw [if_neg (by omega)])]
  rfl
theorem alike18_eq {n : Nat} (hn : n ≤ 4096) {d : disk_Disk} {q : ref15_Disk} (R : Rf n d q) (W : WFd n d) (hm : d.pending.length ≤ 1000000) {s : store_Store} {r : ref18_Store} (S : Rs n s r) (g : GdR s.now) : law18_alike_f d s q r = some true := by
  have hk := g.kl
  have hml := g.ml
  have key : ∃ z, lp (law18_alike_b0 d q) 0 = some z ∧ z = .inl () := by
    refine lp_all (fun k (s : Int) => s = (k : Int)) _ n (by omega) rfl ?_ ?_
    · rintro k s hk rfl
      refine ⟨((k + 1 : Nat) : Int), ?_, rfl⟩
      unfold law18_alike_b0
      dsimp only [ref15_Disk_Sectors_f, Option.bind_some]
      rw [R.len, W.len, if_pos (by omega), rread_eq R W hm, read_eq W]
      dsimp only [Option.bind_some]
      rw [if_neg (by simp), if_neg (by simp), w64n (by omega)]
    · rintro s rfl
      refine ⟨_, ?_, rfl⟩
      unfold law18_alike_b0
      dsimp only [ref15_Disk_Sectors_f, Option.bind_some]
      rw [R.len, W.len, if_neg (by omega)]
  obtain ⟨z, h1, rfl⟩ := key
  have g2 : GdR r.R := by rw [S.R]; exact g
  unfold law18_alike_f
  rw [h1]
  dsimp only [Option.bind_some, disk_Disk_Pending_f, ref15_Disk_Pending_f, store_Store_Has_f, ref18_Store_Has_f, store_Store_Gen_f, ref18_Store_Gen_f]
  rw [R.plen, if_pos rfl, S.I, if_pos (by simp), S.R, if_pos rfl, stateT_eq g, rstateT_eq g2]
  dsimp only [Option.bind_some]
  rw [S.R, if_pos rfl, entries_eq g, rentries_eq g2]
  dsimp only [Option.bind_some]
  rw [S.R, sameRows_eq _ _ (by rw [List.length_append]; omega), decide_eq_true rfl]
  rfl
/-! ### Calls -/
theorem rright_eq (st : List Int) (ents : List (List Int)) (hl : ents.length ≤ maxLen) : ref18_right_f st ents = some (decide (mayOk st ents)) := by
  have hmx : maxLen ≤ 9223372036854775807 := by decide
  have key : ∃ q, lp (ref18_right_b0 ents) 0 = some q ∧ q = (if ∀ e ∈ ents, enOk e then .inl () else .inr false) := by
    refine lp_run (fun k (s : Int) => s = (k : Int) ∧ ∀ e ∈ ents.take k, enOk e) _ ents.length (by omega) ⟨rfl, by simp⟩ ?_ ?_
    · rintro k s hk ⟨rfl, ht⟩
      have hg : ents.getD k [] = ents[k] := by rw [List.getD_eq_getElem?_getD, List.getElem?_eq_getElem hk]; rfl
      by_cases e : enOk ents[k]
      · refine .inl ⟨((k + 1 : Nat) : Int), ?_, rfl, ?_⟩
        · unfold ref18_right_b0
          dsimp only
          rw [if_pos (by omega), if_pos (by omega), Int.toNat_natCast, rentry_eq, hg]
          dsimp only [Option.bind_some]
          rw [if_pos (decide_eq_true e), w64n (by omega)]
        · rw [take_snoc hk]
          intro x hx
          rcases List.mem_append.1 hx with hx | hx
          · exact ht x hx
          · rw [List.mem_singleton.1 hx]; exact e
      · refine .inr ⟨.inr false, ?_, ?_⟩
        · unfold ref18_right_b0
          dsimp only
          rw [if_pos (by omega), if_pos (by omega), Int.toNat_natCast, rentry_eq, hg]
          dsimp only [Option.bind_some]
          rw [if_neg (by simpa using e)]
        · rw [if_neg fun h => e (h _ (List.getElem_mem hk))]
    · rintro s ⟨rfl, ht⟩
      rw [List.take_length] at ht
      refine ⟨.inl (), ?_, (if_pos ht).symm⟩
      unfold ref18_right_b0
      dsimp only
      rw [if_neg (by omega)]
  obtain ⟨q, h1, rfl⟩ := key
  unfold ref18_right_f
  rw [h1]
  dsimp only [Option.bind_some]
  have hB : mayOk st ents ↔ stOk st ∧ ents.length ≤ 1000 ∧ ∀ e ∈ ents, enOk e := Iff.rfl
  by_cases c : ∀ e ∈ ents, enOk e
  · rw [if_pos c]
    dsimp only
    rw [rstate_eq]
    dsimp only [Option.bind_some]
    by_cases c2 : stOk st
    · rw [if_pos (decide_eq_true c2)]
      dsimp only [Option.bind_some]
      congr 1
      exact decide_eq_decide.2 ⟨fun h => hB.2 ⟨c2, by omega, c⟩, fun h => by have := (hB.1 h).2.1; omega⟩
    · rw [if_neg (by simpa using c2)]
      dsimp only [Option.bind_some]
      congr 1
      exact (decide_eq_false fun h => c2 (hB.1 h).1).symm
  · rw [if_neg c]
    dsimp only
    congr 1
    exact (decide_eq_false fun h => c (hB.1 h).2.2).symm
theorem othr_half {n : Nat} {s : store_Store} {r : ref18_Store} (S : Rs n s r) : ∃ t, ((if r.Is = true then some ((IntKind.i64.wrap (1 - r.Half))) else some 0) : Option (Int)) = some t ∧ (t = 0 ∨ t = 1) ∧ othr n s = t * hf n := by
  obtain ⟨hh, hfr⟩ := S.h
  rw [S.I]
  unfold othr
  cases h : s.has_ with
  | false => exact ⟨0, by rw [if_neg (by simp)], .inl rfl, by rw [if_neg (by simp)]; omega⟩
  | true =>
    have := S.p h
    rw [if_pos rfl]
    rcases hh with hh | hh
    · refine ⟨1, by rw [hh, w64 (by omega) (by omega)]; rfl, .inr rfl, ?_⟩
      rw [hh] at hfr
      rw [if_pos ⟨rfl, by omega⟩]; omega
    · refine ⟨0, by rw [hh, w64 (by omega) (by omega)]; rfl, .inl rfl, ?_⟩
      rw [hh] at hfr
      rw [if_neg fun h => by have := h.2; omega]; omega
theorem rbegin_eq {n : Nat} (hn : n ≤ 4096) {d : disk_Disk} {q : ref15_Disk} (R : Rf n d q) (W : WFd n d) (hp : d.pending.length ≤ 400000) {s : store_Store} {r : ref18_Store} (S : Rs n s r) {st : List Int} {ents : List (List Int)} (hsb : Bytes st) (heb : ∀ e ∈ ents, Bytes e) (hel : ents.length ≤ maxLen) :
    ∃ r' q', ref18_Store_Begin_f r st ents q = some ((begV n s st ents d).1, r', q') ∧ Rs n (begV n s st ents d).2.1 r' ∧ Rf n (begV n s st ents d).2.2 q' := by
  have hh := hf_le hn
  have hg := grt_le n d
  have ho := othr_le hn s
  have hbr : ∀ r' : ref18_Store, r' = ⟨r.R, r.Is, r.Half, r.Begun, true⟩ → Rs n (brk s) r' := by rintro r' rfl; exact ⟨S.R, S.I, S.h, S.p, S.b, rfl⟩
  unfold ref18_Store_Begin_f begV
  rw [S.k]
  by_cases c1 : s.broken = true
  · rw [if_pos c1, if_pos c1]; exact ⟨r, q, rfl, S, R⟩
  · rw [if_neg c1, if_neg c1, rright_eq st ents hel]
    dsimp only [Option.bind_some]
    by_cases c2 : mayOk st ents
    · rw [if_pos (decide_eq_true c2), if_neg (not_not_intro c2), rhalf_eq R W hn]
      dsimp only [Option.bind_some]
      rw [rgreatest_eq R W (by omega) hn]
      dsimp only [Option.bind_some]
      rw [rgreatest_eq R W (by omega) hn]
      dsimp only [Option.bind_some]
      rw [show max (gr (fa (rdv d) 0 (hf n)) 5000) (gr (fa (rdv d) (hf n) (hf n)) 5000) = grt n d from rfl]
      by_cases c3 : grt n d ≥ 281474976710656
      · rw [if_pos c3, if_pos c3]; exact ⟨_, q, rfl, hbr _ rfl, R⟩
      · obtain ⟨t, et, ht, eo⟩ := othr_half S
        rw [if_neg c3, if_neg c3, et]
        dsimp only [Option.bind_some]
        rw [← eo, w64 (x := othr n s) (by omega) (by omega), w64 (x := grt n d + 1) (by omega) (by omega)]
        obtain ⟨q1, e1, R1⟩ := rlay_eq (a := othr n s) (lim := hf n) (gen := grt n d + 1) (by omega) hsb heb R W (by omega)
        rw [e1]
        dsimp only [Option.bind_some]
        have WL := layV_wf W (othr n s) (hf n) (grt n d + 1) st ents
        have hpos : (layV d (othr n s) (hf n) (grt n d + 1) st ents).1 = 0 → 1 ≤ hf n := by
          intro h0
          rcases layV_cases d (othr n s) (hf n) (grt n d + 1) st ents with h | h | ⟨L, _⟩
          · rw [h] at h0; cases h0
          · rw [h] at h0; cases h0
          · have := np_le L.s
            have := L.r
            omega
        generalize layV d (othr n s) (hf n) (grt n d + 1) st ents = L at R1 WL hpos ⊢
        by_cases c4 : L.1 = 0
        · rw [if_pos c4, if_neg (not_not_intro c4)]
          obtain ⟨q2, e2, R2⟩ := rsync_eq R1 WL.1 (by have := WL.2; omega)
          rw [e2]
          dsimp only [Option.bind_some]
          by_cases c5 : (sy L.2).1 ≠ 0
          · rw [if_pos c5, if_pos c5]; exact ⟨_, q2, rfl, hbr _ rfl, R2⟩
          · have hst := c2.1.2
            rw [if_neg c5, if_neg c5, if_pos (by omega), rown_eq (by have := c2.2.1; omega) (fun e he => (c2.2.2 e he).2)]
            dsimp only [Option.bind_some]
            refine ⟨_, q2, rfl, ⟨rfl, rfl, ⟨ht, eo⟩, fun _ => ?_, rfl, ?_⟩, R2⟩
            · exact hpos c4
            · show s.broken = false
              cases h : s.broken with
              | false => rfl
              | true => exact absurd h c1
        · rw [if_neg c4, if_pos c4]
          dsimp only [Option.bind_some]
          rw [if_pos c4]; exact ⟨_, q1, rfl, hbr _ rfl, R1⟩
    · rw [if_neg (by simpa using c2), if_pos c2]; exact ⟨r, q, rfl, S, R⟩
theorem rappend_eq {n : Nat} (hn : n ≤ 4096) {d : disk_Disk} {q : ref15_Disk} (R : Rf n d q) (W : WFd n d) (hp : d.pending.length ≤ 400000) {s : store_Store} {r : ref18_Store} (S : Rs n s r) (g : GdR s.now) {e : List Int} (he : Bytes e) :
    ∃ r' q', ref18_Store_Append_f r e q = some ((appV n s e d).1, r', q') ∧ Rs n (appV n s e d).2.1 r' ∧ Rf n (appV n s e d).2.2 q' := by
  have hh := hf_le hn
  have hm := g.ml
  unfold ref18_Store_Append_f appV
  rw [S.k, S.b]
  by_cases c1 : s.broken = true
  · rw [if_pos c1, if_pos (.inl c1)]; exact ⟨r, q, rfl, S, R⟩
  · rw [if_neg c1]
    by_cases c2 : s.begun = true
    · rw [if_pos c2, if_neg (by rintro (h | h); exact c1 h; exact h c2), rhalf_eq R W hn]
      dsimp only [Option.bind_some]
      have hfr : 0 ≤ s.from_ ∧ s.from_ ≤ 2048 := by
        obtain ⟨h1, h2⟩ := S.h
        rcases h1 with h1 | h1 <;> rw [h1] at h2 <;> omega
      rw [← S.h.2, w64 (x := s.from_) (by omega) (by omega), S.R]
      obtain ⟨q1, e1, R1⟩ := rput_eq (a := s.from_) (lim := hf n) (by omega) (g := s.now) (by omega) he R W (by omega)
      rw [e1]
      dsimp only [Option.bind_some]
      by_cases c3 : (putV d s.from_ (hf n) s.now e).1 = 0
      · have hel : e.length ≤ 50 := by
          refine Classical.byContradiction fun hh => ?_
          have : putV d s.from_ (hf n) s.now e = (1, d) := by
            unfold putV
            rw [if_pos (.inl fun h => hh h.2)]
          rw [this] at c3
          exact absurd c3 (show ¬ (1 : Int) = 0 by decide)
        rw [if_pos c3, if_pos c3, rown_eq (by omega) (fun x hx => (g.me x hx).1)]
        dsimp only [Option.bind_some]
        rw [if_pos (by omega), if_pos (by omega), c3]
        exact ⟨_, q1, rfl, ⟨rfl, S.I, S.h, S.p, rfl, rfl⟩, R1⟩
      · rw [if_neg c3, if_neg c3]; exact ⟨r, q1, rfl, S, R1⟩
    · rw [if_neg c2, if_pos (.inr c2)]; exact ⟨r, q, rfl, S, R⟩
theorem rsyncT_eq {n : Nat} {d : disk_Disk} {q : ref15_Disk} (R : Rf n d q) (W : WFd n d) (hp : d.pending.length ≤ 1000000) {s : store_Store} {r : ref18_Store} (S : Rs n s r) :
    ∃ q', ref18_Store_Sync_f r q = some ((synV s d).1, q') ∧ Rf n (synV s d).2 q' := by
  unfold ref18_Store_Sync_f synV
  rw [S.k, S.b]
  by_cases c1 : s.broken = true
  · rw [if_pos c1, if_pos (.inl c1)]; exact ⟨q, rfl, R⟩
  · rw [if_neg c1]
    by_cases c2 : s.begun = true
    · rw [if_pos c2, if_neg (by rintro (h | h); exact c1 h; exact h c2)]
      obtain ⟨q1, e1, R1⟩ := rsync_eq R W hp
      rw [e1]; exact ⟨q1, rfl, R1⟩
    · rw [if_neg c2, if_pos (.inr c2)]; exact ⟨q, rfl, R⟩
theorem plain18_eq {n : Nat} (hn : n ≤ 4096) {d : disk_Disk} {q : ref15_Disk} (R : Rf n d q) (W : WFd n d) (hp : d.pending.length ≤ 400000) {s : store_Store} {r : ref18_Store} (S : Rs n s r) (g : GdR s.now) {o : law18_Op} (go : GoodOp o) (hel : o.Kept.length ≤ maxLen) :
    ∃ r' q', law18_plain_f q r o = some (r', (doT n d s o).2.1, q') ∧ Rs n (doT n d s o).1 r' ∧ Rf n (doT n d s o).2.2 q' := by
  unfold law18_plain_f doT
  have e0 : (((if o.What = 2 then some true else (((if o.What = 3 then some true else some ((decide (o.What = 4)))) : Option (Bool)).bind fun x5 => some x5)) : Option (Bool))) = some (decide (o.What = 2 ∨ o.What = 3 ∨ o.What = 4)) := by
    by_cases c2 : o.What = 2
    · rw [if_pos c2, decide_eq_true (.inl c2)]
    · rw [if_neg c2]
      by_cases c3 : o.What = 3
      · rw [if_pos c3, decide_eq_true (.inr (.inl c3))]; rfl
      · rw [if_neg c3]
        show some (decide (o.What = 4)) = _
        congr 1
        exact decide_eq_decide.2 (by omega)
  rw [e0]
  dsimp only [Option.bind_some]
  by_cases c1 : o.What = 2 ∨ o.What = 3 ∨ o.What = 4
  · rw [if_pos (decide_eq_true c1), if_pos c1]
    obtain ⟨r', q', e1, S', R'⟩ := rappend_eq hn R W hp S g go.e
    rw [e1]; exact ⟨r', q', rfl, S', R'⟩
  · rw [if_neg (by simpa using c1), if_neg c1]
    by_cases c5 : o.What = 5
    · rw [if_pos c5, if_pos c5]
      obtain ⟨q', e1, R'⟩ := rsyncT_eq R W (by omega) S
      rw [e1]; exact ⟨r, q', rfl, S, R'⟩
    · rw [if_neg c5, if_neg c5]
      by_cases c6 : o.What = 6
      · rw [if_pos c6, if_pos c6]; exact ⟨r, _, rfl, S, R.s, R.p, rfl⟩
      · rw [if_neg c6, if_neg c6]
        by_cases c7 : o.What = 7
        · rw [if_pos c7, if_pos c7]
          obtain ⟨q', e1, R'⟩ := rcrash_eq R W (by omega) o.Keep o.N
          rw [e1]
          dsimp only [Option.bind_some]
          obtain ⟨r', e2, S'⟩ := ropen_eq R' (W.cra _ _) (Nat.zero_le _) hn
          rw [e2]; exact ⟨r', q', rfl, S', R'⟩
        · rw [if_neg c7, if_neg c7]
          obtain ⟨r', q', e1, S', R'⟩ := rbegin_eq hn R W hp S go.s go.k hel
          rw [e1]; exact ⟨r', q', rfl, S', R'⟩
/-! ### What any call keeps -/
structure Wk (n : Nat) (s : store_Store) (d : disk_Disk) : Prop where
  w : WFd n d
  g : GdR s.now
  f : 0 ≤ s.from_ ∧ s.from_ ≤ 2048
theorem wk_open {n : Nat} (hn : n ≤ 4096) {d : disk_Disk} (W : WFd n d) : Wk n (opn n d) d := by
  have hh := hf_le hn
  refine ⟨W, ?_, ?_⟩
  · unfold opn
    split
    · exact good_read W hn _ _
    · split
      · exact good_read W hn _ _
      · exact good0
  · unfold opn
    split
    · exact ⟨hh.1, hh.2.1⟩
    · split <;> exact ⟨by dsimp only; omega, by dsimp only; omega⟩
theorem wk_do {n : Nat} (hn : n ≤ 4096) {s : store_Store} {d : disk_Disk} (H : Wk n s d) {o : law18_Op} (go : GoodOp o) : Wk n (doT n d s o).1 (doT n d s o).2.2 := by
  have hh := hf_le hn
  have ho := othr_le hn s
  unfold doT
  split
  · dsimp only
    have hP := (putV_wf H.w s.from_ (hf n) s.now o.Entry).1
    unfold appV
    split
    · exact H
    · split
      · rename_i c
        refine ⟨hP, ⟨H.g.st, H.g.sb, H.g.kl, ?_, H.g.ke, ?_⟩, H.f⟩
        · have hroom : (nparts s.now.State : Int) + (s.now.Kept.length : Int) + (s.now.More.length : Int) < hf n := by
            unfold putV at c
            split at c
            · cases c
            · split at c
              · cases c
              · omega
          show (s.now.More ++ [o.Entry]).length ≤ 4096
          rw [List.length_append, List.length_singleton]; omega
        · have hok : enOk o.Entry := by
            refine Classical.byContradiction fun hz => ?_
            unfold putV at c
            rw [if_pos (.inl hz)] at c
            cases c
          intro x hx
          rcases List.mem_append.1 hx with hx | hx
          · exact H.g.me x hx
          · rw [List.mem_singleton.1 hx]; exact ⟨hok.2, go.e⟩
      · exact ⟨hP, H.g, H.f⟩
  · split
    · dsimp only
      unfold synV
      split
      · exact H
      · exact ⟨H.w.sy.1, H.g, H.f⟩
    · split
      · exact ⟨H.w.fus go.n, H.g, H.f⟩
      · split
        · exact wk_open hn (H.w.cra _ _)
        · dsimp only
          have h1 := layV_wf H.w (othr n s) (hf n) (grt n d + 1) o.State o.Kept
          unfold begV
          split
          · exact H
          · split
            · exact H
            · rename_i c
              have c := Classical.not_not.1 c
              split
              · exact ⟨H.w, H.g, H.f⟩
              · split
                · exact ⟨h1.1, H.g, H.f⟩
                · split
                  · exact ⟨h1.1.sy.1, H.g, H.f⟩
                  · exact ⟨h1.1.sy.1, ⟨c.1.2, go.s, c.2.1, Nat.zero_le _, fun e he => ⟨(c.2.2 e he).2, go.k e he⟩, fun e he => (by cases he)⟩, ⟨ho.1, ho.2.2⟩⟩
end Go.Proofs.Ytpmkpiffbdcflaa
