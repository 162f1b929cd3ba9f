/- The statement RegionLacks: plain Lean. -/
import Derived.Test.YtdkdaggpfgajlaaRegL
import Derived.Test.YtdkdaggpfgajlaaReads
import Derived.Test.YtdkdaggpfgajlaaGRegionLacks
set_option linter.unusedVariables false
set_option linter.unusedSimpArgs false
namespace Go.Proofs.Ytdkdaggpfgajlaa
open Go Go.RowKit
theorem base_new (n : Nat) (i : Int) : base (dnew n) i = rdv (dnew n) i := by
  unfold rdv
  rw [show (dnew n).pending = [] from rfl]; rfl
theorem wrs_snoc (a : Int) (x : List Int) : ∀ (xs : List (List Int)) (p : Nat), wrs a p (xs ++ [x]) = wrs a p xs ++ [⟨a + ((p + xs.length : Nat) : Int), Arr.of 64 (x.take 64)⟩]
  | [], p => rfl
  | y :: xs, p => by
    rw [List.cons_append, wrs, wrs_snoc a x xs (p + 1), wrs, List.length_cons, show p + 1 + xs.length = p + (xs.length + 1) by omega]
    rfl
/-- All that was written waits still. -/
structure Wt (gen : Int) (st : List Int) (kept M : List (List Int)) (d : disk_Disk) (xs : List (List Int)) : Prop where
  w : WFd 300 d
  f : d.fuse = -1
  b : ∀ i, base d i = base (dnew 300) i
  p : d.pending = wrs 0 0 xs
  full : Full xs
  len : xs.length = nparts st + (kept.length + M.length)
  le : xs.length ≤ 300
  at_ : ∀ p, p < xs.length → xs.getD p [] = putOf ⟨gen, (p : Int), (nparts st : Int), (kept.length : Int), bodyAt st (kept ++ M) p⟩ ∧ RtP ⟨gen, (p : Int), (nparts st : Int), (kept.length : Int), bodyAt st (kept ++ M) p⟩ ∧ Bytes (bodyAt st (kept ++ M) p)
theorem Wt.put {gen : Int} {st : List Int} {kept M : List (List Int)} {d : disk_Disk} {xs : List (List Int)} (H : Wt gen st kept M d xs) (L : LayOk gen st kept 300) {E : List Int} (he : enOk E) (heb : Bytes E) (hq : nparts st + (kept.length + M.length) < 300) :
    (wr d (0 + ((nparts st + (kept.length + M.length) : Nat) : Int)) (putOf (entAt gen st kept M E))).1 = 0 ∧ Wt gen st kept (M ++ [E]) (wr d (0 + ((nparts st + (kept.length + M.length) : Nat) : Int)) (putOf (entAt gen st kept M E))).2 (xs ++ [putOf (entAt gen st kept M E)]) := by
  have hl := H.len
  have hr := entAt_right (more := M) L he (by omega)
  have hF := entAt_full (more := M) L he heb (by omega)
  have W2 := H.w.wr (0 + ((nparts st + (kept.length + M.length) : Nat) : Int)) (putOf (entAt gen st kept M E))
  have e := wr_ok (d := d) (i := 0 + ((nparts st + (kept.length + M.length) : Nat) : Int)) (b := putOf (entAt gen st kept M E)) (by rw [H.f]; decide) (by rw [hF.1]; rfl) (by rw [H.w.len]; omega)
  refine ⟨by rw [e], W2.1, ?_, fun i => ?_, ?_, ?_, ?_, ?_, fun p hp => ?_⟩
  · rw [e]; show (lower d).fuse = -1; rw [lower_fuse H.w, H.f]; decide
  · rw [e]; exact H.b i
  · rw [e]
    show d.pending ++ _ = _
    rw [wrs_snoc, H.p, hl, Nat.zero_add]
  · intro x hx
    rcases List.mem_append.1 hx with hx | hx
    · exact H.full x hx
    · rw [List.mem_singleton.1 hx]; exact hF
  · rw [List.length_append, List.length_append, List.length_singleton, List.length_singleton]; omega
  · rw [List.length_append, List.length_singleton]; omega
  · rw [List.length_append, List.length_singleton] at hp
    rw [← List.append_assoc]
    by_cases c : p < xs.length
    · rw [List.getD_eq_getElem?_getD, List.getElem?_append_left c, ← List.getD_eq_getElem?_getD, bodyAt_lo (by rw [List.length_append]; omega)]
      exact H.at_ p c
    · obtain rfl : p = xs.length := by omega
      have hb := bodyAt_hi (st := st) (l := kept ++ M) (m := [E]) (j := 0)
      rw [List.length_append, Nat.add_zero, ← hl] at hb
      rw [List.getD_eq_getElem?_getD, List.getElem?_append_right (Nat.le_refl _), Nat.sub_self, hb]
      have e2 : (⟨gen, (xs.length : Int), (nparts st : Int), (kept.length : Int), [E].getD 0 []⟩ : api_Sector) = entAt gen st kept M E := by
        unfold entAt
        rw [hl]; rfl
      rw [e2]
      exact ⟨rfl, hr, heb⟩
theorem lacks_b0 {gen : Int} {st : List Int} {kept more : List (List Int)} (L : LayOk gen st kept 300) (hm : more.length ≤ 9000) (hmb : ∀ e ∈ more, Bytes e) {d : disk_Disk} {xs : List (List Int)} (H : Wt gen st kept [] d xs) :
    ∃ r, lp (law17_RegionLacks_b0 gen st kept more) (0, d, []) = some r ∧ ∃ xs, Wt gen st kept r.2 r.1 xs := by
  refine lp_all (fun k (s : Int × disk_Disk × List (List Int)) => s.1 = (k : Int) ∧ ∃ xs, Wt gen st kept s.2.2 s.2.1 xs) _ more.length (by omega) ⟨rfl, xs, H⟩ ?_ ?_
  · rintro k ⟨x, d, M⟩ hk ⟨hx, xs, H⟩
    dsimp only at hx H
    subst hx
    have hpl : d.pending.length ≤ 300 := by rw [H.p, wrs_len]; exact H.le
    have hM : M.length ≤ 300 := by have := H.len; have := H.le; omega
    have hey := hmb _ (getD_mem hk [])
    generalize hE : more.getD k [] = E at hey
    unfold law17_RegionLacks_b0
    dsimp only
    rw [if_pos (by omega), if_pos (by omega), Int.toNat_natCast, hE, put_eq (by omega) (by dsimp only; omega) hey (by omega), putV_ok L]
    dsimp only [Option.bind_some]
    rw [w64n (by omega)]
    by_cases c1 : enOk E
    · rw [if_neg (not_not_intro c1)]
      by_cases c2 : ((nparts st + (kept.length + M.length) : Nat) : Int) ≥ 300
      · rw [if_pos c2]
        dsimp only
        rw [if_neg (by decide)]
        exact ⟨_, rfl, rfl, xs, H⟩
      · rw [if_neg c2]
        obtain ⟨h0, H2⟩ := H.put L c1 hey (by omega)
        rw [h0, if_pos rfl, if_pos (by omega), if_pos (by omega), if_pos (by omega)]
        exact ⟨_, rfl, rfl, _, H2⟩
    · rw [if_pos c1]
      dsimp only
      rw [if_neg (by decide)]
      exact ⟨_, rfl, rfl, xs, H⟩
  · rintro ⟨x, d, M⟩ ⟨hx, xs, H⟩
    dsimp only at hx H
    subst hx
    exact ⟨_, by unfold law17_RegionLacks_b0; dsimp only; rw [if_neg (by omega)], xs, H⟩
theorem lacks_b1 (a4 : Int) {N : Nat} (hN : N ≤ 300) : ∃ r, lp (law17_RegionLacks_b1 a4 (N : Int)) (List.replicate N false, 0) = some r ∧ r.length = N ∧ ∀ j : Nat, j < N → r.getD j false = decide ((j : Int) ≠ ((IntKind.i64.wrap a4).tmod (N : Int))) := by
  refine lp_all (fun k (s : List Bool × Int) => s.2 = (k : Int) ∧ s.1.length = N ∧ ∀ j : Nat, j < k → s.1.getD j false = decide ((j : Int) ≠ ((IntKind.i64.wrap a4).tmod (N : Int)))) _ N (by omega) ⟨rfl, by simp, fun j hj => absurd hj (Nat.not_lt_zero j)⟩ ?_ ?_
  · rintro k ⟨l, x⟩ hk ⟨hx, hl, hj⟩
    dsimp only at hx hl hj
    subst hx
    refine ⟨(l.set k (decide ((k : Int) ≠ ((IntKind.i64.wrap a4).tmod (N : Int)))), ((k + 1 : Nat) : Int)), ?_, rfl, by simpa using hl, fun j h => ?_⟩
    · unfold law17_RegionLacks_b1
      dsimp only
      rw [if_pos (by omega), if_pos (by omega), Int.toNat_natCast, w64n (by omega)]
    · dsimp only
      rw [getD_set _ _ _ _ _ (by omega)]
      by_cases c : k = j
      · rw [if_pos c, c]
      · rw [if_neg c]; exact hj j (by omega)
  · rintro ⟨l, x⟩ ⟨hx, hl, hj⟩
    dsimp only at hx hl hj
    subst hx
    exact ⟨l, by unfold law17_RegionLacks_b1; dsimp only; rw [if_neg (by omega)], hl, hj⟩
/-- Behind the crash all stands there but one. -/
theorem lacks_view {gen : Int} {st : List Int} {kept M : List (List Int)} {d : disk_Disk} {xs : List (List Int)} (H : Wt gen st kept M d xs) {keep : List Bool} {K : Nat} (hk : ∀ j : Nat, j < xs.length → keep.getD j false = decide ((j : Int) ≠ (K : Int))) {tear : Int} (ht : tear = (K : Int) ∨ tear = -1) (p : Nat) :
    fa (rdv (cra d keep tear)) 0 300 p = if p < xs.length ∧ p ≠ K then some ⟨gen, (p : Int), (nparts st : Int), (kept.length : Int), bodyAt st (kept ++ M) p⟩ else none := by
  have hle := H.le
  have e := rdv_cra H.w keep tear (0 + (p : Int))
  rw [H.p, cr_wrs keep tear 0 _ xs 0 0 _ H.full, H.b] at e
  have hb : (dec (base (dnew 300) (0 + (p : Int))).1).2 = false := by rw [base_new]; exact rdv_new _
  by_cases c : p < xs.length
  · rw [if_pos (by omega), show 0 + (0 + (p : Int) - 0 - ((0 : Nat) : Int)).toNat = p by omega, show (0 + (p : Int) - 0 - ((0 : Nat) : Int)).toNat = p by omega, hk p c] at e
    by_cases c2 : p = K
    · rw [if_neg fun h => h.2 c2]
      by_cases c3 : (p : Int) = tear
      · rw [if_pos c3] at e
        exact fa_err (by rw [e]; decide)
      · rw [if_neg c3, if_neg (by simp [c2])] at e
        exact fa_zero (by rw [e]; exact hb)
    · rw [if_pos ⟨c, c2⟩]
      rw [if_neg (by omega), if_pos (decide_eq_true (by omega))] at e
      obtain ⟨h1, h2, h3⟩ := H.at_ p c
      rw [h1] at e
      exact fa_put e h2 h3 (by omega) (by omega)
  · rw [if_neg fun h => c h.1]
    rw [if_neg (by omega)] at e
    exact fa_zero (by rw [e]; exact hb)
theorem pure_RegionLacks (a0 : Int) (a1 : List Int) (a2 a3 : List (List Int)) (a4 : Int) (a5 : Bool) (g0 : (Lit.int .i64 a0).wf = true) (g1 : a1.length ≤ maxLen ∧ ∀ y ∈ a1, 0 ≤ y ∧ y < 256) (g2 : a2.length ≤ maxLen ∧ ∀ y ∈ a2, y.length ≤ maxLen ∧ ∀ z ∈ y, 0 ≤ z ∧ z < 256) (g3 : a3.length ≤ maxLen ∧ ∀ y ∈ a3, y.length ≤ maxLen ∧ ∀ z ∈ y, 0 ≤ z ∧ z < 256) (g4 : 0 ≤ a4 ∧ a4 < 256) : law17_RegionLacks_f a0 a1 a2 a3 a4 a5 = some true := by
  have hsb : Bytes a1 := g1.2
  have heb : ∀ e ∈ a2, Bytes e := fun e he => (g2.2 e he).2
  have hmb : ∀ e ∈ a3, Bytes e := fun e he => (g3.2 e he).2
  unfold law17_RegionLacks_f
  rw [head17_eq]
  dsimp only [Option.bind_some]
  by_cases c2 : (a1.length : Int) > 3000
  · rw [if_pos c2]
  · rw [if_neg c2]
    obtain ⟨b1, r1, h1⟩ := rows_eq a2 g2.1
    rw [r1]
    dsimp only [Option.bind_some]
    cases b1 with
    | true => rfl
    | false =>
      rw [if_neg (by simp)]
      obtain ⟨b2, r2, h2⟩ := rows_eq a3 g3.1
      rw [r2]
      dsimp only [Option.bind_some]
      cases b2 with
      | true => rfl
      | false =>
        rw [if_neg (by simp), show disk_New_f 300 = some (some (dnew 300)) from new_eq (n := 300) (by decide)]
        dsimp only [Option.bind_some]
        have h4 := (h2 rfl).1
        have W0 := WFd.new 300
        rw [lay_eq (by omega) hsb heb W0 (Nat.zero_le _)]
        dsimp only [Option.bind_some]
        rcases layV_cases (dnew 300) 0 300 a0 a1 a2 with h | h | ⟨L, _⟩
        · rw [h]
          dsimp only
          rw [if_pos (by decide)]
        · rw [h]
          dsimp only
          rw [if_pos (by decide)]
        · have hP := np_le L.s
          have hr := L.r
          rw [lay_fine W0 rfl L hsb heb (by omega) (by omega)]
          dsimp only
          rw [if_neg (by simp)]
          have H0 : Wt a0 a1 a2 [] ⟨(dnew 300).sectors, (dnew 300).torn, (dnew 300).pending ++ wrs 0 0 (secs a0 a1 a2), -1⟩ (secs a0 a1 a2) := by
            have Wf := W0.fine (a := 0) L (by omega) (by omega) (secs a0 a1 a2).length (f := -1) (by omega)
            rw [List.take_length] at Wf
            refine ⟨Wf, rfl, fun i => rfl, rfl, L.full hsb heb, by rw [secs_len, List.length_nil]; rfl, by rw [secs_len]; omega, fun p hp => ?_⟩
            rw [secs_len] at hp
            rw [List.append_nil]
            exact ⟨secs_getD hp, secAt_right L.g L.s L.e L.k hp, bodyAt_bytes hsb heb hp⟩
          have hpl : (⟨(dnew 300).sectors, (dnew 300).torn, (dnew 300).pending ++ wrs 0 0 (secs a0 a1 a2), -1⟩ : disk_Disk).pending.length = nparts a1 + a2.length := by
            show (wrs 0 0 (secs a0 a1 a2)).length = _
            rw [wrs_len, secs_len]
          generalize (⟨(dnew 300).sectors, (dnew 300).torn, (dnew 300).pending ++ wrs 0 0 (secs a0 a1 a2), -1⟩ : disk_Disk) = d0 at H0 hpl ⊢
          obtain ⟨⟨d, M⟩, e1, xs, H⟩ := lacks_b0 L (by omega) hmb H0
          dsimp only at H
          have hlen := H.len
          have hle := H.le
          have hdl : d.pending.length = xs.length := by rw [H.p, wrs_len]
          rw [show disk_Disk_Pending_f d0 = some ((nparts a1 + a2.length : Nat) : Int) by rw [← hpl]; rfl]
          dsimp only [Option.bind_some]
          rw [e1]
          dsimp only [Option.bind_some]
          rw [show disk_Disk_Pending_f d = some (xs.length : Int) by rw [← hdl]; rfl]
          dsimp only [Option.bind_some]
          rw [if_neg (by omega), w64 (by omega) (by omega), if_neg (by omega), if_neg (by omega), if_pos (by omega), if_pos (by omega), Int.toNat_natCast]
          obtain ⟨keep, e2, hkl, hk⟩ := lacks_b1 a4 (N := xs.length) (by omega)
          rw [e2]
          dsimp only [Option.bind_some]
          have ew : IntKind.i64.wrap a4 = a4 := w64 (by omega) (by omega)
          obtain ⟨K, hK, hK2⟩ : ∃ K : Nat, (IntKind.i64.wrap a4).tmod (xs.length : Int) = (K : Int) ∧ K < xs.length := by
            rw [ew, Int.tmod_eq_emod_of_nonneg g4.1]
            have h5 := Int.emod_nonneg a4 (b := (xs.length : Int)) (by omega)
            have h6 := Int.emod_lt_of_pos a4 (b := (xs.length : Int)) (by omega)
            exact ⟨(a4 % (xs.length : Int)).toNat, by omega, by omega⟩
          rw [hK] at hk
          rw [hK]
          have ecr : ∃ tear : Int, (tear = (K : Int) ∨ tear = -1) ∧ ((if a5 = true then ((disk_Disk_Crash_f d keep (K : Int)).bind fun x100 => some x100) else ((disk_Disk_Crash_f d keep (-1)).bind fun x102 => some x102)) : Option (disk_Disk)) = some (cra d keep tear) := by
            cases a5 with
            | true => exact ⟨(K : Int), .inl rfl, by rw [if_pos rfl, crash_eq H.w (by omega)]; rfl⟩
            | false => exact ⟨-1, .inr rfl, by rw [if_neg (by simp), crash_eq H.w (by omega)]; rfl⟩
          obtain ⟨tear, ht, ecr⟩ := ecr
          rw [ecr]
          dsimp only [Option.bind_some]
          have hv := lacks_view H hk ht
          rw [region_read_eq (H.w.cra keep tear) (by omega) (by omega)]
          by_cases c : (K : Int) < ((nparts a1 + a2.length : Nat) : Int)
          · have hoff : rdR (fa (rdv (cra d keep tear)) 0 300) 300 = (RG0, false) := by
              refine rdR_off fun s hs => .inr ⟨K, ?_, lk_off (by rw [hv K, if_neg fun h => h.2 rfl])⟩
              rw [hv 0] at hs
              by_cases c0 : 0 < xs.length ∧ 0 ≠ K
              · rw [if_pos c0] at hs
                rw [← Option.some.inj hs]
                dsimp only; omega
              · rw [if_neg c0] at hs; cases hs
            rw [hoff]
            dsimp only [Option.bind_some]
            rw [if_pos c, if_pos rfl, if_neg (by simp), same_eq _ _ (Nat.zero_le _) (Nat.zero_le _), decide_eq_true rfl]
            rfl
          · have hlt : (M.take (K - (nparts a1 + a2.length))).length = K - (nparts a1 + a2.length) := by rw [List.length_take]; omega
            have RG : Rg (fa (rdv (cra d keep tear)) 0 300) a0 a1 a2 (M.take (K - (nparts a1 + a2.length))) := by
              refine ⟨fun p hp => ?_, ?_⟩
              · rw [List.length_append, hlt] at hp
                refine lk_of ?_
                rw [hv p, if_pos ⟨by omega, by omega⟩]
                congr 2
                have e5 := bodyAt_lo (st := a1) (l := a2 ++ M.take (K - (nparts a1 + a2.length))) (m := M.drop (K - (nparts a1 + a2.length))) (p := p) (by rw [List.length_append, hlt]; omega)
                rw [List.append_assoc, List.take_append_drop] at e5
                exact e5
              · rw [List.length_append, hlt, show nparts a1 + (a2.length + (K - (nparts a1 + a2.length))) = K by omega]
                exact lk_off (by rw [hv K, if_neg fun h => h.2 rfl])
            rw [RG.read L.s (by rw [List.length_append, hlt]; omega) L.r]
            dsimp only [Option.bind_some]
            have ew2 : IntKind.i64.wrap ((K : Int) - ((nparts a1 + a2.length : Nat) : Int)) = ((K - (nparts a1 + a2.length) : Nat) : Int) := by rw [w64 (by omega) (by omega)]; omega
            rw [if_neg c, ew2, if_pos (by omega), if_pos rfl, if_pos rfl, Int.toNat_natCast, show ((0 : Int)).toNat = 0 from rfl, List.drop_zero, same_eq _ _ (by dsimp only; omega) (by dsimp only; omega), decide_eq_true rfl]
            rfl
end Go.Proofs.Ytdkdaggpfgajlaa
