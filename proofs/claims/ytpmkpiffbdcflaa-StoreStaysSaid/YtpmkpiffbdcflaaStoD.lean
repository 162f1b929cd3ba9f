/- Stores, plain: each call keeps what holds. -/
import Derived.Test.YtpmkpiffbdcflaaStoC
set_option linter.unusedVariables false
set_option linter.unusedSimpArgs false
namespace Go.Proofs.Ytpmkpiffbdcflaa
open Go Go.RowKit
/-! ### Open -/
theorem opn_of {n : Nat} {d : disk_Disk} {a b : Int} {r : api_Region} (hab : (a = 0 ∧ b = hf n) ∨ (a = hf n ∧ b = 0)) (hA : rdR (fa (rdv d) a (hf n)) (hf n) = (r, true)) (hB : (rdR (fa (rdv d) b (hf n)) (hf n)).2 = true → (rdR (fa (rdv d) b (hf n)) (hf n)).1.Gen < r.Gen) : opn n d = ⟨r, true, a, false, false⟩ := by
  unfold opn
  rcases hab with ⟨rfl, rfl⟩ | ⟨rfl, rfl⟩
  · rw [hA]
    rw [if_neg (by
      rintro ⟨h1, h2⟩
      have h3 := hB h1
      have h4 := h2 rfl
      dsimp only at h4
      omega), if_pos rfl]
  · rw [hA]
    rw [if_pos ⟨rfl, fun h => hB h⟩]
theorem opn_no {n : Nat} {d : disk_Disk} (hA : (rdR (fa (rdv d) 0 (hf n)) (hf n)).2 = false) (hB : (rdR (fa (rdv d) (hf n) (hf n)) (hf n)).2 = false) : opn n d = ⟨RG0, false, 0, false, false⟩ := by
  unfold opn
  rw [if_neg (by rw [hB]; rintro ⟨h, _⟩; cases h), if_neg (by rw [hA]; simp)]
theorem hf_valid {n : Nat} {d : disk_Disk} {a : Int} (h : (rdR (fa (rdv d) a (hf n)) (hf n)).2 = true) : 1 ≤ hf n := by
  obtain ⟨x, hx, h4, _⟩ := (rdR_valid fun s hs => fa_right (rdv_bytes d) hs).1 h
  have := fa_right (rdv_bytes d) hx
  have h5 := this.2.2.1
  have h6 := this.2.2.2.1
  omega
theorem inv_has {n : Nat} (hn : n ≤ 4096) {d : disk_Disk} (W : WFd n d) (hp : d.pending = []) {a b : Int} {r : api_Region} (hab : (a = 0 ∧ b = hf n) ∨ (a = hf n ∧ b = 0)) (hA : rdR (fa (rdv d) a (hf n)) (hf n) = (r, true)) (hB : (rdR (fa (rdv d) b (hf n)) (hf n)).2 = true → (rdR (fa (rdv d) b (hf n)) (hf n)).1.Gen < r.Gen) (nst : List Int) (nen : List (List Int)) :
    Inv n ⟨r, true, a, false, false⟩ d r.More [] [] nst nen := by
  have hpos : 1 ≤ hf n := hf_valid (a := a) (by rw [hA])
  have hgd := good_read W hn a (hf n)
  rw [hA] at hgd
  have ho : othr n ⟨r, true, a, false, false⟩ = b := by
    unfold othr
    rcases hab with ⟨rfl, rfl⟩ | ⟨rfl, rfl⟩
    · exact if_pos ⟨rfl, rfl⟩
    · exact if_neg fun h => by have := h.2; dsimp only at this; omega
  rw [rdv_nil hp] at hA hB
  refine ⟨W, hgd, (by rcases hab with h | h; exact .inl h.1; exact .inr h.1), (List.append_nil _).symm, by rw [hp]; rfl, fun _ => .inr ⟨rfl, rfl, hA⟩, fun h => (by cases h), fun h => ?_, .inl rfl⟩
  rw [ho] at h ⊢
  exact ⟨rfl, hB h⟩
theorem inv_no {n : Nat} {d : disk_Disk} (W : WFd n d) (hp : d.pending = []) (hA : (rdR (fa (rdv d) 0 (hf n)) (hf n)).2 = false) (hB : (rdR (fa (rdv d) (hf n) (hf n)) (hf n)).2 = false) (nst : List Int) (nen : List (List Int)) :
    Inv n ⟨RG0, false, 0, false, false⟩ d [] [] [] nst nen := by
  rw [rdv_nil hp] at hA hB
  refine ⟨W, good0, .inl rfl, rfl, by rw [hp]; rfl, fun h => (by cases h), fun _ => ⟨rfl, rfl, rfl, rfl, hB⟩, fun h => ?_, .inl rfl⟩
  have ho : othr n ⟨RG0, false, 0, false, false⟩ = 0 := if_neg fun h => by cases h.1
  rw [ho, hA] at h
  cases h
/-- A new disk. -/
theorem inv_new (n : Nat) (nst : List Int) (nen : List (List Int)) : opn n (dnew n) = ⟨RG0, false, 0, false, false⟩ ∧ Inv n ⟨RG0, false, 0, false, false⟩ (dnew n) [] [] [] nst nen := by
  have hA : (rdR (fa (rdv (dnew n)) 0 (hf n)) (hf n)).2 = false := by rw [rdR_new]
  have hB : (rdR (fa (rdv (dnew n)) (hf n) (hf n)) (hf n)).2 = false := by rw [rdR_new]
  exact ⟨opn_no hA hB, inv_no (WFd.new n) rfl hA hB nst nen⟩
/-! ### A crash -/
theorem crash_step {n : Nat} (hn : n ≤ 4096) {s : store_Store} {d : disk_Disk} {m1 m2 ys : List (List Int)} {nst : List Int} {nen : List (List Int)} (I : Inv n s d m1 m2 ys nst nen) (keep : List Bool) (tear : Int) (nst' : List Int) (nen' : List (List Int)) :
    ∃ s' m1', opn n (cra d keep tear) = s' ∧ Inv n s' (cra d keep tear) m1' [] [] nst' nen' ∧ s'.broken = false ∧ s'.begun = false ∧
      ((s.has_ = true ∧ s'.has_ = true ∧ s'.now.Gen = s.now.Gen ∧ s'.now.State = s.now.State ∧ s'.now.Kept = s.now.Kept ∧ ∃ j, j ≤ m2.length ∧ s'.now.More = m1 ++ m2.take j) ∨
       (s.broken = true ∧ s'.has_ = true ∧ (s.has_ = true → s.now.Gen < s'.now.Gen) ∧ s'.now.State = nst ∧ s'.now.Kept = nen ∧ s'.now.More = []) ∨
       (s.has_ = false ∧ s'.has_ = false ∧ s'.now = RG0)) := by
  have W' := I.w.cra keep tear
  have hp' : (cra d keep tear).pending = [] := rfl
  have ho := crash_oth hn I keep tear
  cases h : s.has_ with
  | true =>
    obtain ⟨j, hj, hc⟩ := crash_cur hn I h keep tear
    have hap := apart I h
    rcases ho with ⟨hb, g, hg, L, hfr⟩ | ho
    · have hab : (othr n s = 0 ∧ s.from_ = hf n) ∨ (othr n s = hf n ∧ s.from_ = 0) := by rcases hap with ⟨h1, h2⟩ | ⟨h1, h2⟩; exact .inr ⟨h2, h1⟩; exact .inl ⟨h2, h1⟩
      have hlt : (rdR (fa (rdv (cra d keep tear)) s.from_ (hf n)) (hf n)).2 = true → (rdR (fa (rdv (cra d keep tear)) s.from_ (hf n)) (hf n)).1.Gen < (⟨g, nst, nen, []⟩ : api_Region).Gen := fun _ => by rw [hc]; exact hg h
      exact ⟨_, _, opn_of hab hfr hlt, inv_has hn W' hp' hab hfr hlt nst' nen', rfl, rfl, .inr (.inl ⟨hb, rfl, fun _ => hg h, rfl, rfl, rfl⟩)⟩
    · have hlt : (rdR (fa (rdv (cra d keep tear)) (othr n s) (hf n)) (hf n)).2 = true → (rdR (fa (rdv (cra d keep tear)) (othr n s) (hf n)) (hf n)).1.Gen < (⟨s.now.Gen, s.now.State, s.now.Kept, m1 ++ m2.take j⟩ : api_Region).Gen := fun h => (ho h).2
      exact ⟨_, _, opn_of hap hc hlt, inv_has hn W' hp' hap hc hlt nst' nen', rfl, rfl, .inl ⟨rfl, rfl, rfl, rfl, rfl, j, hj, rfl⟩⟩
  | false =>
    obtain ⟨_, _, _, hm2, hB0⟩ := I.no h
    have hoth : othr n s = 0 := if_neg fun h2 => by rw [h] at h2; cases h2.1
    have hh := hf_le hn
    have hsame : fa (rdv (cra d keep tear)) (hf n) (hf n) = fa (base d) (hf n) (hf n) := by
      funext p
      by_cases c : (p : Int) < hf n
      · obtain ⟨v, k, hv, e⟩ := crash_at hn I keep tear (hf n + (p : Int))
        rw [cr_out keep tear (othr n s) _ 0 k v I.fullY (by
          unfold In
          rcases I.lenY with hy | hy
          · rw [hy, List.length_nil]; omega
          · rw [hoth]; omega)] at e
        rcases hv with rfl | ⟨hin, _⟩
        · exact fa_same e
        · exfalso
          unfold In at hin
          rw [hm2, List.length_nil] at hin
          omega
      · unfold fa sa
        rw [if_neg fun h => c h.1, if_neg fun h => c h.1]
    have hB : (rdR (fa (rdv (cra d keep tear)) (hf n) (hf n)) (hf n)).2 = false := by rw [hsame]; exact hB0
    rw [hoth] at ho
    rcases ho with ⟨hb, g, hg, L, hfr⟩ | ho
    · have hlt : (rdR (fa (rdv (cra d keep tear)) (hf n) (hf n)) (hf n)).2 = true → (rdR (fa (rdv (cra d keep tear)) (hf n) (hf n)) (hf n)).1.Gen < (⟨g, nst, nen, []⟩ : api_Region).Gen := fun h => by rw [hB] at h; cases h
      exact ⟨_, _, opn_of (.inl ⟨rfl, rfl⟩) hfr hlt, inv_has hn W' hp' (.inl ⟨rfl, rfl⟩) hfr hlt nst' nen', rfl, rfl, .inr (.inl ⟨hb, rfl, fun h => (by cases h), rfl, rfl, rfl⟩)⟩
    · have hA : (rdR (fa (rdv (cra d keep tear)) 0 (hf n)) (hf n)).2 = false := by
        cases hv : (rdR (fa (rdv (cra d keep tear)) 0 (hf n)) (hf n)).2 with
        | false => rfl
        | true => have := (ho hv).1; rw [h] at this; cases this
      exact ⟨_, _, opn_no hA hB, inv_no W' hp' hA hB nst' nen', rfl, rfl, .inr (.inr ⟨rfl, rfl, rfl⟩)⟩
/-! ### Where nothing is broken -/
theorem Inv.noY {n : Nat} {s : store_Store} {d : disk_Disk} {m1 m2 ys : List (List Int)} {nst : List Int} {nen : List (List Int)} (I : Inv n s d m1 m2 ys nst nen) (hb : s.broken = false) : ys = [] := by
  rcases I.br with h | ⟨h, _⟩
  · exact h
  · rw [hb] at h; cases h
theorem Inv.rdv {n : Nat} (hn : n ≤ 4096) {s : store_Store} {d : disk_Disk} {m1 m2 ys : List (List Int)} {nst : List Int} {nen : List (List Int)} (I : Inv n s d m1 m2 ys nst nen) (hb : s.broken = false) (i : Int) :
    Go.Proofs.Ytpmkpiffbdcflaa.rdv d i = if In s.from_ (pl s m1) m2.length i then ((enS s.now.Gen s.now.State s.now.Kept (pl s m1) m2).getD (i - s.from_ - (pl s m1 : Int)).toNat [], 0) else base d i := by
  have hy := I.noY hb
  unfold Go.Proofs.Ytpmkpiffbdcflaa.rdv
  rw [I.p, hy, wrs, List.append_nil, fold_wrs _ _ _ _ _ (I.fullE hn), enS_len]
  by_cases c : In s.from_ (pl s m1) m2.length i
  · rw [if_pos c]; exact if_pos c
  · rw [if_neg c]; exact if_neg c
theorem Inv.rdv_oth {n : Nat} (hn : n ≤ 4096) {s : store_Store} {d : disk_Disk} {m1 m2 ys : List (List Int)} {nst : List Int} {nen : List (List Int)} (I : Inv n s d m1 m2 ys nst nen) (hb : s.broken = false) : fa (Go.Proofs.Ytpmkpiffbdcflaa.rdv d) (othr n s) (hf n) = fa (base d) (othr n s) (hf n) := by
  have hh := hf_le hn
  funext p
  by_cases c : (p : Int) < hf n
  · refine fa_same ?_
    rw [I.rdv hn hb, if_neg]
    unfold In
    cases h : s.has_ with
    | true =>
      rcases I.cur h with ⟨_, L, _, hok, hfit⟩ | ⟨_, h2, _⟩
      · rcases apart I h with ⟨h1, h2⟩ | ⟨h1, h2⟩ <;> rw [h1, h2] <;> omega
      · rw [h2, List.length_nil]; omega
    | false =>
      obtain ⟨_, _, _, h2, _⟩ := I.no h
      rw [h2, List.length_nil]; omega
  · unfold fa sa
    rw [if_neg fun h => c h.1, if_neg fun h => c h.1]
/-- The generation of the current one is none above the greatest. -/
theorem Inv.gen_le {n : Nat} (hn : n ≤ 4096) {s : store_Store} {d : disk_Disk} {m1 m2 ys : List (List Int)} {nst : List Int} {nen : List (List Int)} (I : Inv n s d m1 m2 ys nst nen) (hb : s.broken = false) (h : s.has_ = true) : s.now.Gen ≤ grt n d := by
  have key : ∃ x, fa (base d) s.from_ (hf n) 0 = some x ∧ x.Gen = s.now.Gen ∧ ¬ In s.from_ (pl s m1) m2.length (s.from_ + ((0 : Nat) : Int)) := by
    rcases I.cur h with ⟨_, L, R, hok, hfit⟩ | ⟨_, h2, h3⟩
    · have hP := np_le L.s
      obtain ⟨x, hx, _, hg, _⟩ := lk_some (R.has 0 (by omega))
      refine ⟨x, hx, hg, ?_⟩
      unfold In pl
      omega
    · obtain ⟨x, hx, hg⟩ := rdR_gen (f := fa (base d) s.from_ (hf n)) (lim := hf n) (by rw [h3])
      rw [h3] at hg
      refine ⟨x, hx, hg.symm, ?_⟩
      unfold In
      rw [h2, List.length_nil]; omega
  obtain ⟨x, hx, hg, hin⟩ := key
  have e : fa (Go.Proofs.Ytpmkpiffbdcflaa.rdv d) s.from_ (hf n) 0 = some x := by
    rw [← hx]
    exact fa_same (by rw [I.rdv hn hb, if_neg hin])
  rw [← hg]
  exact grt_ge I.w hn I.fr e
/-! ### Begin -/
theorem layV_may {d : disk_Disk} {a lim g : Int} {st : List Int} {ents : List (List Int)} (hm : mayOk st ents) (hg : 1 ≤ g ∧ g ≤ 281474976710656) : layV d a lim g st ents = (5, d) ∨ (LayOk g st ents lim ∧ layV d a lim g st ents = layW a 0 d (secs g st ents)) := by
  by_cases c : (nparts st : Int) + (ents.length : Int) ≤ lim
  · have L : LayOk g st ents lim := ⟨hg, hm.1, hm.2.1, hm.2.2, c⟩
    exact .inr ⟨L, layV_ok L⟩
  · left
    unfold layV
    rw [if_neg (by
      rintro (h | h | h | h | h)
      · omega
      · omega
      · exact h hm.1
      · have := hm.2.1; omega
      · exact h hm.2.2), if_pos (by omega)]
theorem beg_step {n : Nat} (hn : n ≤ 4096) {s : store_Store} {d : disk_Disk} {m1 m2 ys : List (List Int)} {nst : List Int} {nen : List (List Int)} (I : Inv n s d m1 m2 ys nst nen) (hb : s.broken = false) {st : List Int} {ents : List (List Int)} (hsb : Bytes st) (heb : ∀ e ∈ ents, Bytes e) :
    (begV n s st ents d = (1, s, d)) ∨
    (∃ c d', begV n s st ents d = (c, brk s, d') ∧ (c = 5 ∨ c = 42) ∧ ∃ ys', Inv n (brk s) d' m1 m2 ys' st ents) ∨
    (∃ g d', begV n s st ents d = (0, ⟨⟨g, st, ents, []⟩, true, othr n s, true, false⟩, d') ∧ (s.has_ = true → s.now.Gen < g) ∧ Inv n ⟨⟨g, st, ents, []⟩, true, othr n s, true, false⟩ d' [] [] [] st ents) := by
  have hh := hf_le hn
  have hy := I.noY hb
  subst hy
  have ho := othr_le hn s
  have hg := grt_le n d
  have hpd : d.pending = wrs s.from_ (pl s m1) (enS s.now.Gen s.now.State s.now.Kept (pl s m1) m2) := by
    have := I.p
    rwa [wrs, List.append_nil] at this
  have hbr : ∀ (d' : disk_Disk) (ys' : List (List Int)) (g : Int), d'.sectors = d.sectors → d'.torn = d.torn → WFd n d' → d'.pending = d.pending ++ wrs (othr n s) 0 ys' → (ys' = [] ∨ ∃ m, LayOk g st ents (hf n) ∧ ys' = (secs g st ents).take m ∧ m ≤ (secs g st ents).length ∧ grt n d < g) → Inv n (brk s) d' m1 m2 ys' st ents := by
    intro d' ys' g e1 e2 W' e3 h
    have hbase : base d' = base d := by funext i; unfold base; rw [e1, e2]
    refine ⟨W', I.g, I.fr, I.more, ?_, ?_, ?_, ?_, ?_⟩
    · rw [e3, hpd]; rfl
    · rw [hbase]; exact I.cur
    · rw [hbase]; exact I.no
    · rw [hbase]; exact I.oth
    · rcases h with h | ⟨m, L, h1, h2, h3⟩
      · exact .inl h
      · refine .inr ⟨rfl, g, m, L, hsb, heb, h1, h2, ?_, fun h => Int.lt_of_le_of_lt (I.gen_le hn hb h) h3⟩
        rw [hbase]
        show ∀ p x, fa (base d) (othr n s) (hf n) p = some x → x.Gen < g
        intro p x hx
        rw [← I.rdv_oth hn hb] at hx
        exact Int.lt_of_le_of_lt (grt_ge I.w hn (othr_or n s) hx) h3
  have hsame : d.pending = d.pending ++ wrs (othr n s) 0 [] := by rw [wrs, List.append_nil]
  unfold begV
  rw [if_neg (by rw [hb]; simp)]
  by_cases c1 : mayOk st ents
  · rw [if_neg (not_not_intro c1)]
    right
    by_cases c2 : grt n d ≥ 281474976710656
    · rw [if_pos c2]
      exact .inl ⟨5, d, rfl, .inl rfl, [], hbr d [] 0 rfl rfl I.w hsame (.inl rfl)⟩
    · rw [if_neg c2]
      rcases layV_may (d := d) (a := othr n s) (lim := hf n) (g := grt n d + 1) c1 (by omega) with hl | ⟨L, hl⟩
      · rw [hl]
        dsimp only
        rw [if_pos (by decide)]
        exact .inl ⟨5, d, rfl, .inl rfl, [], hbr d [] 0 rfl rfl I.w hsame (.inl rfl)⟩
      · rw [hl]
        have hr := L.r
        have hsl := secs_len (grt n d + 1) st ents
        have Wl := layW_wf (othr n s) (secs (grt n d + 1) st ents) 0 I.w
        obtain ⟨m, g1, g2, g3, _⟩ := layW_run (n := n) (a := othr n s) (secs (grt n d + 1) st ents) 0 I.w (L.full hsb heb) (by omega) (by omega)
        have Wl := Wl.1
        generalize hd1 : (layW (othr n s) 0 d (secs (grt n d + 1) st ents)).2 = d1 at g2 g3 Wl ⊢
        have Ibr : Inv n (brk s) d1 m1 m2 ((secs (grt n d + 1) st ents).take m) st ents := hbr d1 _ (grt n d + 1) (by rw [g2]) (by rw [g2]) Wl (by rw [g2]) (.inr ⟨m, L, rfl, g1, by omega⟩)
        rcases g3 with ⟨g3, rfl⟩ | ⟨g3, _⟩
        · rw [g3]
          rw [if_neg (by simp)]
          by_cases cf : d1.fuse = 0
          · have hsy : sy d1 = (42, d1) := by unfold sy; rw [if_pos cf]
            rw [hsy]
            dsimp only
            rw [if_pos (by decide)]
            exact .inl ⟨42, d1, rfl, .inr rfl, _, Ibr⟩
          · have hsy : (sy d1).1 = 0 := by unfold sy; rw [if_neg cf]
            rw [hsy, if_neg (by simp)]
            right
            refine ⟨grt n d + 1, (sy d1).2, rfl, fun h => by have := I.gen_le hn hb h; omega, ?_⟩
            have Ws := Wl.sy.1
            have hps : (sy d1).2.pending = [] := (base_sy Wl cf 0).2
            have hbs : base (sy d1).2 = rdv d1 := funext fun i => (base_sy Wl cf i).1
            rw [List.take_length] at g2
            have hlv := lay_view (d := d) (lim := hf n) L hsb heb ho.1 (m := (secs (grt n d + 1) st ents).length) (Nat.le_refl _) d1.fuse
            rw [List.take_length, ← g2, hsl] at hlv
            have RA := RgA.lay hlv (fun p _ x hx => by have := grt_ge I.w hn (othr_or n s) hx; omega)
            refine ⟨Ws, ⟨by have := c1.1.2; exact this, hsb, c1.2.1, Nat.zero_le _, fun e he => ⟨(c1.2.2 e he).2, heb e he⟩, fun e he => (by cases he)⟩, othr_or n s, rfl, by rw [hps]; rfl, fun _ => .inl ⟨rfl, L, ?_, fun e he => (by cases he), ?_⟩, fun h => (by cases h), fun h => ?_, .inl rfl⟩
            · rw [hbs]; exact RA
            · have := L.r
              show ((nparts st + (ents.length + 0) + 0 : Nat) : Int) ≤ hf n
              omega
            · refine ⟨rfl, ?_⟩
              have hP := np_le L.s
              have hpos : 1 ≤ hf n := by omega
              generalize hoo : othr n (⟨⟨grt n d + 1, st, ents, []⟩, true, othr n s, true, false⟩ : store_Store) = oo at h ⊢
              have hfar : (oo = 0 ∧ othr n s = hf n) ∨ (oo = hf n ∧ othr n s = 0) := by
                rw [← hoo]
                unfold othr
                dsimp only
                by_cases c5 : s.has_ = true ∧ s.from_ = 0
                · rw [if_pos c5, if_neg (by rintro ⟨_, h⟩; omega)]; exact .inl ⟨rfl, rfl⟩
                · rw [if_neg c5, if_pos ⟨rfl, rfl⟩]; exact .inr ⟨rfl, rfl⟩
              obtain ⟨x, hx, hgx⟩ := rdR_gen h
              rw [hgx]
              rw [hbs] at hx
              have e : fa (rdv d1) oo (hf n) 0 = fa (rdv d) oo (hf n) 0 := by
                refine fa_same ?_
                have hlo := lay_out (d := d) (a := othr n s) (lim := hf n) L hsb heb (m := (secs (grt n d + 1) st ents).length) d1.fuse (i := oo + ((0 : Nat) : Int)) (by rcases hfar with ⟨h1, h2⟩ | ⟨h1, h2⟩ <;> rw [h1, h2] <;> omega)
                rw [List.take_length, ← g2] at hlo
                exact hlo
              rw [e] at hx
              have := grt_ge I.w hn (a := oo) (by rcases hfar with h | h; exact .inl h.1; exact .inr h.1) hx
              show x.Gen < grt n d + 1
              omega
        · rw [g3]
          rw [if_pos (by decide)]
          exact .inl ⟨42, d1, rfl, .inr rfl, _, Ibr⟩
  · rw [if_pos c1]; exact .inl rfl
/-! ### Append, Sync, Fuse -/
theorem app_step {n : Nat} (hn : n ≤ 4096) {s : store_Store} {d : disk_Disk} {m1 m2 ys : List (List Int)} {nst : List Int} {nen : List (List Int)} (I : Inv n s d m1 m2 ys nst nen) {e : List Int} (he : Bytes e) :
    (∃ c, appV n s e d = (c, s, d) ∧ c ≠ 0 ∧ ((s.broken = true ∨ s.begun = false) → c = 43) ∧ (d.fuse ≠ 0 → enOk e → s.broken = false → s.begun = true → c = 5 ∧ hf n ≤ ((pl s m1 + m2.length : Nat) : Int))) ∨
    (∃ d', appV n s e d = (0, addM s e, d') ∧ s.broken = false ∧ s.begun = true ∧ d'.fuse = (lower d).fuse ∧ Inv n (addM s e) d' m1 (m2 ++ [e]) ys nst nen) := by
  have hh := hf_le hn
  unfold appV
  by_cases c0 : s.broken = true ∨ ¬ s.begun = true
  · rw [if_pos c0]; exact .inl ⟨43, rfl, by decide, fun _ => rfl, fun _ _ h1 h2 => absurd c0 (by rw [h1, h2]; simp)⟩
  · have hb : s.broken = false := by
      cases h : s.broken with
      | true => exact absurd (.inl h) c0
      | false => rfl
    have hbg : s.begun = true := Classical.not_not.1 fun h => c0 (.inr h)
    have hno : ¬ (s.broken = true ∨ s.begun = false) := by rw [hb, hbg]; simp
    rw [if_neg c0]
    have hy := I.noY hb
    subst hy
    have hhas : s.has_ = true := by
      cases h : s.has_ with
      | true => rfl
      | false => have := (I.no h).1; rw [hbg] at this; cases this
    rcases I.cur hhas with ⟨_, L, R, hok, hfit⟩ | ⟨h, _⟩
    · have hq : nparts s.now.State + (s.now.Kept.length + s.now.More.length) = pl s m1 + m2.length := by rw [I.more, List.length_append]; unfold pl; omega
      have hput := putV_ok (d := d) (a := s.from_) (lim := hf n) (more := s.now.More) (e := e) L
      have hput : putV d s.from_ (hf n) s.now e = _ := hput
      rw [hq] at hput
      rw [hput]
      by_cases c1 : enOk e
      · rw [if_neg (not_not_intro c1)]
        by_cases c2 : ((pl s m1 + m2.length : Nat) : Int) ≥ hf n
        · rw [if_pos c2]
          dsimp only
          rw [if_neg (by decide)]
          exact .inl ⟨5, rfl, by decide, fun h => absurd h hno, fun _ _ _ _ => ⟨rfl, c2⟩⟩
        · rw [if_neg c2]
          by_cases cf : d.fuse = 0
          · have hw : wr d (s.from_ + ((pl s m1 + m2.length : Nat) : Int)) (putOf (entAt s.now.Gen s.now.State s.now.Kept s.now.More e)) = (42, d) := by unfold wr; rw [if_pos cf]
            rw [hw]
            dsimp only
            rw [if_neg (by decide)]
            exact .inl ⟨42, rfl, by decide, fun h => absurd h hno, fun h => absurd cf h⟩
          · have hfr : 0 ≤ s.from_ ∧ s.from_ + hf n ≤ (n : Int) := by rcases I.fr with h | h <;> omega
            obtain ⟨f1, _, _⟩ := put_fine (more := s.now.More) I.w cf L c1 he hfr.1 hfr.2 hn (by rw [hq]; omega)
            rw [hq] at f1
            have W2 := I.w.wr (s.from_ + ((pl s m1 + m2.length : Nat) : Int)) (putOf (entAt s.now.Gen s.now.State s.now.Kept s.now.More e))
            rw [f1] at W2 ⊢
            dsimp only
            rw [if_pos rfl]
            right
            refine ⟨_, rfl, hb, hbg, rfl, ⟨W2.1, ⟨I.g.st, I.g.sb, I.g.kl, ?_, I.g.ke, ?_⟩, I.fr, ?_, ?_, fun _ => .inl ⟨hbg, L, R, ?_, ?_⟩, ?_, I.oth, .inl rfl⟩⟩
            · show (s.now.More ++ [e]).length ≤ 4096
              rw [List.length_append, List.length_singleton]
              omega
            · intro x hx
              rcases List.mem_append.1 hx with hx | hx
              · exact I.g.me x hx
              · rw [List.mem_singleton.1 hx]; exact ⟨c1.2, he⟩
            · show s.now.More ++ [e] = m1 ++ (m2 ++ [e])
              rw [I.more, List.append_assoc]
            · show d.pending ++ _ = wrs s.from_ (pl s m1) (enS s.now.Gen s.now.State s.now.Kept (pl s m1) (m2 ++ [e])) ++ wrs (othr n s) 0 []
              have hp := I.p
              rw [wrs, List.append_nil] at hp
              rw [enS_snoc, wrs_snoc, hp, enS_len, wrs, List.append_nil]
              congr 4
              unfold entAt
              rw [hq]
            · intro x hx
              rcases List.mem_append.1 hx with hx | hx
              · exact hok x hx
              · rw [List.mem_singleton.1 hx]; exact ⟨c1, he⟩
            · show ((pl s m1 + (m2 ++ [e]).length : Nat) : Int) ≤ hf n
              rw [List.length_append, List.length_singleton]
              omega
            · intro h
              rw [show (addM s e).has_ = s.has_ from rfl, hhas] at h
              cases h
      · rw [if_pos c1]
        dsimp only
        rw [if_neg (by decide)]
        exact .inl ⟨1, rfl, by decide, fun h => absurd h hno, fun _ h => absurd h c1⟩
    · rw [hbg] at h; cases h
theorem RgA.many {f f' : Nat → Option api_Sector} {g : Int} {st : List Int} {kept m1 m2 : List (List Int)} (R : RgA f g st kept m1) (h : ∀ p, f' p = if nparts st + (kept.length + m1.length) ≤ p ∧ p < nparts st + (kept.length + m1.length) + m2.length then some ⟨g, (p : Int), (nparts st : Int), (kept.length : Int), m2.getD (p - (nparts st + (kept.length + m1.length))) []⟩ else f p) : RgA f' g st kept (m1 ++ m2) := by
  have hl : (kept ++ (m1 ++ m2)).length = kept.length + (m1.length + m2.length) := by rw [List.length_append, List.length_append]
  refine ⟨fun p hp => ?_, fun p hp => ?_⟩
  · rw [hl] at hp
    by_cases c : p < nparts st + (kept.length + m1.length)
    · have h3 := R.has p (by rw [List.length_append]; exact c)
      rw [← List.append_assoc, bodyAt_lo (by rw [List.length_append]; exact c), ← h3]
      unfold lk
      rw [h p, if_neg (by omega)]
    · obtain ⟨i, rfl⟩ : ∃ i, p = nparts st + (kept.length + m1.length) + i := ⟨p - (nparts st + (kept.length + m1.length)), by omega⟩
      have h4 := bodyAt_hi (st := st) (l := kept ++ m1) (m := m2) (j := i)
      rw [List.length_append, ← Nat.add_assoc] at h4
      rw [← List.append_assoc, h4]
      refine lk_of ?_
      rw [h, if_pos (by omega), Nat.add_sub_cancel_left]
  · rw [hl] at hp
    have h3 := R.fin p (by rw [List.length_append]; omega)
    rw [← h3]
    unfold lk
    rw [h p, if_neg (by omega)]
theorem syn_step {n : Nat} (hn : n ≤ 4096) {s : store_Store} {d : disk_Disk} {m1 m2 ys : List (List Int)} {nst : List Int} {nen : List (List Int)} (I : Inv n s d m1 m2 ys nst nen) :
    (∃ c, synV s d = (c, d) ∧ c ≠ 0 ∧ ((s.broken = true ∨ s.begun = false) → c = 43) ∧ (d.fuse ≠ 0 → s.broken = true ∨ s.begun = false)) ∨
    (∃ d', synV s d = (0, d') ∧ s.broken = false ∧ s.begun = true ∧ Inv n s d' (m1 ++ m2) [] [] nst nen) := by
  have hh := hf_le hn
  unfold synV
  by_cases c0 : s.broken = true ∨ ¬ s.begun = true
  · rw [if_pos c0]
    refine .inl ⟨43, rfl, by decide, fun _ => rfl, fun _ => ?_⟩
    rcases c0 with h | h
    · exact .inl h
    · exact .inr (by simpa using h)
  · have hb : s.broken = false := by
      cases h : s.broken with
      | true => exact absurd (.inl h) c0
      | false => rfl
    have hbg : s.begun = true := Classical.not_not.1 fun h => c0 (.inr h)
    rw [if_neg c0]
    by_cases cf : d.fuse = 0
    · have hsy : sy d = (42, d) := by unfold sy; rw [if_pos cf]
      rw [hsy]
      exact .inl ⟨42, rfl, by decide, by rw [hb, hbg]; simp, fun h => absurd cf h⟩
    · right
      have hsy : (sy d).1 = 0 := by unfold sy; rw [if_neg cf]
      refine ⟨(sy d).2, Prod.ext hsy rfl, hb, hbg, ?_⟩
      have hbs : base (sy d).2 = rdv d := funext fun i => (base_sy I.w cf i).1
      have hps : (sy d).2.pending = [] := (base_sy I.w cf 0).2
      have hhas : s.has_ = true := by
        cases h : s.has_ with
        | true => rfl
        | false => have := (I.no h).1; rw [hbg] at this; cases this
      rcases I.cur hhas with ⟨_, L, R, hok, hfit⟩ | ⟨h, _⟩
      · have RM : RgA (fa (rdv d) s.from_ (hf n)) s.now.Gen s.now.State s.now.Kept (m1 ++ m2) := by
          refine R.many fun p => ?_
          have e := I.rdv hn hb (s.from_ + (p : Int))
          have hpl : nparts s.now.State + (s.now.Kept.length + m1.length) = pl s m1 := rfl
          rw [hpl]
          by_cases c : pl s m1 ≤ p ∧ p < pl s m1 + m2.length
          · rw [if_pos c]
            rw [if_pos (by unfold In; omega), show (s.from_ + (p : Int) - s.from_ - (pl s m1 : Int)).toNat = p - pl s m1 by omega, enS_at _ _ _ _ _ _ (by omega), show pl s m1 + (p - pl s m1) = p by omega] at e
            have hme := hok _ (getD_mem (show p - pl s m1 < m2.length by omega) [])
            exact fa_put e (ent_right L hme.1 (by omega)) hme.2 (by omega) (by rcases I.fr with h | h <;> omega)
          · rw [if_neg c]
            rw [if_neg (by unfold In; omega)] at e
            exact fa_same e
        refine ⟨I.w.sy.1, I.g, I.fr, by rw [I.more, List.append_nil], by rw [hps]; rfl, fun _ => .inl ⟨hbg, L, ?_, fun e he => (by cases he), ?_⟩, fun h => ?_, ?_, .inl rfl⟩
        · rw [hbs]; exact RM
        · unfold pl at hfit ⊢
          rw [List.length_append, List.length_nil]; omega
        · rw [hhas] at h; cases h
        · rw [hbs, I.rdv_oth hn hb]; exact I.oth
      · rw [hbg] at h; cases h
theorem fus_step {n : Nat} {s : store_Store} {d : disk_Disk} {m1 m2 ys : List (List Int)} {nst : List Int} {nen : List (List Int)} (I : Inv n s d m1 m2 ys nst nen) {k : Int} (hk : k < 9223372036854775808) : Inv n s (fus d k) m1 m2 ys nst nen :=
  ⟨I.w.fus hk, I.g, I.fr, I.more, I.p, I.cur, I.no, I.oth, I.br⟩
end Go.Proofs.Ytpmkpiffbdcflaa
