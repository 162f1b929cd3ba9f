/- Stores, plain: what holds behind each call. -/
import Derived.Test.YtpmkpiffbdcflaaStoB
set_option linter.unusedVariables false
set_option linter.unusedSimpArgs false
namespace Go.Proofs.Ytpmkpiffbdcflaa
open Go Go.RowKit
/-- The place of the first entry that may be lost. -/
def pl (s : store_Store) (m1 : List (List Int)) : Nat := nparts s.now.State + (s.now.Kept.length + m1.length)
structure Inv (n : Nat) (s : store_Store) (d : disk_Disk) (m1 m2 ys : List (List Int)) (nst : List Int) (nen : List (List Int)) : Prop where
  w : WFd n d
  g : GdR s.now
  fr : s.from_ = 0 ∨ s.from_ = hf n
  more : s.now.More = m1 ++ m2
  p : d.pending = wrs s.from_ (pl s m1) (enS s.now.Gen s.now.State s.now.Kept (pl s m1) m2) ++ wrs (othr n s) 0 ys
  cur : s.has_ = true → (s.begun = true ∧ LayOk s.now.Gen s.now.State s.now.Kept (hf n) ∧ RgA (fa (base d) s.from_ (hf n)) s.now.Gen s.now.State s.now.Kept m1 ∧ (∀ e ∈ m2, enOk e ∧ Bytes e) ∧ ((pl s m1 + m2.length : Nat) : Int) ≤ hf n) ∨ (s.begun = false ∧ m2 = [] ∧ rdR (fa (base d) s.from_ (hf n)) (hf n) = (s.now, true))
  no : s.has_ = false → s.begun = false ∧ s.now = RG0 ∧ s.from_ = 0 ∧ m2 = [] ∧ (rdR (fa (base d) (hf n) (hf n)) (hf n)).2 = false
  oth : (rdR (fa (base d) (othr n s) (hf n)) (hf n)).2 = true → s.has_ = true ∧ (rdR (fa (base d) (othr n s) (hf n)) (hf n)).1.Gen < s.now.Gen
  br : ys = [] ∨ (s.broken = true ∧ ∃ g m, LayOk g nst nen (hf n) ∧ Bytes nst ∧ (∀ e ∈ nen, Bytes e) ∧ ys = (secs g nst nen).take m ∧ m ≤ (secs g nst nen).length ∧ (∀ p x, fa (base d) (othr n s) (hf n) p = some x → x.Gen < g) ∧ (s.has_ = true → s.now.Gen < g))
theorem base_bytesV (d : disk_Disk) : ∀ i, Bytes (base d i).1 := base_bytes d
theorem rdv_nil {d : disk_Disk} (h : d.pending = []) : rdv d = base d := by
  funext i
  unfold rdv
  rw [h]; rfl
theorem base_sy {n : Nat} {d : disk_Disk} (W : WFd n d) (h : d.fuse ≠ 0) (i : Int) : base (sy d).2 i = rdv d i ∧ (sy d).2.pending = [] := by
  unfold sy
  rw [if_neg h]
  exact ⟨baseS_fold i (s := (d.sectors, d.torn)) ⟨W.len, W.nd⟩ W.at_, rfl⟩
theorem fa_right {v : View} (hv : ∀ i, Bytes (v i).1) {a lim : Int} {p : Nat} {s : api_Sector} (h : fa v a lim p = some s) : RtP s := (sa_some hv h).1
theorem gr_ge {f : Nat → Option api_Sector} : ∀ (k p : Nat) {s : api_Sector}, p < k → f p = some s → s.Gen ≤ gr f k
  | 0, _, _, h, _ => absurd h (Nat.not_lt_zero _)
  | k + 1, p, s, h, e => by
    show s.Gen ≤ (match f k with | some s => max (gr f k) s.Gen | none => gr f k)
    by_cases c : p = k
    · subst c
      rw [e]
      exact Int.le_max_right _ _
    · have ih := gr_ge k p (by omega) e
      cases hk : f k with
      | none => exact ih
      | some t => exact Int.le_trans ih (Int.le_max_left _ _)
theorem grt_ge {n : Nat} {d : disk_Disk} (W : WFd n d) (hn : n ≤ 4096) {a : Int} (ha : a = 0 ∨ a = hf n) {p : Nat} {s : api_Sector} (h : fa (rdv d) a (hf n) p = some s) : s.Gen ≤ grt n d := by
  have hp : p < 5000 := by
    rcases Nat.lt_or_ge p 5000 with h1 | h1
    · exact h1
    · rw [fa_end W (.inl (by omega))] at h; cases h
  have h1 := gr_ge 5000 p hp h
  unfold grt
  rcases ha with rfl | rfl
  · exact Int.le_trans h1 (Int.le_max_left _ _)
  · exact Int.le_trans h1 (Int.le_max_right _ _)
theorem othr_or (n : Nat) (s : store_Store) : othr n s = 0 ∨ othr n s = hf n := by
  unfold othr
  split
  · exact .inr rfl
  · exact .inl rfl
theorem hf_pos {n : Nat} {s : store_Store} {d : disk_Disk} {m1 m2 ys : List (List Int)} {nst : List Int} {nen : List (List Int)} (I : Inv n s d m1 m2 ys nst nen) (h : s.has_ = true) : 1 ≤ hf n := by
  rcases I.cur h with ⟨_, L, _⟩ | ⟨_, _, h2⟩
  · have := np_le L.s
    have := L.r
    omega
  · have h3 : (rdR (fa (base d) s.from_ (hf n)) (hf n)).2 = true := by rw [h2]
    obtain ⟨x, hx, h4, _⟩ := (rdR_valid fun s hs => fa_right (base_bytesV d) hs).1 h3
    have := fa_right (base_bytesV d) hx
    have h5 := this.2.2.1
    have h6 := this.2.2.2.1
    omega
/-- The halves of a store that has something lie apart. -/
theorem apart {n : Nat} {s : store_Store} {d : disk_Disk} {m1 m2 ys : List (List Int)} {nst : List Int} {nen : List (List Int)} (I : Inv n s d m1 m2 ys nst nen) (h : s.has_ = true) : (s.from_ = 0 ∧ othr n s = hf n) ∨ (s.from_ = hf n ∧ othr n s = 0) := by
  have hp := hf_pos I h
  unfold othr
  rcases I.fr with h1 | h1
  · exact .inl ⟨h1, if_pos ⟨h, h1⟩⟩
  · exact .inr ⟨h1, if_neg fun h2 => by omega⟩
theorem Inv.fullE {n : Nat} (hn : n ≤ 4096) {s : store_Store} {d : disk_Disk} {m1 m2 ys : List (List Int)} {nst : List Int} {nen : List (List Int)} (I : Inv n s d m1 m2 ys nst nen) : Full (enS s.now.Gen s.now.State s.now.Kept (pl s m1) m2) := by
  have hh := hf_le hn
  cases h : s.has_ with
  | true =>
    rcases I.cur h with ⟨_, L, _, hok, hfit⟩ | ⟨_, h2, _⟩
    · exact enS_full L m2 _ hok (by omega)
    · rw [h2]; intro x hx; cases hx
  | false =>
    obtain ⟨_, _, _, h2, _⟩ := I.no h
    rw [h2]; intro x hx; cases hx
theorem Inv.fullY {n : Nat} {s : store_Store} {d : disk_Disk} {m1 m2 ys : List (List Int)} {nst : List Int} {nen : List (List Int)} (I : Inv n s d m1 m2 ys nst nen) : Full ys := by
  rcases I.br with h | ⟨_, g, m, L, hb, he, h, _⟩
  · rw [h]; intro x hx; cases hx
  · rw [h]; exact (L.full hb he).take m
theorem Inv.lenY {n : Nat} {s : store_Store} {d : disk_Disk} {m1 m2 ys : List (List Int)} {nst : List Int} {nen : List (List Int)} (I : Inv n s d m1 m2 ys nst nen) : ys = [] ∨ (ys.length : Int) ≤ hf n := by
  rcases I.br with h | ⟨_, g, m, L, hb, he, h, hm, _⟩
  · exact .inl h
  · have := secs_len g nst nen
    have := L.r
    exact .inr (by rw [h, List.length_take]; omega)
/-- What is read behind a crash, at each place. -/
theorem crash_at {n : Nat} (hn : n ≤ 4096) {s : store_Store} {d : disk_Disk} {m1 m2 ys : List (List Int)} {nst : List Int} {nen : List (List Int)} (I : Inv n s d m1 m2 ys nst nen) (keep : List Bool) (tear i : Int) :
    ∃ v k, (v = base d i ∨ (In s.from_ (pl s m1) m2.length i ∧ (v = ([], 41) ∨ v = ((enS s.now.Gen s.now.State s.now.Kept (pl s m1) m2).getD (i - s.from_ - (pl s m1 : Int)).toNat [], 0)))) ∧ rdv (cra d keep tear) i = crV keep tear i k v (wrs (othr n s) 0 ys) := by
  have e := rdv_cra I.w keep tear i
  rw [I.p, crV_app] at e
  refine ⟨_, _, ?_, e⟩
  by_cases c : In s.from_ (pl s m1) m2.length i
  · rcases cr_in keep tear s.from_ i (xs := enS s.now.Gen s.now.State s.now.Kept (pl s m1) m2) (pl s m1) 0 (base d i) (I.fullE hn) (by rw [enS_len]; exact c) with h | h | h
    · exact .inr ⟨c, .inl h⟩
    · exact .inr ⟨c, .inr h⟩
    · exact .inl h
  · exact .inl (cr_out keep tear s.from_ i (pl s m1) 0 (base d i) (I.fullE hn) (by rw [enS_len]; exact c))
/-- The half that is not the current one's, behind a crash. -/
theorem crash_oth {n : Nat} (hn : n ≤ 4096) {s : store_Store} {d : disk_Disk} {m1 m2 ys : List (List Int)} {nst : List Int} {nen : List (List Int)} (I : Inv n s d m1 m2 ys nst nen) (keep : List Bool) (tear : Int) :
    (s.broken = true ∧ ∃ g, (s.has_ = true → s.now.Gen < g) ∧ LayOk g nst nen (hf n) ∧ rdR (fa (rdv (cra d keep tear)) (othr n s) (hf n)) (hf n) = (⟨g, nst, nen, []⟩, true)) ∨
    ((rdR (fa (rdv (cra d keep tear)) (othr n s) (hf n)) (hf n)).2 = true → s.has_ = true ∧ (rdR (fa (rdv (cra d keep tear)) (othr n s) (hf n)) (hf n)).1.Gen < s.now.Gen) := by
  have hh := hf_le hn
  have ho := othr_or n s
  -- in that half the first run writes nothing
  have hfst : ∀ p : Nat, (p : Int) < hf n → ∃ k, rdv (cra d keep tear) (othr n s + (p : Int)) = crV keep tear (othr n s + (p : Int)) k (base d (othr n s + (p : Int))) (wrs (othr n s) 0 ys) := by
    intro p hp
    obtain ⟨v, k, hv, e⟩ := crash_at hn I keep tear (othr n s + (p : Int))
    rcases hv with rfl | ⟨hin, _⟩
    · exact ⟨k, e⟩
    · exfalso
      unfold In at hin
      cases h : s.has_ with
      | true =>
        rcases I.cur h with ⟨_, L, _, hok, hfit⟩ | ⟨_, h2, _⟩
        · rcases apart I h with ⟨h1, h2⟩ | ⟨h1, h2⟩ <;> rw [h1, h2] at hin <;> omega
        · rw [h2] at hin; simp only [List.length_nil] at hin; omega
      | false =>
        obtain ⟨_, _, _, h2, _⟩ := I.no h
        rw [h2] at hin; simp only [List.length_nil] at hin; omega
  rcases I.br with hy | ⟨hb, g, m, L, hbs, hes, hy, hm, hlt, hgt⟩
  · right
    have hsame : fa (rdv (cra d keep tear)) (othr n s) (hf n) = fa (base d) (othr n s) (hf n) := by
      funext p
      by_cases c : (p : Int) < hf n
      · obtain ⟨k, e⟩ := hfst p c
        rw [hy] at e
        exact fa_same e
      · unfold fa sa
        rw [if_neg fun h => c h.1, if_neg fun h => c h.1]
    rw [hsame]
    exact I.oth
  · have hsl := secs_len g nst nen
    have hm2 := mix (f0 := fa (base d) (othr n s) (hf n)) (f' := fa (rdv (cra d keep tear)) (othr n s) (hf n)) L (fun p x hx => ⟨fa_right (base_bytesV d) hx, hlt p x hx⟩) (fun p => by
      by_cases c : (p : Int) < hf n
      · obtain ⟨k, e⟩ := hfst p c
        by_cases c2 : p < m
        · have hin : In (othr n s) 0 ys.length (othr n s + (p : Int)) := by
            unfold In
            rw [hy, List.length_take]; omega
          rcases cr_in keep tear (othr n s) (othr n s + (p : Int)) 0 k (base d (othr n s + (p : Int))) I.fullY hin with h | h | h
          · rw [h] at e
            exact .inr (.inl (fa_err (by rw [e]; decide)))
          · rw [h] at e
            have e2 : ys.getD (othr n s + (p : Int) - othr n s - ((0 : Nat) : Int)).toNat [] = putOf (secAt g nst nen p) := by
              rw [show (othr n s + (p : Int) - othr n s - ((0 : Nat) : Int)).toNat = p by omega, hy, List.getD_eq_getElem?_getD, List.getElem?_take, if_pos c2, ← List.getD_eq_getElem?_getD, secs_getD (by omega)]
            rw [e2] at e
            exact .inr (.inr ⟨by omega, fa_put e (secAt_right L.g L.s L.e L.k (by omega)) (bodyAt_bytes hbs hes (by omega)) c (by rcases ho with h | h <;> omega)⟩)
          · rw [h] at e
            exact .inl (fa_same e)
        · rw [cr_out keep tear (othr n s) (othr n s + (p : Int)) 0 k (base d (othr n s + (p : Int))) I.fullY (by
            unfold In
            rw [hy, List.length_take]; omega)] at e
          exact .inl (fa_same e)
      · refine .inl ?_
        unfold fa sa
        rw [if_neg fun h => c h.1, if_neg fun h => c h.1])
    rcases hm2 with h | h
    · exact .inl ⟨hb, g, hgt, L, h⟩
    · right
      intro hv
      obtain ⟨h1, h2⟩ := h hv
      rw [h2]
      exact I.oth h1
/-- The current half, behind a crash. -/
theorem crash_cur {n : Nat} (hn : n ≤ 4096) {s : store_Store} {d : disk_Disk} {m1 m2 ys : List (List Int)} {nst : List Int} {nen : List (List Int)} (I : Inv n s d m1 m2 ys nst nen) (h : s.has_ = true) (keep : List Bool) (tear : Int) :
    ∃ j, j ≤ m2.length ∧ rdR (fa (rdv (cra d keep tear)) s.from_ (hf n)) (hf n) = (⟨s.now.Gen, s.now.State, s.now.Kept, m1 ++ m2.take j⟩, true) := by
  have hh := hf_le hn
  -- in this half the second run writes nothing
  have hsnd : ∀ p : Nat, (p : Int) < hf n → ∃ v, rdv (cra d keep tear) (s.from_ + (p : Int)) = v ∧ (v = base d (s.from_ + (p : Int)) ∨ (In s.from_ (pl s m1) m2.length (s.from_ + (p : Int)) ∧ (v = ([], 41) ∨ v = ((enS s.now.Gen s.now.State s.now.Kept (pl s m1) m2).getD (s.from_ + (p : Int) - s.from_ - (pl s m1 : Int)).toNat [], 0)))) := by
    intro p hp
    obtain ⟨v, k, hv, e⟩ := crash_at hn I keep tear (s.from_ + (p : Int))
    refine ⟨v, ?_, hv⟩
    rw [e]
    refine cr_out keep tear (othr n s) _ 0 k v I.fullY ?_
    unfold In
    rcases I.lenY with hy | hy
    · rw [hy, List.length_nil]; omega
    · rcases apart I h with ⟨h1, h2⟩ | ⟨h1, h2⟩ <;> rw [h1, h2] <;> omega
  rcases I.cur h with ⟨_, L, R, hok, hfit⟩ | ⟨_, h2, h3⟩
  · refine cur_crash L R (by unfold pl at hfit; omega) (by omega) (fun p hp => ?_) (fun j hj => ?_)
    · by_cases c : (p : Int) < hf n
      · obtain ⟨v, e, hv⟩ := hsnd p c
        rcases hv with hv | ⟨hin, _⟩
        · rw [hv] at e; exact fa_same e
        · exfalso
          unfold In pl at hin
          omega
      · unfold fa sa
        rw [if_neg fun h => c h.1, if_neg fun h => c h.1]
    · have hpl : nparts s.now.State + (s.now.Kept.length + m1.length) + j = pl s m1 + j := rfl
      rw [hpl]
      obtain ⟨v, e, hv⟩ := hsnd (pl s m1 + j) (by omega)
      rcases hv with hv | ⟨_, hv | hv⟩
      · rw [hv] at e; exact .inr (.inl (fa_same e))
      · rw [hv] at e; exact .inl (fa_err (by rw [e]; decide))
      · rw [show (s.from_ + ((pl s m1 + j : Nat) : Int) - s.from_ - (pl s m1 : Int)).toNat = j by omega, enS_at _ _ _ _ _ _ hj] at hv
        rw [hv] at e
        have hme := hok _ (getD_mem hj [])
        exact .inr (.inr (fa_put e (ent_right L hme.1 (by omega)) hme.2 (by omega) (by rcases I.fr with h | h <;> omega)))
  · subst h2
    refine ⟨0, Nat.le_refl _, ?_⟩
    have hsame : fa (rdv (cra d keep tear)) s.from_ (hf n) = fa (base d) s.from_ (hf n) := by
      funext p
      by_cases c : (p : Int) < hf n
      · obtain ⟨v, e, hv⟩ := hsnd p c
        rcases hv with hv | ⟨hin, _⟩
        · rw [hv] at e; exact fa_same e
        · exfalso
          unfold In at hin
          simp only [List.length_nil] at hin
          omega
      · unfold fa sa
        rw [if_neg fun h => c h.1, if_neg fun h => c h.1]
    rw [hsame, h3]
    have hm := I.more
    rw [List.append_nil] at hm
    rw [List.take_nil, List.append_nil, ← hm]
end Go.Proofs.Ytpmkpiffbdcflaa
