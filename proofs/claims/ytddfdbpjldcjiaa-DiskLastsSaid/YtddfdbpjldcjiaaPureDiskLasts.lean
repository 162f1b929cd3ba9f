/- The statement DiskLasts: plain Lean. -/
import Derived.Test.YtddfdbpjldcjiaaDiskB
import Derived.Test.YtddfdbpjldcjiaaGDiskLasts
set_option linter.unusedVariables false
set_option linter.unusedSimpArgs false
namespace Go.Proofs.Ytddfdbpjldcjiaa
open Go Go.RowKit
/-- Nothing waits at t, and v stands there. -/
def Far (t : Int) (v : List Int × Int) (d : disk_Disk) : Prop := base d t = v ∧ ∀ p ∈ d.pending, p.at_ ≠ t
theorem Far.rdv {t : Int} {v : List Int × Int} {d : disk_Disk} (h : Far t v d) : rdv d t = v := by
  unfold Go.Proofs.Ytddfdbpjldcjiaa.rdv
  rw [fold_none h.2, h.1]
theorem Far.wr {t : Int} {v : List Int × Int} {d : disk_Disk} (h : Far t v d) {i : Int} (hi : i ≠ t) (b : List Int) : Far t v (wr d i b).2 := by
  unfold Go.Proofs.Ytddfdbpjldcjiaa.wr
  by_cases c1 : d.fuse = 0
  · rw [if_pos c1]; exact h
  · rw [if_neg c1]
    by_cases c2 : (b.length : Int) ≠ 64
    · rw [if_pos c2]; exact h
    · rw [if_neg c2]
      by_cases c3 : 0 ≤ i ∧ i < (d.sectors.length : Int)
      · rw [if_pos c3]
        refine ⟨h.1, fun p hp => ?_⟩
        rcases List.mem_append.1 hp with hp | hp
        · exact h.2 p hp
        · rw [List.mem_singleton.1 hp]; exact hi
      · rw [if_neg c3]; exact h
theorem base_sy {n : Nat} {d : disk_Disk} (W : WFd n d) (h : d.fuse ≠ 0) (i : Int) : base (sy d).2 i = Go.Proofs.Ytddfdbpjldcjiaa.rdv d i ∧ (sy d).2.pending = [] := by
  unfold sy
  rw [if_neg h]
  exact ⟨baseS_fold i (s := (d.sectors, d.torn)) ⟨W.len, W.nd⟩ W.at_, rfl⟩
theorem Far.sy {n : Nat} {t : Int} {v : List Int × Int} {d : disk_Disk} (h : Far t v d) (W : WFd n d) : Far t v (sy d).2 := by
  by_cases c : d.fuse = 0
  · unfold Go.Proofs.Ytddfdbpjldcjiaa.sy
    rw [if_pos c]; exact h
  · obtain ⟨e1, e2⟩ := base_sy W c t
    exact ⟨e1.trans h.rdv, by rw [e2]; intro p hp; cases hp⟩
theorem Far.cra {n : Nat} {t : Int} {v : List Int × Int} {d : disk_Disk} (h : Far t v d) (W : WFd n d) (keep : List Bool) (tear : Int) : Far t v (cra d keep tear) := by
  refine ⟨?_, fun p hp => by cases hp⟩
  have e := rdv_cra W keep tear t
  rw [crV_far _ _ _ _ _ _ h.2, h.1] at e
  exact e
theorem Far.dov {n : Nat} {t : Int} {v : List Int × Int} {d : disk_Disk} (h : Far t v d) (W : WFd n d) {o : law15_Op} (ho : (5 ≤ o.What ∧ o.What ≤ 8) ∨ o.At ≠ t) : Far t v (dov d o).2 := by
  unfold Go.Proofs.Ytddfdbpjldcjiaa.dov
  by_cases c4 : o.What = 4
  · rw [if_pos c4]; exact h.wr (ho.resolve_left (by omega)) _
  · rw [if_neg c4]
    by_cases c5 : o.What = 5 ∨ o.What = 6
    · rw [if_pos c5]; exact h.sy W
    · rw [if_neg c5]
      by_cases c7 : o.What = 7
      · rw [if_pos c7]; exact h
      · rw [if_neg c7]
        by_cases c8 : o.What = 8
        · rw [if_pos c8]; exact h.cra W _ _
        · rw [if_neg c8]; exact h.wr (ho.resolve_left (by omega)) _
theorem pure_DiskLasts (a0 a1 : List law15_Op) (a2 : Int) (g0 : a0.length ≤ maxLen ∧ ∀ y ∈ a0, good_law15_Op y) (g1 : a1.length ≤ maxLen ∧ ∀ y ∈ a1, good_law15_Op y) {p : Prop} (g2 : p) : law15_DiskLasts_f a0 a1 a2 = some true := by
  unfold law15_DiskLasts_f
  rw [head_eq, show disk_New_f 8 = some (some (dnew 8)) from new_eq (n := 8) (by decide)]
  dsimp only [Option.bind_some]
  obtain ⟨b, hb, hlen⟩ := great_eq a0 g0.1
  obtain ⟨b', hb', hlen'⟩ := great_eq a1 g1.1
  rw [hb]
  dsimp only [Option.bind_some]
  cases b with
  | true => rfl
  | false =>
    rw [if_neg (by simp), hb']
    dsimp only [Option.bind_some]
    cases b' with
    | true => rfl
    | false =>
      rw [if_neg (by simp)]
      have hl := hlen rfl
      have hl' := hlen' rfl
      obtain ⟨d, h1, W, hp, _⟩ := run_lp (f := law15_DiskLasts_b0 a0) a0 (hlen rfl) g0.2 (fun _ _ => rfl) (WFd.new 8) (by simp [dnew])
      have hp' : d.pending.length ≤ 300 := by simp [dnew] at hp; omega
      rw [h1]
      dsimp only [Option.bind_some]
      rw [sync_eq W (by omega)]
      dsimp only [Option.bind_some]
      by_cases c : d.fuse = 0
      · rw [if_pos (by unfold sy; rw [if_pos c]; simp)]
      · rw [if_neg (by unfold sy; rw [if_neg c]; simp)]
        have W1 := W.sy.1
        obtain ⟨_, e2⟩ := base_sy W c 0
        have F0 : ∀ t, Far t (rdv (sy d).2 t) (sy d).2 := fun t => ⟨by unfold rdv; rw [e2]; rfl, by rw [e2]; intro p hp; cases hp⟩
        generalize (sy d).2 = d1 at W1 e2 F0 ⊢
        rw [read_eq W1]
        dsimp only [Option.bind_some]
        have key : ∃ r, lp (law15_DiskLasts_b1 a1 a2 (rdv d1 ((IntKind.i64.wrap a2).tmod 8)).1 (rdv d1 ((IntKind.i64.wrap a2).tmod 8)).2) (0, d1) = some r ∧ ∃ x, r = .inl x ∧ WFd 8 x ∧ x.pending.length ≤ 1000 ∧ Far ((IntKind.i64.wrap a2).tmod 8) (rdv d1 ((IntKind.i64.wrap a2).tmod 8)) x := by
          unfold law15_DiskLasts_b1
          have F0 := F0 ((IntKind.i64.wrap a2).tmod 8)
          generalize (IntKind.i64.wrap a2).tmod 8 = t at F0 ⊢
          generalize rdv d1 t = v at F0 ⊢
          refine lp_all (fun k (s : Int × disk_Disk) => s.1 = (k : Int) ∧ WFd 8 s.2 ∧ s.2.pending.length ≤ k ∧ Far t v s.2) _ a1.length (by omega) ⟨rfl, W1, by rw [e2]; exact Nat.zero_le _, F0⟩ ?_ ?_
          · rintro k ⟨x, e⟩ hk ⟨hx, We, hpe, hF⟩
            dsimp only at hx We hpe hF
            subst hx
            dsimp only
            rw [if_pos (by omega), if_pos (by omega), Int.toNat_natCast, w64n (by omega)]
            have go : good_law15_Op (a1.getD k (⟨0, 0, 0, [], 0, []⟩ : law15_Op)) := g1.2 _ (getD_mem hk OP0)
            generalize a1.getD k (⟨0, 0, 0, [], 0, []⟩ : law15_Op) = o at go ⊢
            have e1 : ((if o.What < 5 then some true else some (decide (o.What > 8))) : Option Bool) = some (decide (¬ (5 ≤ o.What ∧ o.What ≤ 8))) := by
              by_cases c1 : o.What < 5
              · rw [if_pos c1]; congr 1; exact (decide_eq_true (by omega)).symm
              · rw [if_neg c1]; congr 1; exact decide_eq_decide.2 (by omega)
            rw [e1]
            dsimp only [Option.bind_some]
            have step : ((5 ≤ o.What ∧ o.What ≤ 8) ∨ o.At ≠ t) → ∃ s' : Int × disk_Disk, ((law15_Do_f e o).bind fun (p : Int × disk_Disk) => ((disk_Disk_Read_f p.2 t).bind fun (q : List Int × Int) => (if q.1 ≠ v.1 then some (.inr (.inr false)) else (if q.2 ≠ v.2 then some (.inr (.inr false)) else some (.inl (((k + 1 : Nat) : Int), p.2)))) : Option (Int × disk_Disk ⊕ (disk_Disk ⊕ Bool)))) = some (.inl s') ∧ s'.1 = ((k + 1 : Nat) : Int) ∧ WFd 8 s'.2 ∧ s'.2.pending.length ≤ k + 1 ∧ Far t v s'.2 := by
              intro ho
              have W2 := We.dov go
              have F2 := hF.dov We ho
              rw [do_eq We (by omega)]
              dsimp only [Option.bind_some]
              rw [read_eq W2.1, F2.rdv]
              dsimp only [Option.bind_some]
              rw [if_neg (by simp), if_neg (by simp)]
              exact ⟨_, rfl, rfl, W2.1, Nat.le_trans W2.2 (Nat.succ_le_succ hpe), F2⟩
            by_cases c1 : 5 ≤ o.What ∧ o.What ≤ 8
            · rw [if_neg (by rw [decide_eq_true_iff]; exact fun h => h c1)]
              dsimp only [Option.bind_some]
              rw [if_neg (by simp)]
              exact step (.inl c1)
            · rw [if_pos (decide_eq_true c1)]
              dsimp only [Option.bind_some]
              by_cases c2 : o.At = t
              · rw [if_pos (decide_eq_true c2)]
                exact ⟨_, rfl, rfl, We, Nat.le_succ_of_le hpe, hF⟩
              · rw [if_neg (by simpa using c2)]
                exact step (.inr c2)
          · rintro ⟨x, e⟩ ⟨hx, We, hpe, hF⟩
            dsimp only at hx We hpe hF
            subst hx
            exact ⟨_, by dsimp only; rw [if_neg (by omega)], e, rfl, We, by omega, hF⟩
        obtain ⟨r, h2, x, rfl, Wx, hpx, hFx⟩ := key
        rw [h2]
        dsimp only [Option.bind_some]
        rw [crash_eq Wx (by omega)]
        dsimp only [Option.bind_some]
        rw [read_eq (Wx.cra [] (-1)), (hFx.cra Wx [] (-1)).rdv]
        simp
end Go.Proofs.Ytddfdbpjldcjiaa
