/- The statement DiskMay: plain Lean. -/
import Derived.Test.YtddfdbpjldcjiaaDiskB
import Derived.Test.YtddfdbpjldcjiaaGDiskMay
set_option linter.unusedVariables false
set_option linter.unusedSimpArgs false
namespace Go.Proofs.Ytddfdbpjldcjiaa
open Go Go.RowKit
theorem may_end (a1 : List Bool) (T t : Int) {d : disk_Disk} (W : WFd 6 d) (hp : d.pending.length ≤ 1000) :
    disk_Disk_Crash_f d a1 T = some (cra d a1 T) ∧ disk_Disk_Read_f (cra d a1 T) t = some (crV a1 T t 0 (base d t) d.pending) :=
  ⟨crash_eq W (by omega) _ _, by rw [read_eq (W.cra a1 T), rdv_cra W]⟩
theorem pure_DiskMay' (a0 : List law15_Op) (a1 : List Bool) (a2 a3 : Int) (g0 : a0.length ≤ maxLen ∧ ∀ y ∈ a0, good_law15_Op y) : law15_DiskMay_f a0 a1 a2 a3 = some true := by
  unfold law15_DiskMay_f
  rw [head_eq, show disk_New_f 6 = some (some (dnew 6)) from new_eq (n := 6) (by decide)]
  dsimp only [Option.bind_some]
  obtain ⟨b, hb, hlen⟩ := great_eq a0 g0.1
  rw [hb]
  dsimp only [Option.bind_some]
  cases b with
  | true => rfl
  | false =>
    rw [if_neg (by simp)]
    have hl := hlen rfl
    by_cases c9 : (a1.length : Int) > 900
    · rw [if_pos c9]
    · rw [if_neg c9, sync_eq (WFd.new 6) (Nat.zero_le _)]
      dsimp only [Option.bind_some]
      have W0 := (WFd.new 6).sy.1
      rw [read_eq W0]
      dsimp only [Option.bind_some]
      have hpe : (sy (dnew 6)).2.pending = [] := rfl
      have hfe : (sy (dnew 6)).2.fuse = -1 := by
        show max (IntKind.i64.wrap (-1 - 1)) (-1) = -1
        rw [w64 (by omega) (by omega)]; decide
      have hre : rdv (sy (dnew 6)).2 ((IntKind.i64.wrap a3).tmod 6) = base (sy (dnew 6)).2 ((IntKind.i64.wrap a3).tmod 6) := by unfold rdv; rw [hpe]; rfl
      generalize (sy (dnew 6)).2 = d0 at W0 hpe hfe hre ⊢
      have key : ∃ r, lp (law15_DiskMay_b0 a0 a1 a2 a3) ((rdv d0 ((IntKind.i64.wrap a3).tmod 6)).1, (rdv d0 ((IntKind.i64.wrap a3).tmod 6)).2, 0, 0, d0) = some r ∧ WFd 6 r.2.2.2 ∧ r.2.2.2.pending.length ≤ 1000 ∧ r.2.2.1 = (r.2.2.2.pending.length : Int) ∧ (r.1, r.2.1) = crV a1 (IntKind.i64.wrap a2) ((IntKind.i64.wrap a3).tmod 6) 0 (base r.2.2.2 ((IntKind.i64.wrap a3).tmod 6)) r.2.2.2.pending := by
        unfold law15_DiskMay_b0
        generalize (IntKind.i64.wrap a3).tmod 6 = t at hre ⊢
        generalize IntKind.i64.wrap a2 = T
        refine lp_all (fun k (s : List Int × Int × Int × Int × disk_Disk) => s.2.2.2.1 = (k : Int) ∧ WFd 6 s.2.2.2.2 ∧ s.2.2.2.2.fuse = -1 ∧ s.2.2.2.2.pending.length ≤ k ∧ s.2.2.1 = (s.2.2.2.2.pending.length : Int) ∧ (s.1, s.2.1) = crV a1 T t 0 (base s.2.2.2.2 t) s.2.2.2.2.pending) _ a0.length (by omega) ⟨rfl, W0, hfe, by rw [hpe]; exact Nat.zero_le _, by rw [hpe]; rfl, by rw [hpe, hre]; rfl⟩ ?_ ?_
        · rintro k ⟨u, v, c, x, d⟩ hk ⟨hx, W, hf, hp, hc, hv⟩
          dsimp only at hx W hf hp hc hv
          subst hx hc
          dsimp only
          rw [if_pos (by omega), if_pos (by omega), Int.toNat_natCast, w64n (by omega), w64n (by omega)]
          have go := g0.2 _ (getD_mem hk OP0)
          have gc : 0 ≤ (a0.getD k OP0).C ∧ (a0.getD k OP0).C < 256 := go.2.2.1
          by_cases c1 : (a0.getD k OP0).What < 0
          · rw [if_pos c1]; exact ⟨_, rfl, rfl, W, hf, by dsimp only; omega, rfl, hv⟩
          · rw [if_neg c1]
            by_cases c2 : (a0.getD k OP0).What > 3
            · rw [if_pos c2]; exact ⟨_, rfl, rfl, W, hf, by dsimp only; omega, rfl, hv⟩
            · rw [if_neg c2, fill_eq]
              dsimp only [Option.bind_some]
              rw [write_eq _ _ _ (by omega)]
              dsimp only [Option.bind_some]
              have hlow : (lower d).fuse = -1 := by rw [lower_fuse W, hf]; decide
              by_cases c3 : 0 ≤ (a0.getD k OP0).At ∧ (a0.getD k OP0).At < (d.sectors.length : Int)
              · have Ww := W.wr (a0.getD k OP0).At (List.replicate 64 (a0.getD k OP0).C)
                rw [wr_ok (by rw [hf]; decide) (by simp) c3] at Ww ⊢
                dsimp only at Ww ⊢
                rw [if_neg (by simp)]
                have e : ((if (a0.getD k OP0).At = t then (((if (d.pending.length : Int) = T then some ([], 41) else (((if (d.pending.length : Int) < (a1.length : Int) then (if 0 ≤ (d.pending.length : Int) ∧ (d.pending.length : Int) < (a1.length : Int) then some (a1.getD (d.pending.length : Int).toNat false) else none) else some false) : Option Bool).bind fun x66 => (((if x66 = true then ((some (List.replicate 64 (a0.getD k OP0).C)).bind fun x79 => some (x79, 0)) else some (u, v)) : Option (List Int × Int)).bind fun (x73, x76) => some (x73, x76)))) : Option (List Int × Int)).bind fun (x60, x63) => some (x60, x63)) else some (u, v)) : Option (List Int × Int)) = some (crV a1 T t 0 (base d t) (d.pending ++ [⟨(a0.getD k OP0).At, Arr.of 64 ((List.replicate 64 (a0.getD k OP0).C).take 64)⟩])) := by
                  rw [crV_snoc, ← hv, Nat.zero_add]
                  unfold cv1 upd1
                  dsimp only
                  rw [arr_fill gc]
                  by_cases d1 : (a0.getD k OP0).At = t
                  · rw [if_pos d1, if_pos d1, if_pos d1]
                    by_cases d2 : (d.pending.length : Int) = T
                    · rw [if_pos d2, if_pos d2]; rfl
                    · rw [if_neg d2, if_neg d2]
                      by_cases d3 : (d.pending.length : Int) < (a1.length : Int)
                      · rw [if_pos d3, if_pos (by omega), Int.toNat_natCast]
                        dsimp only [Option.bind_some]
                        by_cases d4 : a1.getD d.pending.length false = true
                        · rw [if_pos d4, if_pos d4]; rfl
                        · rw [if_neg d4, if_neg d4]; rfl
                      · have d4 : ¬ a1.getD d.pending.length false = true := by
                          rw [List.getD_eq_getElem?_getD, List.getElem?_eq_none (by omega)]; simp
                        rw [if_neg d3, if_neg d4]
                        dsimp only [Option.bind_some]
                        rw [if_neg (by simp)]; rfl
                  · rw [if_neg d1, if_neg d1, if_neg d1]
                    by_cases d2 : (d.pending.length : Int) = T
                    · rw [if_pos d2]
                    · rw [if_neg d2]
                      by_cases d4 : a1.getD d.pending.length false = true
                      · rw [if_pos d4]
                      · rw [if_neg d4]
                exact ⟨_, Option.bind_eq_some_iff.2 ⟨_, e, rfl⟩, rfl, Ww.1, hlow, by simp; omega, by simp, rfl⟩
              · have ew : wr d (a0.getD k OP0).At (List.replicate 64 (a0.getD k OP0).C) = (3, lower d) := by
                  unfold wr
                  rw [if_neg (by rw [hf]; decide), if_neg (by simp), if_neg c3]
                rw [ew]
                dsimp only
                rw [if_pos (by decide)]
                exact ⟨_, rfl, rfl, W.lower, hlow, by show d.pending.length ≤ _; omega, rfl, hv⟩
        · rintro ⟨u, v, c, x, d⟩ ⟨hx, W, hf, hp, hc, hv⟩
          dsimp only at hx W hf hp hc hv
          subst hx
          exact ⟨_, by dsimp only; rw [if_neg (by omega)], W, by dsimp only; omega, hc, hv⟩
      obtain ⟨⟨u, v, c, d⟩, h1, W, hp, hc, hv⟩ := key
      dsimp only at W hp hc hv
      subst hc
      rw [h1]
      obtain ⟨e1, e2⟩ := may_end a1 (IntKind.i64.wrap a2) ((IntKind.i64.wrap a3).tmod 6) W hp
      dsimp only [Option.bind_some, disk_Disk_Pending_f]
      rw [e1]
      dsimp only [Option.bind_some]
      rw [e2, ← hv]
      simp [cra]
theorem pure_DiskMay (a0 : List law15_Op) (a1 : List Bool) (a2 a3 : Int) (g0 : a0.length ≤ maxLen ∧ ∀ y ∈ a0, good_law15_Op y) {p q r : Prop} (g1 : p) (g2 : q) (g3 : r) : law15_DiskMay_f a0 a1 a2 a3 = some true := pure_DiskMay' a0 a1 a2 a3 g0
end Go.Proofs.Ytddfdbpjldcjiaa
