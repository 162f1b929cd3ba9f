/- The statement StorePlays: plain Lean. -/
import Derived.Test.YtpmkpiffbdcflaaStoP
import Derived.Test.YtpmkpiffbdcflaaGStorePlays
set_option linter.unusedVariables false
set_option linter.unusedSimpArgs false
namespace Go.Proofs.Ytpmkpiffbdcflaa
open Go Go.RowKit
abbrev SE0 : api_Sector := ⟨0, 0, 0, 0, []⟩
theorem plays18_b0 (a : List api_Sector) (ha : a.length ≤ maxLen) : ∃ r, lp (law18_StorePlays_b0 a) ((a.length : Int), 0) = some r := by
  have hm : maxLen ≤ 9223372036854775807 := by decide
  have key : ∃ r, lp (law18_StorePlays_b0 a) ((a.length : Int), 0) = some r ∧ True := by
    refine lp_run (fun k (s : Int × Int) => s.2 = (k : Int)) _ a.length (by omega) rfl ?_ ?_
    · rintro k ⟨x, y⟩ hk hy
      dsimp only at hy
      subst hy
      unfold law18_StorePlays_b0
      dsimp only
      rw [if_pos (by omega)]
      dsimp only [Option.bind_some]
      by_cases c : x < 9000
      · rw [if_pos (decide_eq_true c), if_pos (by omega), w64n (by omega)]
        exact .inl ⟨_, rfl, rfl⟩
      · rw [if_neg (by simpa using c)]
        exact .inr ⟨_, rfl, trivial⟩
    · rintro ⟨x, y⟩ hy
      dsimp only at hy
      subst hy
      unfold law18_StorePlays_b0
      dsimp only
      rw [if_neg (by omega)]
      exact ⟨_, rfl, trivial⟩
  obtain ⟨r, h, _⟩ := key
  exact ⟨r, h⟩
theorem plays18_b1 {n : Nat} (a : List api_Sector) (ha : a.length ≤ 60) (hS : ∀ y ∈ a, good_api_Sector y) : ∃ x, lp (law18_StorePlays_b1 a) (0, rnew n, dnew n) = some x ∧ WFd n x.2 ∧ x.2.pending.length ≤ 60 ∧ Rf n x.2 x.1 := by
  refine lp_all (fun k (s : Int × ref15_Disk × disk_Disk) => s.1 = (k : Int) ∧ WFd n s.2.2 ∧ s.2.2.pending.length ≤ k ∧ Rf n s.2.2 s.2.1) _ a.length (by omega) ⟨rfl, WFd.new n, Nat.zero_le _, Rf.new n⟩ ?_ ?_
  · rintro k ⟨x, r, d⟩ hk ⟨hx, W, hp, R⟩
    dsimp only at hx W hp R
    subst hx
    have gs := hS _ (getD_mem hk SE0)
    have hbb : Bytes (a.getD k SE0).Body := gs.2.2.2.2.2
    obtain ⟨r', h1, R'⟩ := rwrite_eq R W (by omega) (k : Int) (b := putOf (a.getD k SE0)) (putOf_bytes hbb)
    have W2 := W.wr (k : Int) (putOf (a.getD k SE0))
    refine ⟨(((k + 1 : Nat) : Int), r', (wr d (k : Int) (putOf (a.getD k SE0))).2), ?_, rfl, W2.1, by have := W2.2; dsimp only; omega, R'⟩
    unfold law18_StorePlays_b1
    dsimp only
    rw [if_pos (by omega), if_pos (by omega), Int.toNat_natCast, ref_Put_run _ hbb]
    dsimp only [Option.bind_some]
    rw [write_eq _ _ _ (by omega)]
    dsimp only [Option.bind_some]
    rw [if_pos (by omega), h1, w64n (by omega)]
    rfl
  · rintro ⟨x, r, d⟩ ⟨hx, W, hp, R⟩
    dsimp only at hx W hp R
    subst hx
    exact ⟨(r, d), by unfold law18_StorePlays_b1; dsimp only; rw [if_neg (by omega)], W, by dsimp only; omega, R⟩
theorem pure_StorePlays (a0 : Int) (a1 : List api_Sector) (a2 : List law18_Op) (g0 : 0 ≤ a0 ∧ a0 < 256) (g1 : a1.length ≤ maxLen ∧ ∀ y ∈ a1, good_api_Sector y) (g2 : a2.length ≤ maxLen ∧ ∀ y ∈ a2, good_law18_Op y) : law18_StorePlays_f a0 a1 a2 = some true := by
  obtain ⟨n, hn⟩ : ∃ n : Nat, IntKind.i64.wrap (a0.tmod 60) = (n : Int) ∧ n ≤ 60 := by
    have t2 := Int.emod_nonneg a0 (b := 60) (by omega)
    have t3 := Int.emod_lt_of_pos a0 (b := 60) (by omega)
    rw [Int.tmod_eq_emod_of_nonneg g0.1, w64 (by omega) (by omega)]
    exact ⟨(a0 % 60).toNat, by omega, by omega⟩
  have hn4 : n ≤ 4096 := by omega
  unfold law18_StorePlays_f
  rw [head18_eq]
  dsimp only [Option.bind_some]
  obtain ⟨r0, e0⟩ := plays18_b0 a1 g1.1
  rw [e0]
  dsimp only [Option.bind_some]
  obtain ⟨b, hb, hlen⟩ := great18_eq a2 g2.1 g2.2
  rw [hb]
  dsimp only [Option.bind_some]
  cases b with
  | true => rfl
  | false =>
    have hl := hlen rfl
    rw [if_neg (by simp)]
    by_cases c1 : r0 ≥ 9000
    · rw [if_pos c1]
    · rw [if_neg c1]
      by_cases c2 : (a1.length : Int) > 60
      · rw [if_pos c2]
      · rw [if_neg c2, hn.1, new_eq hn4, rnew_eq hn4]
        dsimp only [Option.bind_some]
        obtain ⟨⟨q, d⟩, e1, W, hp, R⟩ := plays18_b1 (n := n) a1 (by omega) g1.2
        dsimp only at W hp R
        rw [e1]
        dsimp only [Option.bind_some]
        obtain ⟨q1, e2, R1⟩ := rsync_eq R W (by omega)
        rw [sync_eq W (by omega)]
        dsimp only [Option.bind_some]
        rw [e2]
        dsimp only [Option.bind_some]
        have Ws := W.sy
        have hps : (sy d).2.pending.length ≤ 60 := Nat.le_trans Ws.2 hp
        have Ws := Ws.1
        generalize (sy d).2 = d1 at R1 Ws hps ⊢
        obtain ⟨r1, e3, S1⟩ := ropen_eq R1 Ws (by omega) hn4
        have K1 := wk_open hn4 Ws
        rw [open_eq Ws hn4]
        dsimp only [Option.bind_some]
        rw [e3]
        dsimp only [Option.bind_some]
        rw [alike18_eq hn4 R1 Ws (by omega) S1 K1.g]
        dsimp only [Option.bind_some]
        rw [if_pos rfl]
        have key : ∃ z, lp (law18_StorePlays_b2 a2) (opn n d1, r1, 0, q1, d1) = some z ∧ ∃ x, z = .inl x := by
          refine lp_all (fun k (t : store_Store × ref18_Store × Int × ref15_Disk × disk_Disk) => t.2.2.1 = (k : Int) ∧ t.2.2.2.2.pending.length ≤ 60 + 1100 * k ∧ Wk n t.1 t.2.2.2.2 ∧ Rs n t.1 t.2.1 ∧ Rf n t.2.2.2.2 t.2.2.2.1) _ a2.length (by omega) ⟨rfl, by dsimp only; omega, K1, S1, R1⟩ ?_ ?_
          · rintro k ⟨s, r, i, q, d⟩ hk ⟨hi, hp, K, S, R⟩
            dsimp only at hi hp K S R
            subst hi
            have gk := g2.2 _ (getD_mem hk OP8)
            have go := good8 gk
            have hdo := doT_eq K.w hn4 (by omega) K.g K.f go
            obtain ⟨r', q', e4, S', R'⟩ := plain18_eq hn4 R K.w (by omega) S K.g go gk.2.2.1.1
            have K' := wk_do hn4 K go
            have hpd := do_pend K.w s (a2.getD k OP8)
            generalize doT n d s (a2.getD k OP8) = t at hdo e4 S' R' K' hpd
            obtain ⟨s', c, d'⟩ := t
            dsimp only at e4 S' R' K' hpd
            unfold law18_StorePlays_b2
            dsimp only
            rw [if_pos (by omega), if_pos (by omega), Int.toNat_natCast, hdo]
            dsimp only [Option.bind_some]
            rw [if_pos (by omega), e4]
            dsimp only [Option.bind_some]
            rw [if_neg (by simp), alike18_eq hn4 R' K'.w (by omega) S' K'.g]
            dsimp only [Option.bind_some]
            rw [if_pos rfl, w64n (by omega)]
            have h10 := Nat.add_le_add_right hp 1100
            exact ⟨_, rfl, rfl, Nat.le_trans hpd (by rw [Nat.mul_succ, ← Nat.add_assoc]; exact h10), K', S', R'⟩
          · rintro ⟨s, r, i, q, d⟩ ⟨hi, _⟩
            dsimp only at hi
            subst hi
            exact ⟨_, by unfold law18_StorePlays_b2; dsimp only; rw [if_neg (by omega)], _, rfl⟩
        obtain ⟨z, h1, x, rfl⟩ := key
        rw [h1]; rfl
end Go.Proofs.Ytpmkpiffbdcflaa
