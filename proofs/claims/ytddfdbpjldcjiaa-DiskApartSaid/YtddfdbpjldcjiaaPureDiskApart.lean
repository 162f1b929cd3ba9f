/- The statement DiskApart: plain Lean. -/
import Derived.Test.YtddfdbpjldcjiaaDiskB
import Derived.Test.YtddfdbpjldcjiaaGDiskApart
set_option linter.unusedVariables false
set_option linter.unusedSimpArgs false
namespace Go.Proofs.Ytddfdbpjldcjiaa
open Go Go.RowKit
theorem apart_b0 (a0 : List law15_Op) (hl : a0.length ≤ 300) (g : ∀ y ∈ a0, good_law15_Op y) : ∃ d, lp (law15_DiskApart_b0 a0) (0, dnew 6, dnew 6) = some (d, d) ∧ WFd 6 d ∧ d.pending.length ≤ 300 := by
  have key : ∃ r, lp (law15_DiskApart_b0 a0) (0, dnew 6, dnew 6) = some r ∧ ∃ d, r = (d, d) ∧ WFd 6 d ∧ d.pending.length ≤ 300 := by
    refine lp_all (fun k (s : Int × disk_Disk × disk_Disk) => s.1 = (k : Int) ∧ s.2.1 = s.2.2 ∧ WFd 6 s.2.2 ∧ s.2.2.pending.length ≤ k) _ a0.length (by omega) ⟨rfl, rfl, WFd.new 6, Nat.zero_le _⟩ ?_ ?_
    · rintro k ⟨x, d, e⟩ hk ⟨hx, hd, W, hp⟩
      dsimp only at hx hd W hp
      subst hx hd
      have W2 := W.dov (g _ (getD_mem hk OP0))
      refine ⟨(((k + 1 : Nat) : Int), (dov d (a0.getD k OP0)).2, (dov d (a0.getD k OP0)).2), ?_, rfl, rfl, W2.1, Nat.le_trans W2.2 (Nat.succ_le_succ hp)⟩
      unfold law15_DiskApart_b0
      dsimp only
      rw [if_pos (by omega), if_pos (by omega), Int.toNat_natCast, do_eq W (by omega)]
      dsimp only [Option.bind_some]
      rw [if_pos (by omega), w64n (by omega)]
    · rintro ⟨x, d, e⟩ ⟨hx, hd, W, hp⟩
      dsimp only at hx hd W hp
      subst hx hd
      exact ⟨_, by unfold law15_DiskApart_b0; dsimp only; rw [if_neg (by omega)], d, rfl, W, by omega⟩
  obtain ⟨r, h1, d, rfl, h2⟩ := key
  exact ⟨d, h1, h2⟩
/-- Two writes behind a sync, then a crash that keeps both or none. -/
theorem two_wr {d : disk_Disk} (W : WFd 6 d) (hp : d.pending = []) (hf : d.fuse = -1) {p q : Int} (hpr : 0 ≤ p ∧ p < 6) (hqr : 0 ≤ q ∧ q < 6) {u v : Int} (hu : 0 ≤ u ∧ u < 256) (hv : 0 ≤ v ∧ v < 256) (b : Bool) :
    ∃ d1 x, disk_Disk_Write_f d p (List.replicate 64 u) = some (0, d1) ∧ (∃ d2, disk_Disk_Write_f d1 q (List.replicate 64 v) = some (0, d2) ∧ disk_Disk_Crash_f d2 [b, b] (-1) = some x) ∧ WFd 6 x ∧
      ∀ i, rdv x i = if b = true then (if q = i then (List.replicate 64 v, 0) else if p = i then (List.replicate 64 u, 0) else base d i) else base d i := by
  have W1 := (W.wr p (List.replicate 64 u)).1
  have e1 := write_eq d p (List.replicate 64 u) (by rw [hp]; exact Nat.zero_le _)
  have h1 := wr_ok (d := d) (i := p) (b := List.replicate 64 u) (by rw [hf]; decide) (by simp) (by rw [W.len]; exact hpr)
  have hlow : (lower d).fuse = -1 := by rw [lower_fuse W, hf]; decide
  rw [h1] at W1 e1
  rw [hp, List.nil_append, hlow] at W1 e1
  have W2 := (W1.wr q (List.replicate 64 v)).1
  have e2 := write_eq (⟨d.sectors, d.torn, [⟨p, Arr.of 64 ((List.replicate 64 u).take 64)⟩], -1⟩ : disk_Disk) q (List.replicate 64 v) (by simp)
  have h2 := wr_ok (d := ⟨d.sectors, d.torn, [⟨p, Arr.of 64 ((List.replicate 64 u).take 64)⟩], -1⟩) (i := q) (b := List.replicate 64 v) (by show (-1 : Int) ≠ 0; decide) (by simp) (by show 0 ≤ q ∧ q < (d.sectors.length : Int); rw [W.len]; exact hqr)
  rw [h2] at W2 e2
  refine ⟨_, _, e1, ⟨_, e2, crash_eq W2 (by simp) _ _⟩, W2.cra _ _, fun i => ?_⟩
  rw [rdv_cra W2]
  show cv1 [b, b] (-1) i 1 (cv1 [b, b] (-1) i 0 (base d i) _) _ = _
  unfold cv1 upd1
  dsimp only
  rw [arr_fill hu, arr_fill hv]
  cases b with
  | true => simp
  | false => simp
theorem pure_DiskApart (a0 : List law15_Op) (a1 a2 a3 a4 : Int) (a5 : Bool) (g0 : a0.length ≤ maxLen ∧ ∀ y ∈ a0, good_law15_Op y) (g1 : 0 ≤ a1 ∧ a1 < 256) (g2 : 0 ≤ a2 ∧ a2 < 256) (g3 : 0 ≤ a3 ∧ a3 < 256) (g4 : 0 ≤ a4 ∧ a4 < 256) : law15_DiskApart_f a0 a1 a2 a3 a4 a5 = some true := by
  unfold law15_DiskApart_f
  rw [head_eq, show disk_New_f 6 = some (some (dnew 6)) from new_eq (n := 6) (by decide)]
  dsimp only [Option.bind_some]
  obtain ⟨b, hb, hlen⟩ := great_eq a0 g0.1
  rw [hb]
  dsimp only [Option.bind_some]
  cases b with
  | true => rfl
  | false =>
    rw [if_neg (by simp)]
    obtain ⟨d, h1, W, hp⟩ := apart_b0 a0 (hlen rfl) g0.2
    rw [h1]
    dsimp only [Option.bind_some]
    rw [show disk_Disk_Fuse_f d (-1) = some (fus d (-1)) from rfl]
    dsimp only [Option.bind_some]
    have Wf : WFd 6 (fus d (-1)) := W.fus (by decide)
    rw [sync_eq Wf (by show d.pending.length ≤ _; omega)]
    dsimp only [Option.bind_some]
    have Ws := Wf.sy.1
    have hff : (fus d (-1)).fuse = -1 := rfl
    have hs1 : (sy (fus d (-1))).2.pending = [] := by unfold sy; rw [if_neg (by rw [hff]; decide)]
    have hs2 : (sy (fus d (-1))).2.fuse = -1 := by
      unfold sy; rw [if_neg (by rw [hff]; decide)]
      show (lower (fus d (-1))).fuse = -1
      rw [lower_fuse Wf, hff]; decide
    generalize (sy (fus d (-1))).2 = s at Ws hs1 hs2 ⊢
    have w1 : IntKind.i64.wrap a1 = a1 := w64 (by omega) (by omega)
    have w2 : IntKind.i64.wrap a2 = a2 := w64 (by omega) (by omega)
    have hP : 0 ≤ a1.tmod 6 ∧ a1.tmod 6 < 6 := by rw [Int.tmod_eq_emod_of_nonneg g1.1]; omega
    have hQ : 0 ≤ a2.tmod 6 ∧ a2.tmod 6 < 6 := by rw [Int.tmod_eq_emod_of_nonneg g2.1]; omega
    unfold law15_DiskApart_b1
    rw [w1, w2]
    generalize a1.tmod 6 = P at hP ⊢
    generalize a2.tmod 6 = T at hQ ⊢
    obtain ⟨d1, x, e1, ⟨d2, e2, e3⟩, Wx, hx⟩ := two_wr Ws hs1 hs2 hP hQ g3 g4 a5
    obtain ⟨d3, y, e4, ⟨d4, e5, e6⟩, Wy, hy⟩ := two_wr Ws hs1 hs2 hQ hP g4 g3 a5
    simp only [fill_eq, Option.bind_some, e1, e2, e4, e5, e3, e6]
    have key : ∃ r, lp (fun (z : Bool × Int) => (if z.2 < 6 then ((disk_Disk_Read_f x z.2).bind fun (p : List Int × Int) => ((disk_Disk_Read_f y z.2).bind fun (q : List Int × Int) => (((if P ≠ T then (if p.1 ≠ q.1 then some (z.1, true) else some (z.1, decide (p.2 ≠ q.2))) else (if z.1 = true then some (true, false) else (if p.1 ≠ q.1 then some (false, true) else some (false, decide (p.2 ≠ q.2))))) : Option (Bool × Bool)).bind fun (m : Bool × Bool) => (if m.2 = true then some (.inr (.inr false)) else some (.inl (m.1, IntKind.i64.wrap (z.2 + 1))))))) else some (.inr (.inl z.1)) : Option ((Bool × Int) ⊕ (Bool ⊕ Bool)))) (a5, 0) = some r ∧ r = .inl a5 := by
      refine lp_all (fun k (s : Bool × Int) => s = (a5, (k : Int))) _ 6 (by decide) rfl ?_ ?_
      · rintro k s hk rfl
        refine ⟨(a5, ((k + 1 : Nat) : Int)), ?_, rfl⟩
        dsimp only
        rw [if_pos (by omega), read_eq Wx, read_eq Wy, hx, hy, w64n (by omega)]
        dsimp only [Option.bind_some]
        by_cases c : P = T
        · subst c
          rw [if_neg (by simp)]
          cases a5 with
          | true => simp
          | false => simp
        · rw [if_pos c]
          cases a5 with
          | true =>
            rw [if_pos rfl, if_pos rfl]
            by_cases c1 : T = (k : Int)
            · have c2 : ¬ P = (k : Int) := fun e => c (e.trans c1.symm)
              rw [if_pos c1, if_neg c2, if_pos c1]; simp
            · rw [if_neg c1]
              by_cases c2 : P = (k : Int)
              · rw [if_pos c2, if_pos c2]; simp
              · rw [if_neg c2, if_neg c2, if_neg c1]; simp
          | false => simp
      · rintro s rfl
        exact ⟨_, by dsimp only; rw [if_neg (by decide)], rfl⟩
    obtain ⟨r, h2, rfl⟩ := key
    refine Option.bind_eq_some_iff.2 ⟨_, h2, ?_⟩
    dsimp only
    rw [read_eq Wx, hx]
    dsimp only [Option.bind_some]
    cases a5 with
    | true => simp
    | false => simp
end Go.Proofs.Ytddfdbpjldcjiaa
