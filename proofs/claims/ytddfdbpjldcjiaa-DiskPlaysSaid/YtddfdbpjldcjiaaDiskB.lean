/- The disk's laws: what they have in common, plain. -/
import Derived.Test.YtddfdbpjldcjiaaDisk
import Derived.Test.YtddfdbpjldcjiaaReads
set_option linter.unusedVariables false
set_option linter.unusedSimpArgs false
namespace Go.Proofs.Ytddfdbpjldcjiaa
open Go Go.RowKit
theorem wf64 {x : Int} (h : (Lit.int .i64 x).wf = true) : -9223372036854775808 ≤ x ∧ x < 9223372036854775808 := by
  have e1 : IntKind.i64.min = -9223372036854775808 := by decide
  have e2 : IntKind.i64.max = 9223372036854775807 := by decide
  simp only [Lit.wf] at h
  simp [e1, e2] at h
  omega
theorem fill_eq (c : Int) : law15_Fill_f c = some (List.replicate 64 c) := by
  unfold law15_Fill_f
  rw [if_pos (by decide)]
  have key : ∃ r, lp (law15_Fill_b0 c) (List.replicate (64 : Int).toNat (0 : Int), 0) = some r ∧ r = List.replicate 64 c := by
    refine lp_all (fun k (s : List Int × Int) => s.2 = (k : Int) ∧ s.1 = List.replicate k c ++ List.replicate (64 - k) 0) _ 64 (by decide) ⟨rfl, rfl⟩ ?_ ?_
    · rintro k ⟨l, x⟩ hk ⟨hx, hl⟩
      dsimp only at hx hl
      subst hx hl
      refine ⟨(List.replicate (k + 1) c ++ List.replicate (64 - (k + 1)) 0, ((k + 1 : Nat) : Int)), ?_, rfl, rfl⟩
      unfold law15_Fill_b0
      dsimp only
      have hl : (List.replicate k c ++ List.replicate (64 - k) (0 : Int)).length = 64 := by simp; omega
      rw [if_pos (by omega), if_pos (by rw [hl]; omega), Int.toNat_natCast, w64n (by omega)]
      have h1 : 64 - k = (64 - (k + 1)) + 1 := by omega
      rw [h1, List.replicate_succ, List.set_append_right _ _ (by simp), List.length_replicate, Nat.sub_self, List.set_cons_zero, List.replicate_succ' (n := k)]
      simp
    · rintro ⟨l, x⟩ ⟨hx, hl⟩
      dsimp only at hx hl
      subst hx hl
      exact ⟨List.replicate 64 c ++ List.replicate (64 - 64) 0, by unfold law15_Fill_b0; dsimp only; rw [if_neg (by decide)], by simp⟩
  obtain ⟨r, h1, rfl⟩ := key
  rw [h1]; rfl
theorem fill_len (c : Int) : ((List.replicate 64 c).length : Int) = 64 := by simp
theorem great_eq (a : List law15_Op) (h : a.length ≤ maxLen) : ∃ b, law15_Great_f a = some b ∧ (b = false → a.length ≤ 300) := by
  have hm : maxLen ≤ 9223372036854775807 := by decide
  have key : ∃ r, lp (law15_Great_b0 a) ((a.length : Int), 0) = some r ∧ True := by
    refine lp_run (fun k (s : Int × Int) => s.2 = (k : Int) ∧ 0 ≤ s.1 ∧ (s.1 < 9000 + 18000 ∨ s.1 = (a.length : Int))) _ a.length (by omega) ⟨rfl, by omega, .inr rfl⟩ ?_ ?_
    · rintro k ⟨x, y⟩ hk ⟨hy, h0, h1⟩
      dsimp only at hy h0 h1
      subst hy
      by_cases c : x < 9000
      · have e : ∃ u v : Int, (0 ≤ u ∧ u ≤ 9000) ∧ (0 ≤ v ∧ v ≤ 9000) ∧ law15_Great_b0 a (x, (k : Int)) = some (.inl (IntKind.i64.wrap (IntKind.i64.wrap (x + u) + v), IntKind.i64.wrap ((k : Int) + 1))) := by
          refine ⟨min (((a.getD (k : Int).toNat (⟨0, 0, 0, [], 0, []⟩ : law15_Op)).B).length : Int) 9000, min (((a.getD (k : Int).toNat (⟨0, 0, 0, [], 0, []⟩ : law15_Op)).Keep).length : Int) 9000, by omega, by omega, ?_⟩
          unfold law15_Great_b0
          dsimp only
          rw [if_pos (by omega)]
          dsimp only [Option.bind_some]
          rw [if_pos (decide_eq_true c), if_pos (by omega), if_pos (by omega)]
        obtain ⟨u, v, hu, hv, e⟩ := e
        refine .inl ⟨_, e, w64n (by omega), ?_⟩
        dsimp only
        rw [w64 (x := x + u) (by omega) (by omega), w64 (by omega) (by omega)]
        omega
      · refine .inr ⟨x, ?_, trivial⟩
        unfold law15_Great_b0
        dsimp only
        rw [if_pos (by omega)]
        dsimp only [Option.bind_some]
        rw [if_neg (by simpa using c)]
    · rintro ⟨x, y⟩ ⟨hy, h0, h1⟩
      dsimp only at hy
      subst hy
      refine ⟨x, ?_, trivial⟩
      unfold law15_Great_b0
      dsimp only
      rw [if_neg (by omega)]
      rfl
  obtain ⟨r, h1, _⟩ := key
  unfold law15_Great_f
  rw [h1]
  dsimp only [Option.bind_some]
  by_cases c : r ≥ 9000
  · rw [if_pos c]; exact ⟨true, rfl, fun h => (by cases h)⟩
  · rw [if_neg c]
    refine ⟨_, rfl, fun h => ?_⟩
    have := of_decide_eq_false h
    omega
/-! ### One call -/
def dov (d : disk_Disk) (o : law15_Op) : Int × disk_Disk :=
  if o.What = 4 then wr d o.At o.B else if o.What = 5 ∨ o.What = 6 then sy d else if o.What = 7 then (0, fus d o.N) else if o.What = 8 then (0, cra d o.Keep o.N) else wr d o.At (List.replicate 64 o.C)
theorem do_eq {n : Nat} {d : disk_Disk} (W : WFd n d) (hp : d.pending.length ≤ 1000000) (o : law15_Op) : law15_Do_f d o = some (dov d o) := by
  unfold law15_Do_f dov
  by_cases c4 : o.What = 4
  · rw [if_pos c4, if_pos c4, write_eq d _ _ hp]; rfl
  · rw [if_neg c4, if_neg c4]
    have e : (if o.What = 5 then some true else some (decide (o.What = 6)) : Option Bool) = some (decide (o.What = 5 ∨ o.What = 6)) := by
      by_cases c5 : o.What = 5
      · rw [if_pos c5, decide_eq_true (.inl c5)]
      · rw [if_neg c5]; simp [c5]
    rw [e]
    dsimp only [Option.bind_some]
    by_cases c5 : o.What = 5 ∨ o.What = 6
    · rw [if_pos (decide_eq_true c5), if_pos c5, sync_eq W hp]; rfl
    · rw [if_neg (by simpa using c5), if_neg c5]
      by_cases c7 : o.What = 7
      · rw [if_pos c7, if_pos c7]; rfl
      · rw [if_neg c7, if_neg c7]
        by_cases c8 : o.What = 8
        · rw [if_pos c8, if_pos c8, crash_eq W hp]; rfl
        · rw [if_neg c8, if_neg c8, fill_eq]
          dsimp only [Option.bind_some]
          rw [write_eq d _ _ hp]; rfl
theorem WFd.dov {n : Nat} {d : disk_Disk} (W : WFd n d) {o : law15_Op} (g : good_law15_Op o) : WFd n (dov d o).2 ∧ (dov d o).2.pending.length ≤ d.pending.length + 1 := by
  unfold Go.Proofs.Ytddfdbpjldcjiaa.dov
  by_cases c4 : o.What = 4
  · rw [if_pos c4]; exact W.wr _ _
  · rw [if_neg c4]
    by_cases c5 : o.What = 5 ∨ o.What = 6
    · rw [if_pos c5]; exact ⟨W.sy.1, Nat.le_succ_of_le W.sy.2⟩
    · rw [if_neg c5]
      by_cases c7 : o.What = 7
      · rw [if_pos c7]
        have := wf64 g.2.2.2.2.1
        exact ⟨W.fus this.2, Nat.le_succ _⟩
      · rw [if_neg c7]
        by_cases c8 : o.What = 8
        · rw [if_pos c8]; exact ⟨W.cra _ _, Nat.zero_le _⟩
        · rw [if_neg c8]; exact W.wr _ _
abbrev OP0 : law15_Op := ⟨0, 0, 0, [], 0, []⟩
theorem getD_mem {α : Type} {l : List α} {k : Nat} (h : k < l.length) (z : α) : l.getD k z ∈ l := by
  rw [List.getD_eq_getElem?_getD, List.getElem?_eq_getElem h]; exact List.getElem_mem h
/-- A run of calls: each gives a state; the loops of this form, all laws. -/
theorem run_lp {n : Nat} {f : Int × disk_Disk → Option (Int × disk_Disk ⊕ disk_Disk)} (a : List law15_Op) (ha : a.length ≤ 300) (g : ∀ y ∈ a, good_law15_Op y)
    (hf : ∀ x d, f (x, d) = if x < (a.length : Int) then (if 0 ≤ x ∧ x < (a.length : Int) then ((law15_Do_f d (a.getD x.toNat OP0)).bind fun (p : Int × disk_Disk) => some (.inl (IntKind.i64.wrap (x + 1), p.2))) else none) else some (.inr d)) {d : disk_Disk} (W : WFd n d) (hp : d.pending.length ≤ 1000) :
    ∃ r, lp f (0, d) = some r ∧ WFd n r ∧ r.pending.length ≤ d.pending.length + a.length ∧ r = a.foldl (fun d o => (dov d o).2) d := by
  refine lp_all (fun k (s : Int × disk_Disk) => s.1 = (k : Int) ∧ WFd n s.2 ∧ s.2.pending.length ≤ d.pending.length + k ∧ (a.drop k).foldl (fun d o => (dov d o).2) s.2 = a.foldl (fun d o => (dov d o).2) d) _ a.length (by omega) ⟨rfl, W, Nat.le_refl _, by simp⟩ ?_ ?_
  · rintro k ⟨x, e⟩ hk ⟨hx, We, hl, hd⟩
    dsimp only at hx We hl hd
    subst hx
    have ho := WFd.dov We (g _ (getD_mem hk OP0))
    refine ⟨(((k + 1 : Nat) : Int), (dov e (a.getD k OP0)).2), ?_, rfl, ho.1, by have := ho.2; dsimp only; omega, ?_⟩
    · rw [hf, if_pos (by omega), if_pos (by omega), Int.toNat_natCast, do_eq We (by omega)]
      dsimp only [Option.bind_some]
      rw [w64n (by omega)]
    · rw [drop_get hk OP0, List.foldl_cons] at hd
      exact hd
  · rintro ⟨x, e⟩ ⟨hx, We, hl, hd⟩
    dsimp only at hx We hl hd
    subst hx
    refine ⟨e, by rw [hf, if_neg (by omega)], We, hl, by simpa using hd⟩
theorem head_eq : law15_head_f = some true := by decide +kernel
/-! ### What a crash keeps -/
theorem crV_all (keep : List Bool) (tear i : Int) : ∀ (ps : List disk_write) (k : Nat) (v : List Int × Int), (∀ j : Nat, k ≤ j → j < k + ps.length → keep.getD j false = true ∧ (j : Int) ≠ tear) → crV keep tear i k v ps = ps.foldl (upd1 i) v
  | [], _, _, _ => rfl
  | p :: ps, k, v, h => by
    have h0 := h k (Nat.le_refl _) (by simp)
    show crV keep tear i (k + 1) (cv1 keep tear i k v p) ps = _
    rw [crV_all keep tear i ps (k + 1) _ (fun j h1 h2 => h j (by omega) (by simp only [List.length_cons]; omega))]
    unfold cv1
    rw [if_neg h0.2, if_pos h0.1]; rfl
theorem crV_none (tear i : Int) : ∀ (ps : List disk_write) (k : Nat) (v : List Int × Int), (∀ j : Nat, k ≤ j → j < k + ps.length → (j : Int) ≠ tear) → crV [] tear i k v ps = v
  | [], _, _, _ => rfl
  | p :: ps, k, v, h => by
    show crV [] tear i (k + 1) (cv1 [] tear i k v p) ps = _
    rw [crV_none tear i ps (k + 1) _ (fun j h1 h2 => h j (by omega) (by simp only [List.length_cons]; omega))]
    unfold cv1
    rw [if_neg (h k (Nat.le_refl _) (by simp)), if_neg (by simp)]
theorem crV_far (keep : List Bool) (tear i : Int) : ∀ (ps : List disk_write) (k : Nat) (v : List Int × Int), (∀ p ∈ ps, p.at_ ≠ i) → crV keep tear i k v ps = v
  | [], _, _, _ => rfl
  | p :: ps, k, v, h => by
    show crV keep tear i (k + 1) (cv1 keep tear i k v p) ps = _
    rw [crV_far keep tear i ps (k + 1) _ (fun q hq => h q (List.mem_cons_of_mem _ hq))]
    have hp := h p List.mem_cons_self
    unfold cv1 upd1
    rw [if_neg hp, if_neg hp]
    by_cases c : (k : Int) = tear
    · rw [if_pos c]
    · rw [if_neg c]
      by_cases c2 : keep.getD k false = true
      · rw [if_pos c2]
      · rw [if_neg c2]
theorem crV_snoc (keep : List Bool) (tear i : Int) : ∀ (ps : List disk_write) (k : Nat) (v : List Int × Int) (p : disk_write), crV keep tear i k v (ps ++ [p]) = cv1 keep tear i (k + ps.length) (crV keep tear i k v ps) p
  | [], _, _, _ => rfl
  | q :: ps, k, v, p => by
    show crV keep tear i (k + 1) (cv1 keep tear i k v q) (ps ++ [p]) = _
    rw [crV_snoc keep tear i ps (k + 1), List.length_cons, show k + 1 + ps.length = k + (ps.length + 1) by omega]
    rfl
theorem rdv_cra_empty {n : Nat} {d : disk_Disk} (W : WFd n d) (h : d.pending = []) (keep : List Bool) (tear i : Int) : rdv (cra d keep tear) i = rdv d i := by
  rw [rdv_cra W, h]
  show base d i = rdv d i
  unfold rdv
  rw [h]; rfl
theorem cra_pending (d : disk_Disk) (keep : List Bool) (tear : Int) : (cra d keep tear).pending = [] := rfl
theorem arr_of {b : List Int} (h : b.length = 64) (hb : Bytes b) : (Arr.of 64 (b.take 64)).l = b := by
  have e : b.take 64 = b := List.take_of_length_le (by omega)
  unfold Arr.of
  rw [e, dif_pos ⟨h, hb⟩]
theorem wr_ok {d : disk_Disk} {i : Int} {b : List Int} (h0 : d.fuse ≠ 0) (hl : (b.length : Int) = 64) (hi : 0 ≤ i ∧ i < (d.sectors.length : Int)) : wr d i b = (0, ⟨d.sectors, d.torn, d.pending ++ [⟨i, Arr.of 64 (b.take 64)⟩], (lower d).fuse⟩) := by
  unfold wr
  rw [if_neg h0, if_neg (by simpa using hl), if_pos hi]
theorem rdv_snoc (s : List (Arr 64)) (t : List (Int × Int)) (ps : List disk_write) (p : disk_write) (f g i : Int) : rdv ⟨s, t, ps ++ [p], f⟩ i = upd1 i (rdv ⟨s, t, ps, g⟩ i) p := by
  unfold rdv
  dsimp only
  rw [List.foldl_append]; rfl
theorem rdv_wr {d : disk_Disk} {i : Int} {b : List Int} (h0 : d.fuse ≠ 0) (hl : (b.length : Int) = 64) (hi : 0 ≤ i ∧ i < (d.sectors.length : Int)) (j : Int) : rdv (wr d i b).2 j = if i = j then ((Arr.of 64 (b.take 64)).l, 0) else rdv d j := by
  rw [wr_ok h0 hl hi]
  dsimp only
  rw [rdv_snoc _ _ _ _ _ d.fuse]
  rfl
theorem bytes_fill {c : Int} (h : 0 ≤ c ∧ c < 256) : Bytes (List.replicate 64 c) := fun x hx => by rw [List.eq_of_mem_replicate hx]; exact h
theorem arr_fill {c : Int} (h : 0 ≤ c ∧ c < 256) : (Arr.of 64 ((List.replicate 64 c).take 64)).l = List.replicate 64 c := arr_of (by simp) (bytes_fill h)
end Go.Proofs.Ytddfdbpjldcjiaa
