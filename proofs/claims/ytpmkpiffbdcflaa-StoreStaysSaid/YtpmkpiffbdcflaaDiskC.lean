/- The disk, plain: what a crash keeps. -/
import Derived.Test.YtpmkpiffbdcflaaDisk
set_option linter.unusedVariables false
set_option linter.unusedSimpArgs false
namespace Go.Proofs.Ytpmkpiffbdcflaa
open Go Go.RowKit
theorem wf64 {x : Int} (h : (Lit.int .i64 x).wf = true) : -9223372036854775808 ≤ x ∧ x < 9223372036854775808 := by
  have e1 : IntKind.i64.min = -9223372036854775808 := by decide
  have e2 : IntKind.i64.max = 9223372036854775807 := by decide
  simp only [Lit.wf] at h
  simp [e1, e2] at h
  omega
theorem getD_mem {α : Type} {l : List α} {k : Nat} (h : k < l.length) (z : α) : l.getD k z ∈ l := by
  rw [List.getD_eq_getElem?_getD, List.getElem?_eq_getElem h]; exact List.getElem_mem h
/-! ### What a crash keeps -/
theorem crV_all (keep : List Bool) (tear i : Int) : ∀ (ps : List disk_write) (k : Nat) (v : List Int × Int), (∀ j : Nat, k ≤ j → j < k + ps.length → keep.getD j false = true ∧ (j : Int) ≠ tear) → crV keep tear i k v ps = ps.foldl (upd1 i) v
  | [], _, _, _ => rfl
  | p :: ps, k, v, h => by
    have h0 := h k (Nat.le_refl _) (by simp)
    show crV keep tear i (k + 1) (cv1 keep tear i k v p) ps = _
    rw [crV_all keep tear i ps (k + 1) _ (fun j h1 h2 => h j (by omega) (by simp only [List.length_cons]; omega))]
    unfold cv1
    rw [if_neg h0.2, if_pos h0.1]; rfl
theorem crV_none (tear i : Int) : ∀ (ps : List disk_write) (k : Nat) (v : List Int × Int), (∀ j : Nat, k ≤ j → j < k + ps.length → (j : Int) ≠ tear) → crV [] tear i k v ps = v
  | [], _, _, _ => rfl
  | p :: ps, k, v, h => by
    show crV [] tear i (k + 1) (cv1 [] tear i k v p) ps = _
    rw [crV_none tear i ps (k + 1) _ (fun j h1 h2 => h j (by omega) (by simp only [List.length_cons]; omega))]
    unfold cv1
    rw [if_neg (h k (Nat.le_refl _) (by simp)), if_neg (by simp)]
theorem crV_far (keep : List Bool) (tear i : Int) : ∀ (ps : List disk_write) (k : Nat) (v : List Int × Int), (∀ p ∈ ps, p.at_ ≠ i) → crV keep tear i k v ps = v
  | [], _, _, _ => rfl
  | p :: ps, k, v, h => by
    show crV keep tear i (k + 1) (cv1 keep tear i k v p) ps = _
    rw [crV_far keep tear i ps (k + 1) _ (fun q hq => h q (List.mem_cons_of_mem _ hq))]
    have hp := h p List.mem_cons_self
    unfold cv1 upd1
    rw [if_neg hp, if_neg hp]
    by_cases c : (k : Int) = tear
    · rw [if_pos c]
    · rw [if_neg c]
      by_cases c2 : keep.getD k false = true
      · rw [if_pos c2]
      · rw [if_neg c2]
theorem crV_snoc (keep : List Bool) (tear i : Int) : ∀ (ps : List disk_write) (k : Nat) (v : List Int × Int) (p : disk_write), crV keep tear i k v (ps ++ [p]) = cv1 keep tear i (k + ps.length) (crV keep tear i k v ps) p
  | [], _, _, _ => rfl
  | q :: ps, k, v, p => by
    show crV keep tear i (k + 1) (cv1 keep tear i k v q) (ps ++ [p]) = _
    rw [crV_snoc keep tear i ps (k + 1), List.length_cons, show k + 1 + ps.length = k + (ps.length + 1) by omega]
    rfl
theorem rdv_cra_empty {n : Nat} {d : disk_Disk} (W : WFd n d) (h : d.pending = []) (keep : List Bool) (tear i : Int) : rdv (cra d keep tear) i = rdv d i := by
  rw [rdv_cra W, h]
  show base d i = rdv d i
  unfold rdv
  rw [h]; rfl
theorem cra_pending (d : disk_Disk) (keep : List Bool) (tear : Int) : (cra d keep tear).pending = [] := rfl
theorem arr_of {b : List Int} (h : b.length = 64) (hb : Bytes b) : (Arr.of 64 (b.take 64)).l = b := by
  have e : b.take 64 = b := List.take_of_length_le (by omega)
  unfold Arr.of
  rw [e, dif_pos ⟨h, hb⟩]
theorem wr_ok {d : disk_Disk} {i : Int} {b : List Int} (h0 : d.fuse ≠ 0) (hl : (b.length : Int) = 64) (hi : 0 ≤ i ∧ i < (d.sectors.length : Int)) : wr d i b = (0, ⟨d.sectors, d.torn, d.pending ++ [⟨i, Arr.of 64 (b.take 64)⟩], (lower d).fuse⟩) := by
  unfold wr
  rw [if_neg h0, if_neg (by simpa using hl), if_pos hi]
theorem rdv_snoc (s : List (Arr 64)) (t : List (Int × Int)) (ps : List disk_write) (p : disk_write) (f g i : Int) : rdv ⟨s, t, ps ++ [p], f⟩ i = upd1 i (rdv ⟨s, t, ps, g⟩ i) p := by
  unfold rdv
  dsimp only
  rw [List.foldl_append]; rfl
theorem rdv_wr {d : disk_Disk} {i : Int} {b : List Int} (h0 : d.fuse ≠ 0) (hl : (b.length : Int) = 64) (hi : 0 ≤ i ∧ i < (d.sectors.length : Int)) (j : Int) : rdv (wr d i b).2 j = if i = j then ((Arr.of 64 (b.take 64)).l, 0) else rdv d j := by
  rw [wr_ok h0 hl hi]
  dsimp only
  rw [rdv_snoc _ _ _ _ _ d.fuse]
  rfl
end Go.Proofs.Ytpmkpiffbdcflaa
