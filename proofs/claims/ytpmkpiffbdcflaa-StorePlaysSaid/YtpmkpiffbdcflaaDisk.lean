/- The disk, plain: what is read, what each call leaves. -/
import Derived.Test.YtpmkpiffbdcflaaPureB
import Derived.Test.YtpmkpiffbdcflaaGL
set_option linter.unusedVariables false
set_option linter.unusedSimpArgs false
namespace Go.Proofs.Ytpmkpiffbdcflaa
open Go Go.RowKit
/-! ### Maps of numbers -/
def keys (m : List (Int × Int)) : List Int := m.map (·.1)
theorem mget_mset (k v : Int) : ∀ (m : List (Int × Int)) (i : Int), mget (mset m k v) i = if i = k then some v else mget m i
  | [], i => by simp [mset, mget]
  | (a, b) :: m, i => by
    unfold mset
    by_cases h : k = a
    · subst h
      rw [if_pos rfl]
      simp only [mget]
      by_cases h2 : i = k
      · rw [if_pos h2, if_pos h2]
      · rw [if_neg h2, if_neg h2, if_neg h2]
    · rw [if_neg h]
      simp only [mget]
      rw [mget_mset k v m i]
      by_cases h2 : i = a
      · have h3 : ¬ i = k := fun e => h (e ▸ h2)
        rw [if_pos h2, if_neg h3, if_pos h2]
      · rw [if_neg h2, if_neg h2]
theorem mget_none : ∀ (m : List (Int × Int)) (i : Int), i ∉ keys m → mget m i = none
  | [], _, _ => rfl
  | (a, b) :: m, i, h => by
    simp only [keys, List.map_cons, List.mem_cons, not_or] at h
    simp only [mget]
    rw [if_neg h.1]
    exact mget_none m i h.2
theorem mget_mdel (k : Int) : ∀ (m : List (Int × Int)) (i : Int), (keys m).Nodup → mget (mdel m k) i = if i = k then none else mget m i
  | [], i, _ => by simp [mdel, mget]
  | (a, b) :: m, i, hn => by
    simp only [keys, List.map_cons, List.nodup_cons] at hn
    unfold mdel
    by_cases h : k = a
    · subst h
      rw [if_pos rfl]
      simp only [mget]
      by_cases h2 : i = k
      · subst h2
        rw [if_pos rfl, mget_none m i hn.1]
      · rw [if_neg h2, if_neg h2]
    · rw [if_neg h]
      simp only [mget]
      rw [mget_mdel k m i hn.2]
      by_cases h2 : i = a
      · have h3 : ¬ i = k := fun e => h (e ▸ h2)
        rw [if_pos h2, if_neg h3, if_pos h2]
      · rw [if_neg h2, if_neg h2]
theorem keys_mset (k v : Int) : ∀ (m : List (Int × Int)), (∀ x, x ∈ keys (mset m k v) → x = k ∨ x ∈ keys m)
  | [], x, h => by simp [keys, mset] at h; exact .inl h
  | (a, b) :: m, x, h => by
    unfold mset at h
    by_cases e : k = a
    · rw [if_pos e] at h
      simp only [keys, List.map_cons, List.mem_cons] at h ⊢
      rcases h with h | h
      · exact .inl h
      · exact .inr (.inr h)
    · rw [if_neg e] at h
      simp only [keys, List.map_cons, List.mem_cons] at h ⊢
      rcases h with h | h
      · exact .inr (.inl h)
      · rcases keys_mset k v m x h with h | h
        · exact .inl h
        · exact .inr (.inr h)
theorem keys_mdel (k : Int) : ∀ (m : List (Int × Int)), (∀ x, x ∈ keys (mdel m k) → x ∈ keys m)
  | [], x, h => by simp [keys, mdel] at h
  | (a, b) :: m, x, h => by
    unfold mdel at h
    by_cases e : k = a
    · rw [if_pos e] at h
      exact List.mem_cons_of_mem _ h
    · rw [if_neg e] at h
      simp only [keys, List.map_cons, List.mem_cons] at h ⊢
      rcases h with h | h
      · exact .inl h
      · exact .inr (keys_mdel k m x h)
theorem nodup_mset (k v : Int) : ∀ (m : List (Int × Int)), (keys m).Nodup → (keys (mset m k v)).Nodup
  | [], _ => by simp [keys, mset]
  | (a, b) :: m, h => by
    simp only [keys, List.map_cons, List.nodup_cons] at h
    unfold mset
    by_cases e : k = a
    · subst e
      rw [if_pos rfl]
      simp only [keys, List.map_cons, List.nodup_cons]
      exact h
    · rw [if_neg e]
      simp only [keys, List.map_cons, List.nodup_cons]
      refine ⟨fun hm => ?_, nodup_mset k v m h.2⟩
      rcases keys_mset k v m a hm with h2 | h2
      · exact e h2.symm
      · exact h.1 h2
theorem nodup_mdel (k : Int) : ∀ (m : List (Int × Int)), (keys m).Nodup → (keys (mdel m k)).Nodup
  | [], _ => by simp [keys, mdel]
  | (a, b) :: m, h => by
    simp only [keys, List.map_cons, List.nodup_cons] at h
    unfold mdel
    by_cases e : k = a
    · rw [if_pos e]
      exact h.2
    · rw [if_neg e]
      simp only [keys, List.map_cons, List.nodup_cons]
      exact ⟨fun hm => h.1 (keys_mdel k m a hm), nodup_mdel k m h.2⟩
/-! ### What is read -/
abbrev Sec := List (Arr 64) × List (Int × Int)
def baseS (s : Sec) (i : Int) : List Int × Int :=
  if 0 ≤ i ∧ i < (s.1.length : Int) then (if (mget s.2 i).isSome then ([], 41) else ((s.1.getD i.toNat (Arr.zero 64)).l, 0)) else ([], 3)
def base (d : disk_Disk) (i : Int) : List Int × Int := baseS (d.sectors, d.torn) i
def upd1 (i : Int) (v : List Int × Int) (p : disk_write) : List Int × Int := if p.at_ = i then (p.b.l, 0) else v
def rdv (d : disk_Disk) (i : Int) : List Int × Int := d.pending.foldl (upd1 i) (base d i)
structure WFd (n : Nat) (d : disk_Disk) : Prop where
  len : d.sectors.length = n
  at_ : ∀ p ∈ d.pending, 0 ≤ p.at_ ∧ p.at_ < (n : Int)
  nd : (keys d.torn).Nodup
  fu : -1 ≤ d.fuse ∧ d.fuse < 9223372036854775808
theorem fold_find (i : Int) : ∀ (ps : List disk_write) (v : List Int × Int), ps.foldl (upd1 i) v = match ps.reverse.find? (fun x => decide (x.at_ = i)) with | some x => (x.b.l, 0) | none => v
  | [], v => rfl
  | p :: ps, v => by
    rw [List.foldl_cons, fold_find i ps, List.reverse_cons, List.find?_append]
    cases h : ps.reverse.find? (fun x => decide (x.at_ = i)) with
    | some x => rfl
    | none =>
      simp only [Option.none_or, List.find?_cons, List.find?_nil, upd1]
      by_cases c : p.at_ = i
      · rw [if_pos c, decide_eq_true c]
      · rw [if_neg c, decide_eq_false c]
theorem fold_none {i : Int} : ∀ {ps : List disk_write} {v : List Int × Int}, (∀ p ∈ ps, p.at_ ≠ i) → ps.foldl (upd1 i) v = v
  | [], _, _ => rfl
  | p :: ps, v, h => by
    rw [List.foldl_cons, fold_none (fun q hq => h q (List.mem_cons_of_mem _ hq))]
    exact if_neg (h p List.mem_cons_self)
theorem read_eq {n : Nat} {d : disk_Disk} (W : WFd n d) (i : Int) : disk_Disk_Read_f d i = some (rdv d i) := by
  unfold disk_Disk_Read_f rdv base baseS
  by_cases c : 0 ≤ i ∧ i < (d.sectors.length : Int)
  · rw [if_pos c, if_pos c, fold_find]
    cases h : d.pending.reverse.find? (fun x => decide (x.at_ = i)) with
    | some x => rfl
    | none =>
      dsimp only
      by_cases c2 : (mget d.torn i).isSome = true
      · rw [if_pos c2, if_pos c2]
      · rw [if_neg c2, if_neg c2]
  · rw [if_neg c, if_neg c, fold_none fun p hp he => c ?_]
    have := W.at_ p hp
    rw [W.len, ← he]
    exact this
/-! ### Writing -/
def lower (d : disk_Disk) : disk_Disk := ⟨d.sectors, d.torn, d.pending, max (IntKind.i64.wrap (d.fuse - 1)) (-1)⟩
theorem WFd.lower {n : Nat} {d : disk_Disk} (W : WFd n d) : WFd n (lower d) := by
  refine ⟨W.len, W.at_, W.nd, ?_⟩
  have := W.fu
  show -1 ≤ max (IntKind.i64.wrap (d.fuse - 1)) (-1) ∧ max (IntKind.i64.wrap (d.fuse - 1)) (-1) < 9223372036854775808
  rw [w64 (by omega) (by omega)]
  omega
theorem lower_fuse {n : Nat} {d : disk_Disk} (W : WFd n d) : (lower d).fuse = max (d.fuse - 1) (-1) := by
  have := W.fu
  show max (IntKind.i64.wrap (d.fuse - 1)) (-1) = _
  rw [w64 (by omega) (by omega)]
def wr (d : disk_Disk) (i : Int) (b : List Int) : Int × disk_Disk :=
  if d.fuse = 0 then (42, d) else if (b.length : Int) ≠ 64 then (1, lower d) else if 0 ≤ i ∧ i < (d.sectors.length : Int) then (0, ⟨d.sectors, d.torn, d.pending ++ [⟨i, Arr.of 64 (b.take 64)⟩], (lower d).fuse⟩) else (3, lower d)
theorem write_eq (d : disk_Disk) (i : Int) (b : List Int) (hp : d.pending.length ≤ 1000000) : disk_Disk_Write_f d i b = some (wr d i b) := by
  unfold disk_Disk_Write_f wr
  by_cases c1 : d.fuse = 0
  · rw [if_pos c1, if_pos c1]; rfl
  · rw [if_neg c1, if_neg c1]
    by_cases c2 : (b.length : Int) ≠ 64
    · rw [if_pos c2, if_pos c2]; rfl
    · rw [if_neg c2, if_neg c2, there_eq]
      dsimp only [Option.bind_some]
      by_cases c3 : 0 ≤ i ∧ i < (d.sectors.length : Int)
      · rw [if_pos (decide_eq_true c3), if_pos c3, if_pos (by omega), if_pos (by omega)]; rfl
      · rw [if_neg (by rw [decide_eq_true_iff]; exact c3), if_neg c3]; rfl
theorem WFd.wr {n : Nat} {d : disk_Disk} (W : WFd n d) (i : Int) (b : List Int) : WFd n (wr d i b).2 ∧ (wr d i b).2.pending.length ≤ d.pending.length + 1 := by
  unfold Go.Proofs.Ytpmkpiffbdcflaa.wr
  by_cases c1 : d.fuse = 0
  · rw [if_pos c1]; exact ⟨W, Nat.le_succ _⟩
  · rw [if_neg c1]
    by_cases c2 : (b.length : Int) ≠ 64
    · rw [if_pos c2]; exact ⟨W.lower, Nat.le_succ _⟩
    · rw [if_neg c2]
      by_cases c3 : 0 ≤ i ∧ i < (d.sectors.length : Int)
      · rw [if_pos c3]
        refine ⟨⟨W.len, fun p hp => ?_, W.nd, W.lower.fu⟩, by simp⟩
        rcases List.mem_append.1 hp with hp | hp
        · exact W.at_ p hp
        · rw [List.mem_singleton.1 hp, ← W.len]; exact c3
      · rw [if_neg c3]; exact ⟨W.lower, Nat.le_succ _⟩
/-! ### Sync and crash -/
def ap (s : Sec) (p : disk_write) : Sec := (s.1.set p.at_.toNat p.b, mdel s.2 p.at_)
structure WFs (n : Nat) (s : Sec) : Prop where
  len : s.1.length = n
  nd : (keys s.2).Nodup
theorem WFs.ap {n : Nat} {s : Sec} (W : WFs n s) (p : disk_write) : WFs n (ap s p) := ⟨by simp [Go.Proofs.Ytpmkpiffbdcflaa.ap, W.len], nodup_mdel _ _ W.nd⟩
theorem WFs.fold {n : Nat} : ∀ {ps : List disk_write} {s : Sec}, WFs n s → WFs n (ps.foldl Go.Proofs.Ytpmkpiffbdcflaa.ap s)
  | [], _, W => W
  | p :: ps, _, W => WFs.fold (ps := ps) (W.ap p)
def sy (d : disk_Disk) : Int × disk_Disk :=
  if d.fuse = 0 then (42, d) else (0, ⟨(d.pending.foldl ap (d.sectors, d.torn)).1, (d.pending.foldl ap (d.sectors, d.torn)).2, [], (lower d).fuse⟩)
theorem drop_get {α : Type} {l : List α} {k : Nat} (h : k < l.length) (z : α) : l.drop k = l.getD k z :: l.drop (k + 1) := by
  rw [List.drop_eq_getElem_cons h, List.getD_eq_getElem?_getD, List.getElem?_eq_getElem h]; rfl
theorem sync_lp {n : Nat} {d : disk_Disk} (W : WFd n d) (hp : d.pending.length ≤ 1000000) : lp (disk_Disk_Sync_b0 d) (0, d.sectors, d.torn) = some (d.pending.foldl ap (d.sectors, d.torn)) := by
  have key : ∃ r, lp (disk_Disk_Sync_b0 d) (0, d.sectors, d.torn) = some r ∧ r = d.pending.foldl ap (d.sectors, d.torn) := by
    refine lp_all (fun k (s : Int × List (Arr 64) × List (Int × Int)) => s.1 = (k : Int) ∧ WFs n s.2 ∧ (d.pending.drop k).foldl ap s.2 = d.pending.foldl ap (d.sectors, d.torn)) _ d.pending.length (by omega) ⟨rfl, ⟨W.len, W.nd⟩, by simp⟩ ?_ ?_
    · rintro k ⟨x, s1, s2⟩ hk ⟨hx, Ws, hf⟩
      dsimp only at hx
      subst hx
      have ha := W.at_ (d.pending.getD k ⟨0, Arr.zero 64⟩) (by rw [List.getD_eq_getElem?_getD, List.getElem?_eq_getElem hk]; exact List.getElem_mem hk)
      have hl : s1.length = n := Ws.len
      refine ⟨((k + 1 : Nat), ap (s1, s2) (d.pending.getD k ⟨0, Arr.zero 64⟩)), ?_, rfl, Ws.ap _, ?_⟩
      · unfold disk_Disk_Sync_b0
        dsimp only [Option.bind_some]
        rw [if_pos (by omega), if_pos (by omega), Int.toNat_natCast, if_pos (by rw [hl]; exact ha), w64n (by omega)]
        rfl
      · rw [drop_get hk ⟨0, Arr.zero 64⟩, List.foldl_cons] at hf
        exact hf
    · rintro ⟨x, s1, s2⟩ ⟨hx, Ws, hf⟩
      dsimp only at hx
      subst hx
      refine ⟨(s1, s2), ?_, ?_⟩
      · unfold disk_Disk_Sync_b0
        dsimp only
        rw [if_neg (by omega)]
      · simpa using hf
  obtain ⟨r, h1, rfl⟩ := key
  exact h1
theorem sync_eq {n : Nat} {d : disk_Disk} (W : WFd n d) (hp : d.pending.length ≤ 1000000) : disk_Disk_Sync_f d = some (sy d) := by
  unfold disk_Disk_Sync_f sy
  by_cases c1 : d.fuse = 0
  · rw [if_pos c1, if_pos c1]; rfl
  · rw [if_neg c1, if_neg c1, sync_lp W hp]; rfl
theorem WFd.sy {n : Nat} {d : disk_Disk} (W : WFd n d) : WFd n (sy d).2 ∧ (sy d).2.pending.length ≤ d.pending.length := by
  unfold Go.Proofs.Ytpmkpiffbdcflaa.sy
  by_cases c1 : d.fuse = 0
  · rw [if_pos c1]; exact ⟨W, Nat.le_refl _⟩
  · rw [if_neg c1]
    have Ws : WFs n (d.pending.foldl ap (d.sectors, d.torn)) := WFs.fold ⟨W.len, W.nd⟩
    exact ⟨⟨Ws.len, fun p hp => (by cases hp), Ws.nd, W.lower.fu⟩, Nat.zero_le _⟩
/-- One write, at a crash. -/
def cr1 (keep : List Bool) (tear : Int) (k : Nat) (s : Sec) (p : disk_write) : Sec :=
  if (k : Int) = tear then (s.1, mset s.2 p.at_ k) else if keep.getD k false = true then ap s p else s
def crF (keep : List Bool) (tear : Int) : Nat → Sec → List disk_write → Sec
  | _, s, [] => s
  | k, s, p :: ps => crF keep tear (k + 1) (cr1 keep tear k s p) ps
theorem WFs.cr1 {n : Nat} {s : Sec} (W : WFs n s) (keep : List Bool) (tear : Int) (k : Nat) (p : disk_write) : WFs n (cr1 keep tear k s p) := by
  unfold Go.Proofs.Ytpmkpiffbdcflaa.cr1
  by_cases c1 : (k : Int) = tear
  · rw [if_pos c1]; exact ⟨W.len, nodup_mset _ _ _ W.nd⟩
  · rw [if_neg c1]
    by_cases c2 : keep.getD k false = true
    · rw [if_pos c2]; exact W.ap p
    · rw [if_neg c2]; exact W
theorem WFs.crF {n : Nat} (keep : List Bool) (tear : Int) : ∀ {ps : List disk_write} {k : Nat} {s : Sec}, WFs n s → WFs n (crF keep tear k s ps)
  | [], _, _, W => W
  | p :: ps, k, _, W => WFs.crF keep tear (ps := ps) (W.cr1 keep tear k p)
def cra (d : disk_Disk) (keep : List Bool) (tear : Int) : disk_Disk :=
  ⟨(crF keep tear 0 (d.sectors, d.torn) d.pending).1, (crF keep tear 0 (d.sectors, d.torn) d.pending).2, [], -1⟩
theorem crash_lp {n : Nat} {d : disk_Disk} (W : WFd n d) (hp : d.pending.length ≤ 1000000) (keep : List Bool) (tear : Int) : lp (disk_Disk_Crash_b0 d keep tear) (0, d.sectors, d.torn) = some (crF keep tear 0 (d.sectors, d.torn) d.pending) := by
  have key : ∃ r, lp (disk_Disk_Crash_b0 d keep tear) (0, d.sectors, d.torn) = some r ∧ r = crF keep tear 0 (d.sectors, d.torn) d.pending := by
    refine lp_all (fun k (s : Int × List (Arr 64) × List (Int × Int)) => s.1 = (k : Int) ∧ WFs n s.2 ∧ crF keep tear k s.2 (d.pending.drop k) = crF keep tear 0 (d.sectors, d.torn) d.pending) _ d.pending.length (by omega) ⟨rfl, ⟨W.len, W.nd⟩, by simp⟩ ?_ ?_
    · rintro k ⟨x, s1, s2⟩ hk ⟨hx, Ws, hf⟩
      dsimp only at hx
      subst hx
      have ha := W.at_ (d.pending.getD k ⟨0, Arr.zero 64⟩) (by rw [List.getD_eq_getElem?_getD, List.getElem?_eq_getElem hk]; exact List.getElem_mem hk)
      have hl : s1.length = n := Ws.len
      refine ⟨((k + 1 : Nat), cr1 keep tear k (s1, s2) (d.pending.getD k ⟨0, Arr.zero 64⟩)), ?_, rfl, Ws.cr1 _ _ _ _, ?_⟩
      · unfold disk_Disk_Crash_b0 cr1
        dsimp only [Option.bind_some]
        rw [if_pos (by omega), if_pos (by omega), Int.toNat_natCast, w64n (by omega)]
        by_cases c1 : (k : Int) = tear
        · rw [if_pos c1, if_pos c1]; rfl
        · rw [if_neg c1, if_neg c1]
          by_cases c2 : (k : Int) < (keep.length : Int)
          · rw [if_pos c2, if_pos (by omega)]
            dsimp only [Option.bind_some]
            by_cases c3 : keep.getD k false = true
            · rw [if_pos c3, if_pos c3, if_pos (by rw [hl]; exact ha)]; rfl
            · rw [if_neg c3, if_neg c3]; rfl
          · have c3 : ¬ keep.getD k false = true := by
              rw [List.getD_eq_getElem?_getD, List.getElem?_eq_none (by omega)]; simp
            rw [if_neg c2, if_neg c3]
            dsimp only [Option.bind_some]
            rw [if_neg (by simp)]; rfl
      · rw [drop_get hk ⟨0, Arr.zero 64⟩] at hf
        exact hf
    · rintro ⟨x, s1, s2⟩ ⟨hx, Ws, hf⟩
      dsimp only at hx
      subst hx
      refine ⟨(s1, s2), ?_, ?_⟩
      · unfold disk_Disk_Crash_b0
        dsimp only
        rw [if_neg (by omega)]
      · simpa [crF] using hf
  obtain ⟨r, h1, rfl⟩ := key
  exact h1
theorem crash_eq {n : Nat} {d : disk_Disk} (W : WFd n d) (hp : d.pending.length ≤ 1000000) (keep : List Bool) (tear : Int) : disk_Disk_Crash_f d keep tear = some (cra d keep tear) := by
  unfold disk_Disk_Crash_f cra
  rw [crash_lp W hp]; rfl
theorem WFd.cra {n : Nat} {d : disk_Disk} (W : WFd n d) (keep : List Bool) (tear : Int) : WFd n (cra d keep tear) := by
  have Ws : WFs n (crF keep tear 0 (d.sectors, d.torn) d.pending) := WFs.crF keep tear ⟨W.len, W.nd⟩
  exact ⟨Ws.len, fun p hp => (by cases hp), Ws.nd, by show -1 ≤ (-1 : Int) ∧ (-1 : Int) < _; omega⟩
/-! ### A new disk -/
def dnew (n : Nat) : disk_Disk := ⟨List.replicate n (Arr.zero 64), [], [], -1⟩
theorem new_eq {n : Nat} (h : n ≤ 4096) : disk_New_f (n : Int) = some (some (dnew n)) := by
  unfold disk_New_f
  rw [if_neg (by omega), if_neg (by omega), if_pos (by omega), Int.toNat_natCast]; rfl
theorem WFd.new (n : Nat) : WFd n (dnew n) := ⟨List.length_replicate, fun p hp => (by cases hp), by simp [dnew, keys], by show -1 ≤ (-1 : Int) ∧ (-1 : Int) < _; omega⟩
def fus (d : disk_Disk) (k : Int) : disk_Disk := ⟨d.sectors, d.torn, d.pending, max k (-1)⟩
theorem WFd.fus {n : Nat} {d : disk_Disk} (W : WFd n d) {k : Int} (h : k < 9223372036854775808) : WFd n (fus d k) := ⟨W.len, W.at_, W.nd, by show -1 ≤ max k (-1) ∧ max k (-1) < _; omega⟩
end Go.Proofs.Ytpmkpiffbdcflaa
