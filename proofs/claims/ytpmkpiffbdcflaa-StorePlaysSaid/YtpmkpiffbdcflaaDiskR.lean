/- The plain disk beside the disk. -/
import Derived.Test.YtpmkpiffbdcflaaDiskC
import Derived.Test.YtpmkpiffbdcflaaGR0
import Derived.Test.YtpmkpiffbdcflaaGR0
import Derived.Test.YtpmkpiffbdcflaaGR0
import Derived.Test.YtpmkpiffbdcflaaGR0
set_option linter.unusedVariables false
set_option linter.unusedSimpArgs false
namespace Go.Proofs.Ytpmkpiffbdcflaa
open Go Go.RowKit
def toR (p : disk_write) : ref15_Write := ⟨p.at_, p.b.l⟩
def torns (n : Nat) (m : List (Int × Int)) : List Bool := (List.range n).map fun (j : Nat) => (mget m (j : Int)).isSome
structure RS (n : Nat) (s : Sec) (L : List (List Int)) (T : List Bool) : Prop where
  l : L = s.1.map (·.l)
  t : T = torns n s.2
theorem torns_len (n : Nat) (m : List (Int × Int)) : (torns n m).length = n := by simp [torns]
theorem torns_set {n : Nat} {m m' : List (Int × Int)} {a : Int} (h0 : 0 ≤ a) (b : Bool) (h : ∀ i, (mget m' i).isSome = if i = a then b else (mget m i).isSome) : (torns n m).set a.toNat b = torns n m' := by
  unfold torns
  apply List.ext_getElem
  · simp
  · intro j h1 h2
    rw [List.getElem_set]
    simp only [List.getElem_map, List.getElem_range]
    rw [h]
    by_cases c : a.toNat = j
    · rw [if_pos c, if_pos (by omega)]
    · rw [if_neg c, if_neg (by omega)]
theorem RS.ap {n : Nat} {s : Sec} {L : List (List Int)} {T : List Bool} (R : RS n s L T) (W : WFs n s) {p : disk_write} (h0 : 0 ≤ p.at_) : RS n (ap s p) (L.set p.at_.toNat p.b.l) (T.set p.at_.toNat false) := by
  refine ⟨?_, ?_⟩
  · rw [R.l]
    show _ = (s.1.set p.at_.toNat p.b).map (·.l)
    rw [List.map_set]
  · rw [R.t]
    refine torns_set h0 false fun i => ?_
    show (mget (mdel s.2 p.at_) i).isSome = _
    rw [mget_mdel _ _ _ W.nd]
    by_cases c : i = p.at_
    · rw [if_pos c, if_pos c]; rfl
    · rw [if_neg c, if_neg c]
theorem RS.tear {n : Nat} {s : Sec} {L : List (List Int)} {T : List Bool} (R : RS n s L T) {a : Int} (h0 : 0 ≤ a) (k : Int) : RS n (s.1, mset s.2 a k) L (T.set a.toNat true) := by
  refine ⟨R.l, ?_⟩
  rw [R.t]
  refine torns_set h0 true fun i => ?_
  show (mget (mset s.2 a k) i).isSome = _
  rw [mget_mset]
  by_cases c : i = a
  · rw [if_pos c, if_pos c]; rfl
  · rw [if_neg c, if_neg c]
structure Rf (n : Nat) (d : disk_Disk) (r : ref15_Disk) : Prop where
  s : RS n (d.sectors, d.torn) r.L r.Torn
  p : r.P = d.pending.map toR
  f : r.Fused = d.fuse
theorem Rf.len {n : Nat} {d : disk_Disk} {r : ref15_Disk} (R : Rf n d r) : r.L.length = d.sectors.length := by rw [R.s.l]; simp
theorem Rf.plen {n : Nat} {d : disk_Disk} {r : ref15_Disk} (R : Rf n d r) : r.P.length = d.pending.length := by rw [R.p]; simp
theorem getD_map {α β : Type} (f : α → β) {l : List α} {k : Nat} (h : k < l.length) (z : α) (y : β) : (l.map f).getD k y = f (l.getD k z) := by
  rw [List.getD_eq_getElem?_getD, List.getD_eq_getElem?_getD, List.getElem?_map, List.getElem?_eq_getElem h]; rfl
/-! ### Reading -/
def found (o : Option disk_write) : Unit ⊕ (List Int × Int) := match o with | some x => .inr (x.b.l, 0) | none => .inl ()
theorem rr_lpn {n : Nat} {d : disk_Disk} {r : ref15_Disk} (R : Rf n d r) (a1 : Int) (hm : d.pending.length ≤ 1000000) : ∀ k, k ≤ d.pending.length → lpn (ref15_Disk_Read_b0 r a1) (k + 1) ((k : Int) - 1) = some (found ((d.pending.take k).reverse.find? (fun x => decide (x.at_ = a1))))
  | 0, _ => by simp [lpn, ref15_Disk_Read_b0, found]
  | k + 1, hk => by
    have hlt : k < d.pending.length := by omega
    have e1 : (((k + 1 : Nat) : Int) - 1) = (k : Int) := by omega
    have h1 : (d.pending.take (k + 1)).reverse = d.pending.getD k ⟨0, Arr.zero 64⟩ :: (d.pending.take k).reverse := by
      rw [List.take_add_one, List.getElem?_eq_getElem hlt, List.getD_eq_getElem?_getD, List.getElem?_eq_getElem hlt]
      simp
    rw [e1, h1, List.find?_cons]
    unfold lpn
    have hg : r.P.getD k (⟨0, []⟩ : ref15_Write) = toR (d.pending.getD k ⟨0, Arr.zero 64⟩) := by rw [R.p]; exact getD_map toR hlt _ _
    have h2 : ref15_Disk_Read_b0 r a1 (k : Int) = if (d.pending.getD k ⟨0, Arr.zero 64⟩).at_ = a1 then some (.inr (.inr ((d.pending.getD k ⟨0, Arr.zero 64⟩).b.l, 0))) else some (.inl ((k : Int) - 1)) := by
      unfold ref15_Disk_Read_b0
      dsimp only
      rw [if_pos (by omega), if_pos (by rw [R.plen]; omega), Int.toNat_natCast, hg]
      by_cases c : (d.pending.getD k ⟨0, Arr.zero 64⟩).at_ = a1
      · rw [if_pos c]
        show (if (d.pending.getD k ⟨0, Arr.zero 64⟩).at_ = a1 then _ else _) = _
        rw [if_pos c, if_pos (by rw [R.plen]; omega)]
        show (if (0 + (d.pending.getD k ⟨0, Arr.zero 64⟩).b.l.length) * 1 ≤ 140737488355328 then _ else _) = _
        rw [(d.pending.getD k ⟨0, Arr.zero 64⟩).b.h, if_pos (by decide)]
        rfl
      · rw [if_neg c]
        show (if (d.pending.getD k ⟨0, Arr.zero 64⟩).at_ = a1 then _ else _) = _
        rw [if_neg c, w64 (by omega) (by omega)]
    rw [h2]
    by_cases hc : (d.pending.getD k ⟨0, Arr.zero 64⟩).at_ = a1
    · rw [if_pos hc, decide_eq_true hc]; rfl
    · rw [if_neg hc, decide_eq_false hc]
      exact rr_lpn R a1 hm k (by omega)
theorem rread_eq {n : Nat} {d : disk_Disk} {r : ref15_Disk} (R : Rf n d r) (W : WFd n d) (hm : d.pending.length ≤ 1000000) (i : Int) : ref15_Disk_Read_f r i = disk_Disk_Read_f d i := by
  unfold ref15_Disk_Read_f disk_Disk_Read_f
  by_cases c : 0 ≤ i ∧ i < (d.sectors.length : Int)
  · rw [if_neg (by omega), if_neg (by rw [R.len]; omega), if_pos c, R.plen, w64 (by omega) (by omega)]
    have h1 := rr_lpn R i hm d.pending.length (Nat.le_refl _)
    rw [List.take_length] at h1
    rw [lp_of h1 (by omega)]
    dsimp only [Option.bind_some]
    cases hf : d.pending.reverse.find? (fun x => decide (x.at_ = i)) with
    | some x => rfl
    | none =>
      dsimp only [found]
      have hn : (n : Int) = d.sectors.length := by rw [W.len]
      have hT : r.Torn.getD i.toNat false = (mget d.torn i).isSome := by
        rw [R.s.t]
        unfold torns
        rw [List.getD_eq_getElem?_getD, List.getElem?_map, List.getElem?_range (by omega)]
        show (mget d.torn (i.toNat : Int)).isSome = _
        rw [Int.toNat_of_nonneg c.1]
      have hL : r.L.getD i.toNat [] = (d.sectors.getD i.toNat (Arr.zero 64)).l := by
        rw [R.s.l]; exact getD_map _ (by show i.toNat < d.sectors.length; omega) _ _
      rw [if_pos (by rw [R.s.t, torns_len]; omega), hT, hL]
      by_cases c2 : (mget d.torn i).isSome = true
      · rw [if_pos c2, if_pos c2]
      · rw [if_neg c2, if_neg c2, if_pos (by rw [R.len]; omega), (d.sectors.getD i.toNat (Arr.zero 64)).h, if_pos (by decide)]
  · rw [if_neg c]
    by_cases c1 : i < 0
    · rw [if_pos c1]
    · rw [if_neg c1, if_pos (by rw [R.len]; omega)]
/-! ### Calls -/
def lowR (r : ref15_Disk) : ref15_Disk := ⟨r.L, r.Torn, r.P, if r.Fused > 0 then IntKind.i64.wrap (r.Fused - 1) else r.Fused⟩
theorem call_eq (r : ref15_Disk) : ref15_Disk_call_f r = some (if r.Fused = 0 then (false, r) else (true, lowR r)) := by
  unfold ref15_Disk_call_f lowR
  by_cases c : r.Fused = 0
  · rw [if_pos c, if_pos c]
  · rw [if_neg c, if_neg c]
    by_cases c2 : r.Fused > 0
    · rw [if_pos c2, if_pos c2]; rfl
    · rw [if_neg c2, if_neg c2]; rfl
theorem lowR_f {n : Nat} {d : disk_Disk} {r : ref15_Disk} (R : Rf n d r) (W : WFd n d) (h : d.fuse ≠ 0) : (lowR r).Fused = (lower d).fuse := by
  have hf := R.f
  have := W.fu
  rw [lower_fuse W]
  show (if r.Fused > 0 then IntKind.i64.wrap (r.Fused - 1) else r.Fused) = _
  rw [hf]
  by_cases c : d.fuse > 0
  · rw [if_pos c, w64 (by omega) (by omega)]; omega
  · rw [if_neg c]; omega
theorem Rf.low {n : Nat} {d : disk_Disk} {r : ref15_Disk} (R : Rf n d r) (W : WFd n d) (h : d.fuse ≠ 0) : Rf n (lower d) (lowR r) := ⟨R.s, R.p, lowR_f R W h⟩
theorem rwrite_eq {n : Nat} {d : disk_Disk} {r : ref15_Disk} (R : Rf n d r) (W : WFd n d) (hm : d.pending.length ≤ 1000000) (i : Int) {b : List Int} (hb : Bytes b) : ∃ r', ref15_Disk_Write_f r i b = some ((wr d i b).1, r') ∧ Rf n (wr d i b).2 r' := by
  unfold ref15_Disk_Write_f
  rw [call_eq, R.f]
  unfold wr
  by_cases c1 : d.fuse = 0
  · rw [if_pos c1, if_pos c1]
    exact ⟨r, rfl, R⟩
  · rw [if_neg c1, if_neg c1]
    dsimp only [Option.bind_some]
    rw [if_pos rfl]
    by_cases c2 : (b.length : Int) ≠ 64
    · rw [if_pos c2, if_pos c2]; exact ⟨_, rfl, R.low W c1⟩
    · rw [if_neg c2, if_neg c2]
      have hl : (lowR r).L.length = d.sectors.length := R.len
      have hp : (lowR r).P.length = d.pending.length := R.plen
      by_cases c3 : 0 ≤ i ∧ i < (d.sectors.length : Int)
      · rw [if_neg (by omega), if_neg (by rw [hl]; omega), if_pos (by omega), if_pos (by rw [hp]; omega), if_pos c3]
        refine ⟨_, rfl, R.s, ?_, lowR_f R W c1⟩
        show r.P ++ [(⟨i, b⟩ : ref15_Write)] = (d.pending ++ [(⟨i, Arr.of 64 (b.take 64)⟩ : disk_write)]).map toR
        rw [R.p, List.map_append]
        show _ = _ ++ [(⟨i, (Arr.of 64 (b.take 64)).l⟩ : ref15_Write)]
        rw [arr_of (by omega) hb]
      · rw [if_neg c3]
        by_cases c4 : i < 0
        · rw [if_pos c4]; exact ⟨_, rfl, R.low W c1⟩
        · rw [if_neg c4, if_pos (by rw [hl]; omega)]; exact ⟨_, rfl, R.low W c1⟩
theorem laid_eq {n : Nat} {s : Sec} {r : ref15_Disk} (R : RS n s r.L r.Torn) (W : WFs n s) {p : disk_write} (h : 0 ≤ p.at_ ∧ p.at_ < (n : Int)) : ref15_Disk_laid_f r (toR p) = some ⟨r.L.set p.at_.toNat p.b.l, r.Torn.set p.at_.toNat false, r.P, r.Fused⟩ := by
  have h1 : r.L.length = n := by rw [R.l, List.length_map, W.len]
  have h2 : r.Torn.length = n := by rw [R.t, torns_len]
  unfold ref15_Disk_laid_f
  show (if (0 + p.b.l.length) * 1 ≤ 140737488355328 then (if 0 ≤ p.at_ ∧ p.at_ < (r.L.length : Int) then (if 0 ≤ p.at_ ∧ p.at_ < (r.Torn.length : Int) then _ else _) else _) else _) = _
  rw [p.b.h, if_pos (by decide), if_pos (by rw [h1]; exact h), if_pos (by rw [h2]; exact h)]
  rfl
theorem rcrash_eq {n : Nat} {d : disk_Disk} {r : ref15_Disk} (R : Rf n d r) (W : WFd n d) (hm : d.pending.length ≤ 1000000) (keep : List Bool) (tear : Int) : ∃ r', ref15_Disk_Crash_f r keep tear = some r' ∧ Rf n (cra d keep tear) r' := by
  unfold ref15_Disk_Crash_f
  have key : ∃ q, lp (ref15_Disk_Crash_b0 keep tear) (0, r) = some q ∧ RS n (crF keep tear 0 (d.sectors, d.torn) d.pending) q.L q.Torn := by
    refine lp_all (fun k (s : Int × ref15_Disk) => s.1 = (k : Int) ∧ s.2.P = d.pending.map toR ∧ ∃ S : Sec, WFs n S ∧ RS n S s.2.L s.2.Torn ∧ crF keep tear k S (d.pending.drop k) = crF keep tear 0 (d.sectors, d.torn) d.pending) _ d.pending.length (by omega) ⟨rfl, R.p, _, ⟨W.len, W.nd⟩, R.s, rfl⟩ ?_ ?_
    · rintro k ⟨x, q⟩ hk ⟨hx, hp, S, Ws, Rs, hS⟩
      dsimp only at hx hp Rs
      subst hx
      have ha := W.at_ _ (getD_mem hk ⟨0, Arr.zero 64⟩)
      rw [drop_get hk ⟨0, Arr.zero 64⟩] at hS
      have hT : q.Torn.length = n := by rw [Rs.t, torns_len]
      have hk1 : (k : Int) < (q.P.length : Int) := by rw [hp, List.length_map]; omega
      have hk2 : 0 ≤ (k : Int) ∧ (k : Int) < (q.P.length : Int) := ⟨by omega, hk1⟩
      have e : ∃ q' : ref15_Disk, q'.P = d.pending.map toR ∧ RS n (cr1 keep tear k S (d.pending.getD k ⟨0, Arr.zero 64⟩)) q'.L q'.Torn ∧ ref15_Disk_Crash_b0 keep tear ((k : Int), q) = some (.inl (IntKind.i64.wrap ((k : Int) + 1), q')) := by
        unfold ref15_Disk_Crash_b0 cr1
        dsimp only
        rw [if_pos hk1]
        by_cases c1 : (k : Int) = tear
        · rw [if_pos c1, if_pos c1, if_pos hk2, Int.toNat_natCast, hp, getD_map toR hk ⟨0, Arr.zero 64⟩]
          rw [show (toR (d.pending.getD k ⟨0, Arr.zero 64⟩)).At = (d.pending.getD k ⟨0, Arr.zero 64⟩).at_ from rfl, if_pos (by rw [hT]; exact ha)]
          exact ⟨(⟨q.L, q.Torn.set (d.pending.getD k ⟨0, Arr.zero 64⟩).at_.toNat true, d.pending.map toR, q.Fused⟩ : ref15_Disk), rfl, Rs.tear ha.1 _, rfl⟩
        · rw [if_neg c1, if_neg c1]
          by_cases c2 : (k : Int) < (keep.length : Int)
          · have hk3 : 0 ≤ (k : Int) ∧ (k : Int) < (keep.length : Int) := ⟨by omega, c2⟩
            rw [if_pos c2, if_pos hk3]
            dsimp only [Option.bind_some]
            rw [Int.toNat_natCast]
            by_cases c3 : keep.getD k false = true
            · rw [if_pos c3, if_pos c3, if_pos hk2, hp, getD_map toR hk ⟨0, Arr.zero 64⟩, laid_eq Rs Ws ha]
              exact ⟨(⟨q.L.set (d.pending.getD k ⟨0, Arr.zero 64⟩).at_.toNat (d.pending.getD k ⟨0, Arr.zero 64⟩).b.l, q.Torn.set (d.pending.getD k ⟨0, Arr.zero 64⟩).at_.toNat false, q.P, q.Fused⟩ : ref15_Disk), hp, Rs.ap Ws ha.1, rfl⟩
            · rw [if_neg c3, if_neg c3]
              exact ⟨q, hp, Rs, rfl⟩
          · have c3 : ¬ keep.getD k false = true := by
              rw [List.getD_eq_getElem?_getD, List.getElem?_eq_none (by omega)]; simp
            rw [if_neg c2, if_neg c3]
            dsimp only [Option.bind_some]
            rw [if_neg (by simp)]
            exact ⟨q, hp, Rs, rfl⟩
      obtain ⟨q', hp', Rs', e⟩ := e
      exact ⟨_, e, w64n (by omega), hp', _, Ws.cr1 _ _ _ _, Rs', hS⟩
    · rintro ⟨x, q⟩ ⟨hx, hp, S, Ws, Rs, hS⟩
      dsimp only at hx hp Rs
      subst hx
      refine ⟨q, ?_, ?_⟩
      · unfold ref15_Disk_Crash_b0
        dsimp only
        rw [if_neg (by rw [hp, List.length_map]; omega)]
      · simp [crF] at hS
        rw [← hS]; exact Rs
  obtain ⟨q, h1, h2⟩ := key
  rw [h1]
  exact ⟨_, rfl, h2, rfl, rfl⟩
def rnew (n : Nat) : ref15_Disk := ⟨List.replicate n (List.replicate 64 0), List.replicate n false, [], -1⟩
theorem rnew_eq {n : Nat} (h : n ≤ 4096) : ref15_New_f (n : Int) = some (some (rnew n)) := by
  unfold ref15_New_f
  rw [if_neg (by omega), if_neg (by omega)]
  have key : ∃ q, lp (ref15_New_b0 (n : Int)) (0, (⟨[], [], [], -1⟩ : ref15_Disk)) = some q ∧ q = rnew n := by
    refine lp_all (fun k (s : Int × ref15_Disk) => s = ((k : Int), rnew k)) _ n (by omega) rfl ?_ ?_
    · rintro k s hk rfl
      refine ⟨(((k + 1 : Nat) : Int), rnew (k + 1)), ?_, rfl⟩
      unfold ref15_New_b0 rnew
      dsimp only
      rw [if_pos (by omega), if_pos (by decide), if_pos (by simp; omega), if_pos (by simp; omega), w64n (by omega), List.replicate_succ' (n := k), List.replicate_succ' (n := k)]
      rfl
    · rintro s rfl
      refine ⟨rnew n, ?_, rfl⟩
      unfold ref15_New_b0
      dsimp only
      rw [if_neg (by omega)]
  obtain ⟨q, h1, rfl⟩ := key
  rw [h1]; rfl
theorem Rf.new (n : Nat) : Rf n (dnew n) (rnew n) := by
  refine ⟨⟨?_, ?_⟩, rfl, rfl⟩
  · show List.replicate n (List.replicate 64 0) = (List.replicate n (Arr.zero 64)).map (·.l)
    rw [List.map_replicate]; rfl
  · show List.replicate n false = torns n []
    unfold torns mget
    apply List.ext_getElem
    · simp
    · intro j h1 h2; simp
end Go.Proofs.Ytpmkpiffbdcflaa
