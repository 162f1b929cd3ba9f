/- slices.Delete at rows of rows: one element goes, in place. -/
import Derived.Test.YtflkagoglhckoaaCelE
import Derived.Test.YtflkagoglhckoaaProg
import Derived.Shelf.RegionOpenPlain
import Derived.WalkKit
import Derived.Deep.LoopGhost
import Derived.Deep.RegionLaw
import Derived.Lib.Walk
import Derived.Lib.SliceRun
import Derived.Sort.WalkB12
set_option linter.unusedVariables false
namespace Go.Proofs.Ytflkagoglhckoaa
open Go Go.RowKit Go.Shelf Go.Lib Go.Sort
theorem tiDel : TI Try.prog 35 (.slice none 0 0) 1 24 := by unfold TI; kernel_rfl

set_option maxHeartbeats 4000000 in
set_option maxRecDepth 1000000 in
theorem del_run (g cap i j n : Nat) (cs : List Value) (w : World) (hg : w.heap[g]? = some (.cells cs.toArray 35 (0, 0))) (hsz : cs.length = cap) (hn : n ≤ cap) (hm : cap ≤ maxLen) (hij : i < j) (hj : j ≤ n) (hone : ∀ u ∈ cs.take n, u.oneCell' = true) :
    Calls Try.prog 25 #[.slice (some ⟨g, 0, none⟩) n cap, .int .i64 i, .int .i64 j] w fun e w' => e = .returned (.slice (some ⟨g, 0, none⟩) (i + (n - j)) cap) ∧
      w' = (w.drew.setCells g i ((cs.take n).drop j)).setCells g (i + (n - j)) (List.replicate (n - (i + (n - j))) (.slice none 0 0)) := by
  obtain ⟨i0, hi0, hiz, his, hib⟩ := tiDel.parts
  have hm' : cap ≤ 9223372036854775807 := by simp only [maxLen] at hm; omega
  obtain ⟨news, hnews⟩ : ∃ news, news = (cs.take n).drop j := ⟨_, rfl⟩
  have hlen : news.length = n - j := by rw [hnews, List.length_drop, List.length_take]; omega
  have hcell : ∀ q, q < cap → w.drew.cell? ⟨g, q, none⟩ = cs[q]? := fun q _ => by
    rw [cell_of_row w.drew g q cs.toArray 35 (0, 0) hg]; simp
  obtain ⟨A, hA, hsrc⟩ : ∃ A : Addr, (if cap = j then some (⟨g, 0, none⟩ : Addr) else some ⟨g, j, none⟩) = some A ∧ Hid (∀ t u, news[t]? = some u → w.drew.cell? (A.add t) = some u) := by
    by_cases h : cap = j
    · refine ⟨⟨g, 0, none⟩, by simp [h], fun t u hu => ?_⟩
      have h0 : news.length = 0 := by rw [hlen]; omega
      rw [List.length_eq_zero_iff.1 h0] at hu
      simp at hu
    · refine ⟨⟨g, j, none⟩, by simp [h], fun t u hu => ?_⟩
      have ht : t < n - j := by
        have := (List.getElem?_eq_some_iff.1 hu).1
        rwa [hlen] at this
      rw [hnews, List.getElem?_drop, List.getElem?_take_of_lt (by omega)] at hu
      rw [addr_plain, hcell _ (by omega), ← hu]
  have s1 : Hid (news.length = (n - j) * 1) := by rw [Nat.mul_one]; exact hlen
  have s2 : Hid (∀ u ∈ news, u.oneCell' = true) := by
    intro u hu
    rw [hnews] at hu
    exact hone u (List.mem_of_mem_drop hu)
  have s3 : Hid (∀ t, t < news.length → (w.drew.cell? ⟨g, 0 + i * 1 + t, none⟩).isSome = true ∧ w.drew.frozen? ⟨g, 0 + i * 1 + t, none⟩ = false) := by
    intro t ht
    rw [hlen] at ht
    refine ⟨?_, ?_⟩
    · rw [hcell _ (by omega)]; simp; omega
    · show w.frozen? _ = false
      simp [World.frozen?, hg]
  obtain ⟨W1, hW1⟩ : ∃ W1, W1 = w.drew.setCells g (0 + i * 1) news := ⟨_, rfl⟩
  have hh1 : W1.heap[g]? = some (.cells (putAt i news cs).toArray 35 (0, 0)) := by
    rw [hW1, Nat.mul_one, Nat.zero_add]
    exact set_row news i w.drew cs hg (by rw [hlen]; omega)
  have hpl : (putAt i news cs).length = cap := by simp only [putAt, List.length_append, List.length_take, List.length_drop, hlen]; omega
  have hcl : ∀ ty, (Builtin.clear_ #[26] ty #[.slice (some ⟨g, i + (n - j), none⟩) (n - (i + (n - j))) (cap - (i + (n - j)))]).run Try.prog W1 = .ok (.tuple #[]) (W1.setCells g (i + (n - j)) (List.replicate (n - (i + (n - j))) (.slice none 0 0))) :=
    fun ty => Lib.run_clear_slice W1 _ _ ty _ Try.underlying26 (fun w => by kernel_rfl) rfl rfl g (i + (n - j)) _ _ (by omega) (fun t ht => by
      rw [cell_of_row W1 g _ _ 35 (0, 0) hh1]; simp; omega) (fun t ht => by simp [World.frozen?, hh1])
  have hW : Hid (W1 = w.drew.setCells g (0 + i * 1) news) := hW1
  have X : Aside (w.drew.setCells g i ((cs.take n).drop j) = W1) := by show _ = _; rw [hW1, hnews, Nat.mul_one, Nat.zero_add]
  have hic : i ≤ cap := by omega
  have hjc : j ≤ cap := by omega
  clear hW1 hh1 hnews hlen hpl hcell hg hone
  go_enter Try.func25, Try.ntmps25
  go_wp2_with fail
  go_region_law (refine step_append_room rfl (.tmp 22) (.tmp 25) 26 rfl 35 i0 1 Try.underlying26 hi0 his g 0 i cap (by simp [Act.eval, Act.put]) A (n - j) (cap - j) news (by simp [Act.eval, Act.put]) s1.out hsrc.out s2.out (by omega) s3.out ?_; rw [← hW.out])
  go_wp2
  go_ret
  rw [X.out]
  exact ⟨rfl, rfl⟩
def slices_Delete_f (a0 : List (List Int)) (a1 a2 : Int) : Option (List (List Int)) := if 0 ≤ a1 ∧ a1 < a2 ∧ a2 ≤ a0.length then some (a0.take a1.toNat ++ a0.drop a2.toNat) else none
theorem slices_Delete_ok {w0 w : World} {ps : List PF} {fs : List SF} {a0 : List (List Int)} {A0_ : Option Addr} {c0_ : Nat} {a1 a2 : Int} {r0 : List (List Int)} (H : Hp w0 ps (own (kSlice kByte) 35 A0_ c0_ a0 :: fs) w) (h : slices_Delete_f a0 a1 a2 = some r0) :
    Calls Try.prog 25 [.slice A0_ a0.length c0_, .int .i64 a1, .int .i64 a2].toArray w fun e w' => ∃ v, e = .returned v ∧ ∃ (A0 : Option Addr) (c0 : Nat), v = .slice A0 r0.length c0 ∧ Hp w0 ps (own (kSlice kByte) 35 A0 c0 r0 :: fs) w' := by
  unfold slices_Delete_f at h
  obtain ⟨⟨h0, h1, h2⟩, h⟩ := guardO h
  injection h with h
  obtain ⟨i, rfl⟩ : ∃ i : Nat, a1 = i := ⟨a1.toNat, by omega⟩
  obtain ⟨j, rfl⟩ : ∃ j : Nat, a2 = j := ⟨a2.toNat, by omega⟩
  have hij : i < j := by omega
  have hj : j ≤ a0.length := by omega
  simp only [Int.toNat_natCast] at h
  obtain ⟨Z0, H0⟩ := id H
  obtain ⟨U0, _, ⟨_, cs0, hown0, hbl0, hok0⟩, _⟩ := H0.sep
  rcases hown0.2 with ⟨hv, hn⟩ | ⟨g, cap, cur, hv, _, hh, hnc, hcm, hcs, hcur⟩
  · omega
  injection hv with hA _ hc
  subst hA hc
  obtain ⟨l, rfl⟩ : ∃ l : List Value, cur = l.toArray := ⟨cur.toList, by simp⟩
  simp only [kSlice, Nat.mul_one, List.size_toArray] at hcs hcur
  have hone : ∀ u ∈ l.take a0.length, u.oneCell' = true := by
    intro u hu
    rw [hcur] at hu
    obtain ⟨q, hq, rfl⟩ := List.getElem_of_mem hu
    have hq' : q < a0.length := by have := hown0.1; simp only [kSlice, Nat.mul_one] at this; omega
    have := hok0 q hq'
    simp only [kSlice, Nat.mul_one] at this
    refine (kSlice kByte).one (hok0 q hq') _ ?_
    simp only [kSlice, Nat.mul_one]
    rw [List.drop_eq_getElem_cons hq, List.take_succ_cons]
    exact List.mem_cons_self
  have hr : r0.length = i + (a0.length - j) := by rw [← h, List.length_append, List.length_take, List.length_drop]; omega
  refine (del_run g c0_ i j a0.length l w hh hcs hnc hcm hij hj hone).mono ?_
  rintro e w' ⟨rfl, hw⟩
  refine ⟨_, rfl, some ⟨g, 0, none⟩, c0_, by rw [hr], ?_⟩
  generalize hnews : (l.take a0.length).drop j = news at hw
  have hnl : news.length = a0.length - j := by rw [← hnews, List.length_drop, List.length_take]; omega
  have hb1 := set_row (g := g) (e := 35) news i w.drew l hh (by rw [hnl]; omega)
  have hpl : (putAt i news l).length = c0_ := by simp only [putAt, List.length_append, List.length_take, List.length_drop, hnl]; omega
  have hb2 := set_row (g := g) (e := 35) (List.replicate (a0.length - (i + (a0.length - j))) (.slice none 0 0)) (i + (a0.length - j)) (w.drew.setCells g i news) (putAt i news l) hb1 (by rw [hpl, List.length_replicate]; omega)
  rw [← hw] at hb2
  obtain ⟨s1, s2, s3, s4⟩ := set_same (g := g) news i w.drew
  obtain ⟨t1, t2, t3, t4⟩ := set_same (g := g) (List.replicate (a0.length - (i + (a0.length - j))) (.slice none 0 0)) (i + (a0.length - j)) (w.drew.setCells g i news)
  rw [← hw] at t1 t2 t3 t4
  have hfar : ∀ b, b ≠ g → w'.heap[b]? = w.heap[b]? := fun b hb => by
    rw [hw, set_far _ _ b hb, set_far _ _ b hb]; rfl
  have htk : (putAt i news l).take (i + (a0.length - j)) = l.take i ++ news := by
    unfold putAt
    rw [List.take_left' (by rw [List.length_append, List.length_take, hnl]; omega)]
  refine (H.drew).turn (Fs := [own (kSlice kByte) 35 (some ⟨g, 0, none⟩) c0_ a0]) [] [own (kSlice kByte) 35 (some ⟨g, 0, none⟩) c0_ r0] (t1.trans s1) (t2.trans s2) (t3.trans s3) (Nat.le_of_eq (by rw [t4, s4])) ?_
  rintro Z T ⟨U, hU, ⟨hUA, cs, hown, hbl, hok⟩, _⟩ ht hz htz hps
  have hcs' : cs = cs0 := by
    rcases hown.2 with ⟨hv, hn⟩ | ⟨g', cap', cur', hv', _, hh', _, _, _, hcur'⟩
    · cases hv
    · injection hv' with hA' _ _
      injection hA' with hA'
      injection hA' with hA'
      subst hA'
      have hh'' : w.heap[g]? = some (.cells cur' 35 (0, 0)) := hh'
      rw [hh] at hh''
      injection hh'' with hh''
      injection hh'' with hh''
      subst hh''
      simp only [kSlice, Nat.mul_one] at hcur'
      rw [← hcur', ← hcur]
  subst hcs'
  have hTg : T g := hU g (hbl g rfl)
  have hsame : ∀ b, b < w.drew.heap.size → ¬ T b → w'.heap[b]? = w.drew.heap[b]? := fun b _ hb => hfar b fun e => hb (e ▸ hTg)
  refine ⟨hsame, Z, fun b => b = g, fun _ h => h, fun b h hn => absurd h hn, ?_, ⟨fun b => b = g, fun _ h => h, ⟨fun b hb => ⟨0, by rw [hb]⟩, (cs.take i ++ cs.drop j), ⟨?_, .inr ⟨g, c0_, _, rfl, Nat.zero_le _, hb2, by rw [hr]; omega, hcm, ?_, ?_⟩⟩, fun k hk => ?_, fun q hq => ?_⟩, trivial⟩, fun _ h => by cases h⟩
  · rintro b rfl
    refine ⟨.inl hTg, htz b hTg, ?_⟩
    have := ht b hTg
    rw [t4, s4]
    exact this
  · have := hown0.1
    simp only [kSlice, Nat.mul_one] at this ⊢
    rw [hr, List.length_append, List.length_take, List.length_drop]
    omega
  · simp only [kSlice, Nat.mul_one, putAt, List.size_toArray, List.length_append, List.length_take, List.length_drop, List.length_replicate, hnl]
    omega
  · simp only [kSlice, Nat.mul_one]
    rw [hr]
    simp only [putAt.eq_1 (i + (a0.length - j))]
    rw [List.append_assoc, List.take_left' (by rw [List.length_take, hpl]; omega), htk, ← hnews, hcur, ← hcur, List.take_take]
    congr 2
    omega
  · have : g = k := by simpa [Value.ownBlock] using hk
    exact this.symm
  · have hZs : Same Z w.drew w' := fun b hb => hsame b (hz b hb) fun hT => htz b hT hb
    have hlc : cs.length = a0.length := by have := hown0.1; simp only [kSlice, Nat.mul_one] at this; exact this
    subst h
    simp only [kSlice, Nat.mul_one]
    rcases Nat.lt_or_ge q i with hqi | hqi
    · rw [List.getElem_append_left (by rw [List.length_take]; omega), List.getElem_take, List.drop_append_of_le_length (by rw [List.length_take]; omega), List.take_append_of_le_length (by rw [List.length_drop, List.length_take]; omega), List.drop_take, List.take_take]
      have := (kSlice kByte).stb (hok q (by omega)) (fun _ h => h) hZs
      simp only [kSlice, Nat.mul_one] at this
      rw [show min 1 (i - q) = 1 from by omega]
      exact this
    · have hq2 : j + (q - i) < a0.length := by rw [hr] at hq; omega
      have := (kSlice kByte).stb (hok (j + (q - i)) hq2) (fun _ h => h) hZs
      simp only [kSlice, Nat.mul_one] at this
      rw [List.getElem_append_right (by rw [List.length_take]; omega), List.drop_append]
      simp only [List.length_take, List.getElem_drop, List.drop_drop]
      rw [List.drop_of_length_le (by rw [List.length_take]; omega), List.nil_append]
      simp only [show min i a0.length = i from by omega, show min i cs.length = i from by omega]
      exact this
end Go.Proofs.Ytflkagoglhckoaa
