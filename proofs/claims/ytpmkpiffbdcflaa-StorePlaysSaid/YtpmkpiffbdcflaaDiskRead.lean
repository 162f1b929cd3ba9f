/- disk.Read: what it computes. -/
import Derived.Test.YtpmkpiffbdcflaaGF
import Derived.Test.YtpmkpiffbdcflaaRange
set_option linter.unusedVariables false
set_option linter.unusedSimpArgs false
namespace Go.Proofs.Ytpmkpiffbdcflaa
open Go Go.RowKit
theorem w64r {x : Int} (h0 : -9223372036854775808 ≤ x) (h1 : x < 9223372036854775808) : IntKind.i64.wrap x = x := by
  rw [IntKind.wrap_i64]
  omega
theorem Hp.ownLe {w0 w : World} {ps : List PF} {fs : List SF} {α : Type} {kd : Kd α} {e : TypeId} {A : Option Addr} {c : Nat} {xs : List α} (H : Hp w0 ps fs w) (i : Nat) (hi : fs[i]? = some (own kd e A c xs)) : xs.length ≤ maxLen := by
  obtain ⟨Z, H⟩ := H
  obtain ⟨T, _, h, _⟩ := H.sep.front i hi
  have := own_rows h (Z' := fun b => Z b ∨ T b) (fun _ h => .inl h) (fun _ h => .inr h)
  exact Nat.le_trans this.1 this.2.1
/-! ### slices.Backward -/
theorem Backward_ok {w0 w : World} {ps : List PF} {fs : List SF} {A : Option Addr} {n c : Nat} (H : Hp w0 ps fs w) :
    Calls Try.prog 86 [.slice A n c].toArray w fun e w' => ∃ v, e = .returned v ∧ ∃ g, v = .func (.func 96) #[] #[.pointer (some ⟨g, 0, none⟩)] ∧ Hp w0 ps (cel g [.slice A n c] 69 :: fs) w' := by
  refine enter [.slice A n c] 4 Try.func86 fun Q a NP RET NRM F => ?_
  refine rg ?_
  refine ls (lbox F H rfl (cs := [.slice A n c]) rfl fun g1 w a H F => ?_)
  refine as_ F (v := .nilFunc) rfl fun a F => ?_
  refine rgend ?_
  refine rg ?_
  refine ls (qv F (r_mf (f' := #[]) (c' := #[.pointer (some ⟨g1, 0, none⟩)]) (by simp) (by simpa using F.ev (x := .tmp 1) rfl)) fun a F => ?_)
  refine as_ F rfl fun a F => ?_
  refine rgend ?_
  refine wp_ret ?_
  exact RET _ _ (ret1 F rfl rfl ⟨_, rfl, _, rfl, H⟩)
def bwStep (xs : List disk_write) (a1 i : Int) : Option (Int ⊕ Option disk_write) :=
  if i ≥ 0 then (if i < (xs.length : Int) then (if (xs.getD i.toNat ⟨0, Arr.zero 64⟩).at_ = a1 then some (.inr (some (xs.getD i.toNat ⟨0, Arr.zero 64⟩))) else some (.inl (i - 1))) else none) else some (.inr none)
theorem bw_lpn (xs : List disk_write) (a1 : Int) : ∀ k, k ≤ xs.length → lpn (bwStep xs a1) (k + 1) ((k : Int) - 1) = some ((xs.take k).reverse.find? (fun x => decide (x.at_ = a1)))
  | 0, _ => by simp [lpn, bwStep]
  | k + 1, hk => by
    have hlt : k < xs.length := by omega
    have e1 : (((k + 1 : Nat) : Int) - 1) = (k : Int) := by omega
    have h1 : (xs.take (k + 1)).reverse = xs.getD k ⟨0, Arr.zero 64⟩ :: (xs.take k).reverse := by
      rw [List.take_add_one, List.getElem?_eq_getElem hlt, List.getD_eq_getElem?_getD, List.getElem?_eq_getElem hlt]
      simp
    rw [e1, h1, List.find?_cons]
    unfold lpn
    have h2 : bwStep xs a1 (k : Int) = if (xs.getD k ⟨0, Arr.zero 64⟩).at_ = a1 then some (.inr (some (xs.getD k ⟨0, Arr.zero 64⟩))) else some (.inl ((k : Int) - 1)) := by
      unfold bwStep
      rw [if_pos (by omega), if_pos (by omega), Int.toNat_natCast]
    rw [h2]
    by_cases hc : (xs.getD k ⟨0, Arr.zero 64⟩).at_ = a1
    · rw [if_pos hc, decide_eq_true hc]
    · rw [if_neg hc, decide_eq_false hc]
      exact bw_lpn xs a1 k (by omega)
theorem bw_lp (xs : List disk_write) (a1 : Int) (h : xs.length ≤ maxLen) : lp (bwStep xs a1) ((xs.length : Int) - 1) = some (xs.reverse.find? (fun x => decide (x.at_ = a1))) := by
  have := bw_lpn xs a1 xs.length (Nat.le_refl _)
  rw [List.take_length] at this
  exact lp_of this (by have : maxLen ≤ 18446744073709551615 := by decide
                       omega)
theorem bw_inr {xs : List disk_write} {a1 i : Int} (h : i < 0) : bwStep xs a1 i = some (.inr none) := by unfold bwStep; rw [if_neg (by omega)]
set_option maxHeartbeats 4000000 in
set_option maxRecDepth 20000 in
theorem Backward1_ok {w0 w : World} {ps : List PF} {fs : List SF} {L g12 c : Nat} {A : Option Addr} {xs : List disk_write} {rl : Loop} {a1 : Int} {E : disk_write → World → Prop} (hp : rl.params.size = 2)
    (H : Hp w0 ps (cel g12 [.slice A xs.length c] 69 :: own k_disk_write 92 A c xs :: objf L (.loop rl) :: fs) w)
    (hround : ∀ (i : Int) (x : disk_write) w, Hp w0 ps (cel g12 [.slice A xs.length c] 69 :: own k_disk_write 92 A c xs :: objf L (.loop rl) :: fs) w →
      RoundIn Fence.wide 0 Try.prog L rl.fn ((rl.params.zip #[.int .i64 i, .agg (.int .i64 x.at_ :: arrOf x.b.l).toArray]).foldl (fun tmps (t, a) => tmps.setIfInBounds t a) rl.tmps) rl.assign rl.body w
        (fun e w' => ∃ v, e = .returned v ∧ ((x.at_ ≠ a1 ∧ v = .bool true ∧ Hp w0 ps (cel g12 [.slice A xs.length c] 69 :: own k_disk_write 92 A c xs :: objf L (.loop rl) :: fs) w') ∨ (x.at_ = a1 ∧ v = .bool false ∧ E x w')))) :
    Calls Try.prog 96 [.func (.yield L) #[] #[], .pointer (some ⟨g12, 0, none⟩)].toArray w fun e w' => ∃ v, e = .returned v ∧
      (match xs.reverse.find? (fun x => decide (x.at_ = a1)) with
       | none => Hp w0 ps (cel g12 [.slice A xs.length c] 69 :: own k_disk_write 92 A c xs :: objf L (.loop rl) :: fs) w'
       | some x => E x w') := by
  have hle := H.ownLe 1 rfl
  have hmx : maxLen ≤ 9223372036854775807 := by decide
  have hlp := bw_lp xs a1 hle
  refine enter [.func (.yield L) #[] #[], .pointer (some ⟨g12, 0, none⟩)] 19 Try.func96 fun Q a NP RET NRM F => ?_
  refine rg ?_
  refine ls (qv F (r_ld (F.ev (x := .tmp 1) rfl) (cel_cell (o := 0) (H.cell 0 rfl) rfl) one69) fun a F => ?_)
  refine ls (qv F (r_len (F.ev (x := .tmp 4) rfl) Try.underlying69) fun a F => ?_)
  refine ls (qv F (r_sub (F.ev (x := .tmp 5) rfl) (F.ev (x := .const (.int .i64 1)) rfl)) fun a F => ?_)
  refine as_ F rfl fun a F => ?_
  refine rgend ?_
  rw [w64r (by omega) (by omega)] at F
  replace F := F.only [3, 0, 1] (l' := [(3, .int .i64 ((xs.length : Int) - 1)), (0, .func (.yield L) #[] #[]), (1, .pointer (some ⟨g12, 0, none⟩))]) rfl
  refine wp_block ?_
  refine wloop (bwStep xs a1) (fun (s : Int) a w => Fr 19 [] [(3, .int .i64 s), (0, .func (.yield L) #[] #[]), (1, .pointer (some ⟨g12, 0, none⟩))] a ∧ (-1 ≤ s ∧ s < (xs.length : Int)) ∧ Hp w0 ps (cel g12 [.slice A xs.length c] 69 :: own k_disk_write 92 A c xs :: objf L (.loop rl) :: fs) w) hlp ⟨F, ⟨by omega, by omega⟩, H⟩ ?_
  rintro i a w o hj hu ⟨F, hi, H⟩
  refine wp_seq ?_
  refine rg ?_
  refine mv F rfl fun a F => ?_
  refine ls (qv F (r_ge (F.ev (x := .tmp 7) rfl) (F.ev (x := .const (.int .i64 0)) rfl)) fun a F => ?_)
  refine rgend ?_
  by_cases c1 : i ≥ 0
  · rw [decide_eq_true c1] at F
    refine wp_cond_true (F.ev rfl) ?_
    refine wp_skip ?_
    refine wp_seq ?_
    refine wp_block ?_
    refine rgW ?_
    refine lsI (.inl rfl) (fun _ h => by cases h) (qv F (r_mv (F.ev (x := .tmp 0) rfl)) fun a F => ?_)
    refine lsI (.inl rfl) (fun _ h => by cases h) (qv F (r_mv (F.ev (x := .tmp 3) rfl)) fun a F => ?_)
    refine lsI (.inl rfl) (fun _ h => by cases h) (qv F (r_ld (F.ev (x := .tmp 1) rfl) (cel_cell (o := 0) (H.cell 0 rfl) rfl) one69) fun a F => ?_)
    refine lsI (.inl rfl) (fun _ h => by cases h) (qv F (r_mv (F.ev (x := .tmp 3) rfl)) fun a F => ?_)
    obtain ⟨g27, s28, hA, hq30, hl29, H⟩ := H.ixOwn2 (⟨0, (Arr.zero 64)⟩ : disk_write) 1 rfl (F.ev (x := .tmp 13) rfl) (F.ev (x := .tmp 14) rfl) Try.underlying69 sz92 (by decide) c1 hi.2
    obtain ⟨rfl, H⟩ := H.open_disk_write 0 rfl
    refine lsI (.inl rfl) (fun _ h => by cases h) (qv F (hq30 _ _ _ _ _ _) fun a F => ?_)
    refine lsI (.inl rfl) (fun _ h => by cases h) (qv F (r_ldA (F.ev (x := .tmp 15) rfl) hl29 agg92 (len_cons (arr_len ((xs.getD (i : Int).toNat (⟨0, (Arr.zero 64)⟩ : disk_write)).b)))) fun a F => ?_)
    replace H := H.px0
    refine yieldI F (H.obj 2 rfl) (args := [.int .i64 i, .agg (.int .i64 (xs.getD i.toNat ⟨0, Arr.zero 64⟩).at_ :: arrOf (xs.getD i.toNat ⟨0, Arr.zero 64⟩).b.l).toArray]) (hround i (xs.getD i.toNat ⟨0, Arr.zero 64⟩) _ H) rfl rfl hp.symm ?_
    rintro v w (⟨hne, rfl, H⟩ | ⟨heq, rfl, hE⟩) a F
    · refine lsI (.inl rfl) (fun _ h => by cases h) (qv F (r_not (F.ev (x := .tmp 17) rfl)) fun a F => ?_)
      refine rgendW ?_
      refine wp_cond_false (F.ev rfl) ?_
      refine wp_skip ?_
      refine wp_region_lit ?_
      refine mv F rfl fun a F => ?_
      refine ls (qv F (r_sub (F.ev (x := .tmp 9) rfl) (F.ev (x := .const (.int .i64 1)) rfl)) fun a F => ?_)
      refine as_ F rfl fun a F => ?_
      refine wpList_nil ?_
      rw [w64r (by omega) (by omega)] at F
      refine ⟨i - 1, ?_, F.only [3, 0, 1] rfl, ⟨by omega, by omega⟩, H⟩
      have : bwStep xs a1 i = some (.inl (i - 1)) := by unfold bwStep; rw [if_pos c1, if_pos hi.2, if_neg hne]
      rw [this] at hj
      exact (Option.some.inj hj).symm
    · refine lsI (.inl rfl) (fun _ h => by cases h) (qv F (r_not (F.ev (x := .tmp 17) rfl)) fun a F => ?_)
      refine rgendW ?_
      refine wp_cond_true (F.ev rfl) ?_
      refine wp_ret ?_
      have : bwStep xs a1 i = some (.inr (some (xs.getD i.toNat ⟨0, Arr.zero 64⟩))) := by unfold bwStep; rw [if_pos c1, if_pos hi.2, if_pos heq]
      rw [this] at hj
      have hr := hu _ (Option.some.inj hj).symm
      refine RET _ _ (ret0 F rfl ⟨_, rfl, ?_⟩)
      rw [← hr]
      exact hE
  · rw [decide_eq_false c1] at F
    refine wp_cond_false (F.ev rfl) ?_
    refine wp_exit ?_
    rw [bw_inr (by omega)] at hj
    have hr := hu _ (Option.some.inj hj).symm
    refine exT (exT (exB (NRM _ _ (ret0 F rfl ⟨_, rfl, ?_⟩))))
    rw [← hr]
    exact H
/-! ### Read -/
theorem tiErr : TI Try.prog 36 (.int .i64 0) 1 8 := by unfold TI; kernel_rfl
theorem szErr : szB Try.prog 36 1 = true := by kernel_rfl
theorem oneErr : oneB Try.prog 36 = true := by kernel_rfl
theorem tiKey : TI Try.prog 3 (.int .i64 0) 1 8 := by unfold TI; kernel_rfl
def disk_Disk_Read_f (a0 : disk_Disk) (a1 : Int) : Option (List Int × Int) :=
  if 0 ≤ a1 ∧ a1 < (a0.sectors.length : Int) then
    match a0.pending.reverse.find? (fun x => decide (x.at_ = a1)) with
    | some x => some (x.b.l, 0)
    | none => if (mget a0.torn a1).isSome then some ([], 41) else some ((a0.sectors.getD a1.toNat (Arr.zero 64)).l, 0)
  else some ([], 3)
theorem there_eq (a0 : disk_Disk) (a1 : Int) : disk_Disk_there_f a0 a1 = some (decide (0 ≤ a1 ∧ a1 < (a0.sectors.length : Int))) := by
  unfold disk_Disk_there_f
  by_cases h : a1 ≥ 0
  · rw [if_pos h]
    have h' : 0 ≤ a1 := h
    simp [h']
  · rw [if_neg h]
    have h' : ¬ 0 ≤ a1 := h
    simp [h']
theorem clone_eq (x : Arr 64) : slices_Clone_f x.l = some x.l := by
  unfold slices_Clone_f
  rw [if_pos (by rw [x.h]; decide)]
set_option maxHeartbeats 4000000 in
set_option maxRecDepth 20000 in
theorem disk_Disk_Read_ok {w0 w : World} {ps : List PF} {fs : List SF} {a0 : disk_Disk} {g0_ : Nat} {a1 : Int} {r0 : List Int} {r1 : Int} (H : Hp w0 ps (obj_disk_Disk g0_ a0 :: fs) w) (h : disk_Disk_Read_f a0 a1 = some (r0, r1)) :
    Calls Try.prog 64 [.pointer (some ⟨g0_, 0, none⟩), .int .i64 a1].toArray w fun e w' => ∃ v, e = .returned v ∧ ∃ (A0 : Option Addr) (c0 : Nat), v = .tuple #[.slice A0 r0.length c0, .int .i64 r1] ∧ Hp w0 ps (own kByte 5 A0 c0 r0 :: obj_disk_Disk g0_ a0 :: fs) w' := by
  refine enterM [.pointer (some ⟨g0_, 0, none⟩), .int .i64 a1] 46 Try.func64 fun Q a NP RET NRM F => ?_
  unfold disk_Disk_Read_f at h
  refine rg ?_
  refine ls (lbox F H rfl (cs := [.int .i64 a1]) rfl fun g1 w a H F => ?_)
  refine ls (lal F H ti29 (cs := [.slice none 0 0]) rfl fun g2 w a H F => ?_)
  refine ls (lal F H tiErr (cs := [.int .i64 0]) rfl fun g3 w a H F => ?_)
  refine rgend ?_
  refine wp_seq ?_
  refine rg ?_
  refine mv F rfl fun a F => ?_
  refine ls (qv F (r_ld (F.ev (x := .tmp 3) rfl) (cel_cell (o := 0) (H.cell 2 rfl) rfl) one3) fun a F => ?_)
  obtain ⟨x4, hx4⟩ : ∃ b, b = decide (0 ≤ a1 ∧ a1 < (a0.sectors.length : Int)) := ⟨_, rfl⟩
  have e5 : disk_Disk_there_f a0 a1 = some x4 := by rw [hx4]; exact there_eq a0 a1
  refine ls (call F Try.func53 (disk_Disk_there_ok (H.f2.f2.f2.f3) e5) rfl rfl fun v w hR a F => ?_)
  obtain ⟨rfl, H⟩ := hR
  refine ls (qv F (r_not (F.ev (x := .tmp 12) rfl)) fun a F => ?_)
  refine rgend ?_
  replace F := F.only [13, 5, 4, 3, 0] (l' := [(13, .bool (!x4)), (5, .pointer (some ⟨g3, 0, none⟩)), (4, .pointer (some ⟨g2, 0, none⟩)), (3, .pointer (some ⟨g1, 0, none⟩)), (0, .pointer (some ⟨g0_, 0, none⟩))]) rfl
  by_cases c6 : x4 = true
  · have c6' : 0 ≤ a1 ∧ a1 < (a0.sectors.length : Int) := of_decide_eq_true (by rw [← hx4]; exact c6)
    rw [if_pos c6'] at h
    rw [c6] at F
    refine wp_cond_false (F.ev rfl) ?_
    refine wp_skip ?_
    refine wp_seq ?_
    refine rg ?_
    refine mv F rfl fun a F => ?_
    refine ls (qv F (r_nc (F.ev (x := .tmp 14) rfl)) fun a F => ?_)
    refine ls (qv F (r_fa (off := 2) (F.ev (x := .tmp 15) rfl) fa71_2) fun a F => ?_)
    obtain ⟨A7, c8, A10, c11, g9, H⟩ := Hp.openO_disk_Disk (H)
    refine ls (qv F (r_ld (F.ev (x := .tmp 16) rfl) (cel_cell (o := 2) (H.cell 0 rfl) rfl) one69) fun a F => ?_)
    refine ls (call F Try.func86 (Backward_ok (A := A10) (n := a0.pending.length) (c := c11) H) rfl rfl fun v w hR a F => ?_)
    obtain ⟨g12, rfl, H⟩ := hR
    refine rgend ?_
    replace F := F.only [18, 5, 4, 3, 0] (l' := [(18, .func (.func 96) #[] #[.pointer (some ⟨g12, 0, none⟩)]), (5, .pointer (some ⟨g3, 0, none⟩)), (4, .pointer (some ⟨g2, 0, none⟩)), (3, .pointer (some ⟨g1, 0, none⟩)), (0, .pointer (some ⟨g0_, 0, none⟩))]) rfl
    refine wp_block ?_
    refine wrange F H (caps := [.pointer (some ⟨g12, 0, none⟩)]) (fun L D o w => match a0.pending.reverse.find? (fun x => decide (x.at_ = a1)) with
      | none => o = none ∧ Hp w0 ps (cel g12 [.slice A10 a0.pending.length c11] 69 :: own k_disk_write 92 A10 c11 a0.pending :: objf D (.deferred (some [])) :: cel g0_ [.slice A7 a0.sectors.length c8, .map (some g9), .slice A10 a0.pending.length c11, .int .i64 a0.fuse] 71 :: own (kA 64) 90 A7 c8 a0.sectors :: imap g9 a0.torn :: cel g3 [.int .i64 0] 36 :: cel g2 [.slice none 0 0] 29 :: cel g1 [.int .i64 a1] 3 :: fs) w
      | some x => o = some .ret ∧ ∃ (A' : Option Addr) (c' : Nat), Hp w0 ps (cel g3 [.int .i64 0] 36 :: cel g2 [.slice A' x.b.l.length c'] 29 :: own kByte 5 A' c' x.b.l :: cel g12 [.slice A10 a0.pending.length c11] 69 :: own k_disk_write 92 A10 c11 a0.pending :: objf D (.deferred (some [])) :: cel g0_ [.slice A7 a0.sectors.length c8, .map (some g9), .slice A10 a0.pending.length c11, .int .i64 a0.fuse] 71 :: own (kA 64) 90 A7 c8 a0.sectors :: imap g9 a0.torn :: cel g1 [.int .i64 a1] 3 :: fs) w) Try.func96 rfl ?_ ?_ ?_
    · intro fn L D w1 H1
      refine (Backward1_ok (a1 := a1) (E := fun x w => ∃ (rl : Loop) (A' : Option Addr) (c' : Nat), rl.state ≠ .busy ∧ rl.pending = some .ret ∧ Hp w0 ps (objf L (.loop rl) :: cel g3 [.int .i64 0] 36 :: cel g2 [.slice A' x.b.l.length c'] 29 :: own kByte 5 A' c' x.b.l :: cel g12 [.slice A10 a0.pending.length c11] 69 :: own k_disk_write 92 A10 c11 a0.pending :: objf D (.deferred (some [])) :: cel g0_ [.slice A7 a0.sectors.length c8, .map (some g9), .slice A10 a0.pending.length c11, .int .i64 a0.fuse] 71 :: own (kA 64) 90 A7 c8 a0.sectors :: imap g9 a0.torn :: cel g1 [.int .i64 a1] 3 :: fs) w) rfl H1.f5.f3 ?_).mono ?_
      · intro i x w H
        refine roundIn_of_wpIn trivial ?_
        have F2 := ((⟨F.sz, rfl, F.at_⟩ : Fr 46 [] _ { tmps := a.tmps, defers := [] }).put (d := 19) (by decide) (.int .i64 i)).put (d := 20) (by decide) (.agg (.int .i64 x.at_ :: arrOf x.b.l).toArray)
        rw [show ((#[19, 20] : Array Tmp).zip #[.int .i64 i, .agg (.int .i64 x.at_ :: arrOf x.b.l).toArray]).foldl (fun tmps ((t, a) : Tmp × Value) => tmps.setIfInBounds t a) a.tmps = ((a.tmps.setIfInBounds 19 (.int .i64 i)).setIfInBounds 20 (.agg (.int .i64 x.at_ :: arrOf x.b.l).toArray)) from by simp]
        change Fr 46 [] _ { tmps := ((a.tmps.setIfInBounds 19 (.int .i64 i)).setIfInBounds 20 (.agg (.int .i64 x.at_ :: arrOf x.b.l).toArray)), defers := [] } at F2
        generalize ({ tmps := ((a.tmps.setIfInBounds 19 (.int .i64 i)).setIfInBounds 20 (.agg (.int .i64 x.at_ :: arrOf x.b.l).toArray)), defers := [] } : Act) = a2 at F2 ⊢
        have F := F2
        refine wpIn_region_lit ?_
        refine lsI (.inr ⟨_, rfl⟩) (fun _ h => by cases h) (lal F H ti92 (cs := (.int .i64 0 :: arrOf (Arr.zero 64).l)) rfl fun g32 w a3 H F => ?_)
        obtain ⟨_, hr, H⟩ := Hp.store (t := 92) (o := 0) (n := 65) (vs := (.int .i64 x.at_ :: arrOf x.b.l)) (cs' := (.int .i64 x.at_ :: arrOf x.b.l)) (H) (F.ev (x := .tmp 7) rfl) (F.ev (x := .tmp 20) rfl) rfl sz92 (len_cons (arr_len x.b)) (Nat.le_of_eq ((Nat.zero_add _).trans (len_cons (arr_len (Arr.zero 64))).symm)) (all_cons rfl (arr_all _)) (putAt_all ((len_cons (arr_len x.b)).trans (len_cons (arr_len (Arr.zero 64))).symm))
        refine lsI (.inr ⟨_, rfl⟩) (fun _ h => by cases h) (qn F (.inl rfl) (hr _ _ _ _) fun a3 F => ?_)
        refine wpListIn_nil ?_
        refine ⟨_, run_beginRound (H.obj 3 rfl) rfl, ?_⟩
        replace H := H.f3.begun
        refine wpIn_block ?_
        refine rgI ?_
        refine lsI (.inr ⟨_, rfl⟩) (fun _ h => by cases h) (qv F (r_fa (off := 0) (F.ev (x := .tmp 7) rfl) fa92_0) fun a3 F => ?_)
        refine lsI (.inr ⟨_, rfl⟩) (fun _ h => by cases h) (qv F (r_ld (F.ev (x := .tmp 21) rfl) (cel_cell (o := 0) (H.cell 1 rfl) rfl) one3) fun a3 F => ?_)
        refine lsI (.inr ⟨_, rfl⟩) (fun _ h => by cases h) (qv F (r_ld (F.ev (x := .tmp 3) rfl) (cel_cell (o := 0) (H.cell 10 rfl) rfl) one3) fun a3 F => ?_)
        refine lsI (.inr ⟨_, rfl⟩) (fun _ h => by cases h) (qv F (r_eq (F.ev (x := .tmp 22) rfl) (F.ev (x := .tmp 23) rfl)) fun a3 F => ?_)
        refine rgendI ?_
        by_cases c20 : x.at_ = a1
        · rw [decide_eq_true c20] at F
          refine wpIn_cond_true (F.ev rfl) ?_
          refine rgI ?_
          refine lsI (.inr ⟨_, rfl⟩) (fun _ h => by cases h) (qv F (r_fa (off := 1) (F.ev (x := .tmp 7) rfl) fa92_1) fun a3 F => ?_)
          refine lsI (.inr ⟨_, rfl⟩) (fun _ h => by cases h) (qv F (r_slB (o := 1) (l := 0) (h := 64) (o' := 1) (n' := x.b.l.length) (c' := 64) (F.ev (x := .tmp 25) rfl) Try.underlying90 sz5 (.inl ⟨rfl, rfl⟩) (.inl ⟨rfl, rfl⟩) (by decide) (by decide) (by decide) rfl x.b.h rfl) fun a3 F => ?_)
          replace H := Hp.celRd (o := 1) (c := 64) (ys := x.b.l) H.f1 (arr_take' x.b) x.b.b (Nat.le_of_eq x.b.h) (by decide)
          refine lsI (.inr ⟨_, rfl⟩) (fun _ h => by cases h) (call F Try.func39 (slices_Clone_ok H (clone_eq x.b)) rfl rfl fun v w hR a3 F => ?_)
          obtain ⟨A21, c22, rfl, H⟩ := hR
          obtain ⟨_, hr, H⟩ := Hp.store (t := 29) (o := 0) (n := 1) (vs := [.slice A21 x.b.l.length c22]) (cs' := [.slice A21 x.b.l.length c22]) (H.f9) (F.ev (x := .tmp 4) rfl) (F.ev (x := .tmp 27) rfl) rfl sz29 rfl (Nat.le_of_ble_eq_true rfl) rfl rfl
          refine lsI (.inr ⟨_, rfl⟩) (fun _ h => by cases h) (qn F (.inl rfl) (hr _ _ _ _) fun a3 F => ?_)
          obtain ⟨_, hr, H⟩ := Hp.store (t := 36) (o := 0) (n := 1) (vs := [.int .i64 0]) (cs' := [.int .i64 0]) (H.f9) (F.ev (x := .tmp 5) rfl) (F.ev (x := .const (.int .i64 0)) rfl) rfl szErr rfl (Nat.le_of_ble_eq_true rfl) rfl rfl
          refine lsI (.inr ⟨_, rfl⟩) (fun _ h => by cases h) (qn F (.inl rfl) (hr _ _ _ _) fun a3 F => ?_)
          refine rgendI ?_
          refine wpIn_ret ?_
          exact ⟨_, _, run_endRound (some .ret) (H.obj 3 rfl), _, rfl, .inr ⟨c20, rfl, _, A21, c22, (by intro h; cases h), rfl, H.f3.putobj _⟩⟩
        · rw [decide_eq_false c20] at F
          refine wpIn_cond_false (F.ev rfl) ?_
          refine wpIn_skip ?_
          exact ⟨_, _, run_endRound none (H.obj 0 rfl), _, rfl, .inl ⟨c20, rfl, (H.putobj _).fx1.f2.f2⟩⟩
      · rintro e w3 ⟨v, rfl, hm⟩
        refine ⟨v, rfl, ?_⟩
        cases hfd : a0.pending.reverse.find? (fun x => decide (x.at_ = a1)) with
        | none =>
          rw [hfd] at hm
          exact ⟨_, (by intro h; cases h), Hp.obj hm 2 rfl, rfl, ((Hp.f2 hm).putobj _).fx0⟩
        | some x =>
          rw [hfd] at hm
          obtain ⟨rl, A', c', hb, hpd, hm⟩ := hm
          exact ⟨rl, hb, Hp.obj hm 0 rfl, hpd, A', c', (Hp.putobj hm _).fx0⟩
    rotate_left
    · intro L D c w4 a S F
      cases hfd : a0.pending.reverse.find? (fun x => decide (x.at_ = a1)) with
      | none => rw [hfd] at S; cases S.1
      | some x =>
        rw [hfd] at S h
        obtain ⟨hc, A', c', H⟩ := S
        cases hc
        refine wp_ret ?_
        obtain ⟨rfl, rfl⟩ := Prod.mk.inj (Option.some.inj h)
        replace H := H.f5
        have H5 := H.putobj (.deferred none)
        refine RET _ _ (retM1 F (H.obj 0 rfl) (resC2 F rfl rfl rfl (ldv1 (cel_cell (o := 0) (H5.cell 2 rfl) rfl) one29) (ldv1 (cel_cell (o := 0) (H5.cell 1 rfl) rfl) oneErr)) ⟨_, rfl, A', c', rfl, ?_⟩)
        exact (Hp.closeO_disk_Disk (x := a0) (H5.arr 0 [] 10 [6, 6, 5, 5, 3] rfl rfl)).f1
    · intro L D w4 a S F
      cases hfd : a0.pending.reverse.find? (fun x => decide (x.at_ = a1)) with
      | some x => rw [hfd] at S; cases S.1
      | none =>
        rw [hfd] at S h
        have H : Hp w0 ps (cel g12 [.slice A10 a0.pending.length c11] 69 :: cel g0_ [.slice A7 a0.sectors.length c8, .map (some g9), .slice A10 a0.pending.length c11, .int .i64 a0.fuse] 71 :: own (kA 64) 90 A7 c8 a0.sectors :: own k_disk_write 92 A10 c11 a0.pending :: imap g9 a0.torn :: cel g3 [.int .i64 0] 36 :: cel g2 [.slice none 0 0] 29 :: cel g1 [.int .i64 a1] 3 :: objf D (.deferred (some [])) :: fs) w4 := S.2.arr 0 [] 9 [0, 2, 2, 0, 1, 1, 1, 1, 0] rfl rfl
        clear S
        refine wp_seq ?_
        refine wp_seq ?_
        replace H := H.drew
        have HS := H.fx3.fx2
        refine dr (fun w => Hp w0 ps (cel g12 [.slice A10 a0.pending.length c11] 69 :: cel g0_ [.slice A7 a0.sectors.length c8, .map (some g9), .slice A10 a0.pending.length c11, .int .i64 a0.fuse] 71 :: imap g9 a0.torn :: cel g3 [.int .i64 0] 36 :: cel g2 [.slice none 0 0] 29 :: cel g1 [.int .i64 a1] 3 :: objf D (.deferred (some [])) :: fs) w) _ (by kernel_rfl) ?_ (n := 11)
        refine dq 0 F rfl (by kernel_rfl) NP HS (fun w S => (r_mv (F.ev (x := .tmp 0) rfl))) fun a F => ?_
        refine dq 1 F rfl (by kernel_rfl) NP HS (fun w S => (r_nc (F.ev (x := .tmp 29) rfl))) fun a F => ?_
        refine dq 2 F rfl (by kernel_rfl) NP HS (fun w S => (r_fa (off := 1) (F.ev (x := .tmp 30) rfl) fa71_1)) fun a F => ?_
        refine dq 3 F rfl (by kernel_rfl) NP HS (fun w S => (r_ld (F.ev (x := .tmp 31) rfl) (cel_cell (o := 1) (S.cell 1 rfl) rfl) one68)) fun a F => ?_
        refine dq 4 F rfl (by kernel_rfl) NP HS (fun w S => (r_ld (F.ev (x := .tmp 3) rfl) (cel_cell (o := 0) (S.cell 5 rfl) rfl) one3)) fun a F => ?_
        refine dq 5 F rfl (by kernel_rfl) NP HS (fun w S => (S.mlook 2 rfl (F.ev (x := .tmp 32) rfl) (F.ev (x := .tmp 33) rfl) Try.underlying68 Try.underlying3 tiKey)) fun a F => ?_
        refine dq 6 F rfl (by kernel_rfl) NP HS (fun w S => (r_mv (F.ev (x := .tmp 34) rfl))) fun a F => ?_
        refine dq 7 F rfl (by kernel_rfl) NP HS (fun w S => (r_ex (F.ev (x := .tmp 28) rfl) rfl)) fun a F => ?_
        refine dq 8 F rfl (by kernel_rfl) NP HS (fun w S => (r_ex (F.ev (x := .tmp 28) rfl) rfl)) fun a F => ?_
        refine dq 9 F rfl (by kernel_rfl) NP HS (fun w S => (r_as (F.ev (x := .tmp 35) rfl))) fun a F => ?_
        refine dq 10 F rfl (by kernel_rfl) NP HS (fun w S => (r_as (F.ev (x := .tmp 36) rfl))) fun a F => ?_
        refine ddone (by kernel_rfl) ?_
        replace F := F.only [9, 5, 4, 3, 0] (l' := [(9, .bool ((mget a0.torn a1).isSome)), (5, .pointer (some ⟨g3, 0, none⟩)), (4, .pointer (some ⟨g2, 0, none⟩)), (3, .pointer (some ⟨g1, 0, none⟩)), (0, .pointer (some ⟨g0_, 0, none⟩))]) rfl
        refine rg ?_
        refine mv F rfl fun a F => ?_
        refine rgend ?_
        by_cases c13 : ((mget a0.torn a1).isSome) = true
        · rw [if_pos c13] at h
          rw [c13] at F
          refine wp_cond_true (F.ev rfl) ?_
          refine rg ?_
          obtain ⟨_, hr, H⟩ := Hp.store (t := 29) (o := 0) (n := 1) (vs := [.slice none 0 0]) (cs' := [.slice none 0 0]) (H.f7.f6.f6.f6.f6.f6.f6.f7) (F.ev (x := .tmp 4) rfl) (F.ev (x := .const (.slice none 0 0)) rfl) rfl sz29 rfl (Nat.le_of_ble_eq_true rfl) rfl rfl
          refine ls (qn F (.inl rfl) (hr _ _ _ _) fun a F => ?_)
          obtain ⟨_, hr, H⟩ := Hp.store (t := 36) (o := 0) (n := 1) (vs := [.int .i64 41]) (cs' := [.int .i64 41]) (H.f7.f6.f6.f6.f6.f6.f6.f7) (F.ev (x := .tmp 5) rfl) (F.ev (x := .const (.int .i64 41)) rfl) rfl szErr rfl (Nat.le_of_ble_eq_true rfl) rfl rfl
          refine ls (qn F (.inl rfl) (hr _ _ _ _) fun a F => ?_)
          refine rgend ?_
          replace F := F.only [5, 4] (l' := [(5, .pointer (some ⟨g3, 0, none⟩)), (4, .pointer (some ⟨g2, 0, none⟩))]) rfl
          refine wp_ret ?_
          obtain ⟨rfl, rfl⟩ := Prod.mk.inj (Option.some.inj h)
          replace H := H.f8
          have H5 := H.putobj (.deferred none)
          refine RET _ _ (retM1 F (H.obj 0 rfl) (resC2 F rfl rfl rfl (ldv1 (cel_cell (o := 0) (H5.cell 2 rfl) rfl) one29) (ldv1 (cel_cell (o := 0) (H5.cell 1 rfl) rfl) oneErr)) ⟨_, rfl, none, 0, rfl, ?_⟩)
          exact (Hp.closeO_disk_Disk (x := a0) (H5.arr 0 [] 9 [4, 4, 4, 4] rfl rfl)).nilOwn kByte 5
        · rw [if_neg c13] at h
          rw [Bool.eq_false_iff.2 c13] at F
          refine wp_cond_false (F.ev rfl) ?_
          refine wp_skip ?_
          refine wp_seq ?_
          replace H := H.drew
          have HS := H.fx3.fx2
          refine dr (fun w => Hp w0 ps (cel g12 [.slice A10 a0.pending.length c11] 69 :: cel g0_ [.slice A7 a0.sectors.length c8, .map (some g9), .slice A10 a0.pending.length c11, .int .i64 a0.fuse] 71 :: imap g9 a0.torn :: cel g3 [.int .i64 0] 36 :: cel g2 [.slice none 0 0] 29 :: cel g1 [.int .i64 a1] 3 :: objf D (.deferred (some [])) :: fs) w) _ (by kernel_rfl) ?_ (n := 10)
          refine dq 0 F rfl (by kernel_rfl) NP HS (fun w S => (r_mv (F.ev (x := .tmp 0) rfl))) fun a F => ?_
          refine dq 1 F rfl (by kernel_rfl) NP HS (fun w S => (r_nc (F.ev (x := .tmp 38) rfl))) fun a F => ?_
          refine dq 2 F rfl (by kernel_rfl) NP HS (fun w S => (r_fa (off := 0) (F.ev (x := .tmp 39) rfl) fa71_0)) fun a F => ?_
          refine dq 3 F rfl (by kernel_rfl) NP HS (fun w S => (r_ld (F.ev (x := .tmp 40) rfl) (cel_cell (o := 0) (S.cell 1 rfl) rfl) one67)) fun a F => ?_
          refine dq 4 F rfl (by kernel_rfl) NP HS (fun w S => (r_ld (F.ev (x := .tmp 3) rfl) (cel_cell (o := 0) (S.cell 5 rfl) rfl) one3)) fun a F => ?_
          have c14 := c6'
          obtain ⟨g15, s16, hA, hq18, hl17, H⟩ := H.ixOwn2 (Arr.zero 64) 2 rfl (F.ev (x := .tmp 41) rfl) (F.ev (x := .tmp 42) rfl) Try.underlying67 sz90 (by decide) c14.1 c14.2
          cases hA
          obtain rfl := H.says_arr 0 rfl
          have HS := H.fx3.fx2
          refine dmoreH HS (fun w S => S.px0) ?_
          refine dq 5 F rfl (by kernel_rfl) NP HS (fun w S => (hq18 _ _ _ _ _ _)) fun a F => ?_
          refine dq 6 F rfl (by kernel_rfl) NP HS (fun w S => (r_slB (o := ((a1 : Int).toNat * (kA 64).sz)) (l := 0) (h := 64) (o' := ((a1 : Int).toNat * (kA 64).sz)) (n' := (a0.sectors.getD (a1 : Int).toNat (Arr.zero 64)).l.length) (c' := 64) (F.ev (x := .tmp 43) rfl) Try.underlying90 sz5 (.inl ⟨rfl, rfl⟩) (.inl ⟨rfl, rfl⟩) (by decide) (by decide) (by decide) rfl (a0.sectors.getD (a1 : Int).toNat (Arr.zero 64)).h rfl)) fun a F => ?_
          obtain ⟨x20, hx20⟩ : ∃ l, l = (a0.sectors.getD (a1 : Int).toNat (Arr.zero 64)).l := ⟨_, rfl⟩
          have e19 : slices_Clone_f ((a0.sectors.getD (a1 : Int).toNat (Arr.zero 64)).l) = some x20 := by rw [hx20]; exact clone_eq _
          rw [← hx20] at h
          try dsimp only at h
          refine d1 7 rfl (by kernel_rfl) (call F Try.func39 (slices_Clone_ok (Hp.init _ [rd kByte ((some ⟨g15, (a1 : Int).toNat * (kA 64).sz, none⟩)) 64 ((a0.sectors.getD (a1 : Int).toNat (Arr.zero 64)).l)] (by intro p hp; rw [List.mem_singleton.1 hp]; exact H.rowsPart (j := a1) 2 rfl c14.1 c14.2 (by decide))) e19) rfl rfl fun v w hR a F => ?_)
          obtain ⟨A21, c22, rfl, H2⟩ := hR
          replace H := H.lend H2
          have HS := H.fx4.fx3.fx0
          refine kg _ HS (fun w S => S) ?_
          obtain ⟨_, hr, H⟩ := Hp.store (t := 29) (o := 0) (n := 1) (vs := [.slice A21 x20.length c22]) (cs' := [.slice A21 x20.length c22]) (H.f8.f7.f7.f7.f7.f7.f7.f7.f8) (F.ev (x := .tmp 4) rfl) (F.ev (x := .tmp 45) rfl) rfl sz29 rfl (Nat.le_of_ble_eq_true rfl) rfl rfl
          refine d1 8 rfl (by kernel_rfl) (qn F (.inl rfl) (hr _ _ _ _) fun a F => ?_)
          have HS := H.fx5.fx4.fx1
          refine kga (by kernel_rfl) HS ?_
          obtain ⟨_, hr, H⟩ := Hp.store (t := 36) (o := 0) (n := 1) (vs := [.int .i64 0]) (cs' := [.int .i64 0]) (H.f8.f7.f7.f7.f7.f7.f7.f7.f8) (F.ev (x := .tmp 5) rfl) (F.ev (x := .const (.int .i64 0)) rfl) rfl szErr rfl (Nat.le_of_ble_eq_true rfl) rfl rfl
          refine d1 9 rfl (by kernel_rfl) (qn F (.inl rfl) (hr _ _ _ _) fun a F => ?_)
          have HS := H.f8.f1.f8.f6.f6.f5.fx8.fx7.fx6
          refine kg _ HS (fun w S => S) ?_
          refine ddone (by kernel_rfl) ?_
          replace F := F.only [5, 4] (l' := [(5, .pointer (some ⟨g3, 0, none⟩)), (4, .pointer (some ⟨g2, 0, none⟩))]) rfl
          refine wp_ret ?_
          obtain ⟨rfl, rfl⟩ := Prod.mk.inj (Option.some.inj h)
          replace H := H.px0.f9
          have H5 := H.putobj (.deferred none)
          refine RET _ _ (retM1 F (H.obj 0 rfl) (resC2 F rfl rfl rfl (ldv1 (cel_cell (o := 0) (H5.cell 2 rfl) rfl) one29) (ldv1 (cel_cell (o := 0) (H5.cell 1 rfl) rfl) oneErr)) ⟨_, rfl, _, _, rfl, ?_⟩)
          exact (Hp.closeO_disk_Disk (x := a0) (H5.arr 0 [] 10 [5, 5, 5, 5, 3] rfl rfl)).f1
  · have c6' : ¬ (0 ≤ a1 ∧ a1 < (a0.sectors.length : Int)) := fun h => c6 (by rw [hx4]; exact decide_eq_true h)
    rw [if_neg c6'] at h
    rw [Bool.eq_false_iff.2 c6] at F
    refine wp_cond_true (F.ev rfl) ?_
    refine rg ?_
    obtain ⟨_, hr, H⟩ := Hp.store (t := 29) (o := 0) (n := 1) (vs := [.slice none 0 0]) (cs' := [.slice none 0 0]) (H.f3.f2.f2.f3) (F.ev (x := .tmp 4) rfl) (F.ev (x := .const (.slice none 0 0)) rfl) rfl sz29 rfl (Nat.le_of_ble_eq_true rfl) rfl rfl
    refine ls (qn F (.inl rfl) (hr _ _ _ _) fun a F => ?_)
    obtain ⟨_, hr, H⟩ := Hp.store (t := 36) (o := 0) (n := 1) (vs := [.int .i64 3]) (cs' := [.int .i64 3]) (H.f3.f2.f2.f3) (F.ev (x := .tmp 5) rfl) (F.ev (x := .const (.int .i64 3)) rfl) rfl szErr rfl (Nat.le_of_ble_eq_true rfl) rfl rfl
    refine ls (qn F (.inl rfl) (hr _ _ _ _) fun a F => ?_)
    refine rgend ?_
    refine wp_ret ?_
    obtain ⟨rfl, rfl⟩ := Prod.mk.inj (Option.some.inj h)
    refine RET _ _ (retM0 F (resC2 F rfl rfl rfl (ldv1 (cel_cell (o := 0) (H.cell 1 rfl) rfl) one29) (ldv1 (cel_cell (o := 0) (H.cell 0 rfl) rfl) oneErr)) ⟨_, rfl, none, 0, rfl, ?_⟩)
    exact H.fx1.fx0.fx1.nilOwn kByte 5
end Go.Proofs.Ytpmkpiffbdcflaa
