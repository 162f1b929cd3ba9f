/- What the functions compute. Printed by wip/gen. -/
import Derived.Test.YtdkdaggpfgajlaaG0
set_option linter.unusedVariables false
set_option linter.unusedSimpArgs false
namespace Go.Proofs.Ytdkdaggpfgajlaa
open Go Go.RowKit
def disk_Disk_Sync_b0 (a0 : disk_Disk) : (Int × (List (Arr 64)) × (List (Int × Int))) → Option (Int × (List (Arr 64)) × (List (Int × Int)) ⊕ (List (Arr 64)) × (List (Int × Int)))
  | (x15, x16, x19) => (if x15 < (a0.pending.length : Int) then (if 0 ≤ x15 ∧ x15 < (a0.pending.length : Int) then ((some () : Option (Unit)).bind fun _ => ((some () : Option (Unit)).bind fun _ => (if 0 ≤ (a0.pending.getD (x15 : Int).toNat (⟨0, (Arr.zero 64)⟩ : disk_write)).at_ ∧ (a0.pending.getD (x15 : Int).toNat (⟨0, (Arr.zero 64)⟩ : disk_write)).at_ < (x16.length : Int) then some (.inl (IntKind.i64.wrap (x15 + 1), (x16.set ((a0.pending.getD (x15 : Int).toNat (⟨0, (Arr.zero 64)⟩ : disk_write)).at_ : Int).toNat ((a0.pending.getD (x15 : Int).toNat (⟨0, (Arr.zero 64)⟩ : disk_write)).b)), (mdel x19 ((a0.pending.getD (x15 : Int).toNat (⟨0, (Arr.zero 64)⟩ : disk_write)).at_)))) else none))) else none) else some (.inr (x16, x19)))
def disk_Disk_Sync_f (a0 : disk_Disk) : Option (Int × disk_Disk) :=
  (((if a0.fuse = 0 then some (42, a0) else ((((((lp (disk_Disk_Sync_b0 a0) (0, a0.sectors, a0.torn)).bind fun (x20, x23) => some (((⟨x20, x23, [], max (IntKind.i64.wrap (a0.fuse - 1)) (-1)⟩ : disk_Disk)))) : Option (disk_Disk)).bind fun x13 => some x13) : Option (disk_Disk)).bind fun x11 => some (0, x11))) : Option (Int × disk_Disk)).bind fun (x2, x3) => some (x2, x3))
set_option maxHeartbeats 4000000 in
set_option maxRecDepth 20000 in
theorem disk_Disk_Sync_ok {w0 w : World} {ps : List PF} {fs : List SF} {a0 : disk_Disk} {g0_ : Nat} {r0 : Int} {s0 : disk_Disk} (H : Hp w0 ps (obj_disk_Disk g0_ a0 :: fs) w) (h : disk_Disk_Sync_f a0 = some (r0, s0)) :
    Calls Try.prog 32 [.pointer (some ⟨g0_, 0, none⟩)].toArray w fun e w' => ∃ v, e = .returned v ∧ v = .int .i64 r0 ∧ Hp w0 ps (obj_disk_Disk g0_ s0 :: fs) w' := by
  refine enter [.pointer (some ⟨g0_, 0, none⟩)] 6 Try.func32 fun Q a NP RET NRM F => ?_
  replace NP : ∀ c a w, ¬ Q (.panic c) a w := fun c a w h => by rcases NP c a w h with h | ⟨w, v, h, _⟩ <;> cases h
  unfold disk_Disk_Sync_f at h
  refine rg ?_
  refine ls (lbox F H rfl (cs := [.pointer (some ⟨g0_, 0, none⟩)]) rfl fun g1 w a H F => ?_)
  refine as_ F (v := .int .i64 0) rfl fun a F => ?_
  refine rgend ?_
  refine rg ?_
  refine ls (qv F (r_ld (F.ev (x := .tmp 1) rfl) (cel_cell (o := 0) (H.cell 0 rfl) rfl) one28) fun a F => ?_)
  refine ls (qv F (r_mf (f' := #[]) (c' := #[.pointer (some ⟨g1, 0, none⟩)]) (by simp) (by rw [List.map_toArray]; exact congrArg _ (F.evs rfl))) fun a F => ?_)
  obtain ⟨o_3, k_3, h⟩ := Option.bind_eq_some_iff.1 h
  refine ls (call F Try.func45 (R := fun v w => ∃ (x2 : Int) (x3 : disk_Disk), (x2, x3) = o_3 ∧ v = .int .i64 x2 ∧ Hp w0 ps (obj_disk_Disk g0_ x3 :: cel g1 [.pointer (some ⟨g0_, 0, none⟩)] 28 :: fs) w) (args := [.pointer (some ⟨g0_, 0, none⟩), .func (.func 59) #[] #[.pointer (some ⟨g1, 0, none⟩)]]) (cap := []) ?_ rfl rfl ?_)
  · refine enter [.pointer (some ⟨g0_, 0, none⟩), .func (.func 59) #[] #[.pointer (some ⟨g1, 0, none⟩)]] 21 Try.func45 fun Q a NP RET NRM F => ?_
    replace NP : ∀ c a w, ¬ Q (.panic c) a w := fun c a w h => by rcases NP c a w h with h | ⟨w, v, h, _⟩ <;> cases h
    refine rg ?_
    refine as_ F (v := .int .i64 0) rfl fun a F => ?_
    refine rgend ?_
    refine wp_seq ?_
    refine rg ?_
    refine mv F rfl fun a F => ?_
    refine ls (qv F (r_nc (F.ev (x := .tmp 5) rfl)) fun a F => ?_)
    refine ls (qv F (r_fa (off := 3) (F.ev (x := .tmp 6) rfl) fa76_3) fun a F => ?_)
    obtain ⟨A5, c6, A8, c9, g7, H⟩ := Hp.openO_disk_Disk (H.f1)
    refine ls (qv F (r_ld (F.ev (x := .tmp 7) rfl) (cel_cell (o := 3) (H.cell 0 rfl) rfl) one3) fun a F => ?_)
    refine ls (qv F (r_eq (F.ev (x := .tmp 8) rfl) (F.ev (x := .const (.int .i64 0)) rfl)) fun a F => ?_)
    refine rgend ?_
    replace F := F.only [9, 0, 1] (l' := [(9, .bool (decide (a0.fuse = 0))), (0, .pointer (some ⟨g0_, 0, none⟩)), (1, .func (.func 59) #[] #[.pointer (some ⟨g1, 0, none⟩)])]) rfl
    by_cases c10 : a0.fuse = 0
    · rw [if_pos c10] at k_3
      rw [decide_eq_true c10] at F
      refine wp_cond_true (F.ev rfl) ?_
      refine rg ?_
      refine as_ F (v := .int .i64 42) rfl fun a F => ?_
      refine rgend ?_
      refine wp_ret ?_
      replace H := Hp.closeO_disk_Disk (x := a0) (H)
      try dsimp only at k_3
      obtain rfl := Option.some.inj k_3
      exact RET _ _ (ret1 F rfl rfl ⟨_, rfl, _, _, rfl, rfl, H⟩)
    · rw [if_neg c10] at k_3
      rw [decide_eq_false c10] at F
      refine wp_cond_false (F.ev rfl) ?_
      refine wp_skip ?_
      refine rg ?_
      refine mv F rfl fun a F => ?_
      refine mv F rfl fun a F => ?_
      refine ls (qv F (r_nc (F.ev (x := .tmp 11) rfl)) fun a F => ?_)
      refine ls (qv F (r_fa (off := 3) (F.ev (x := .tmp 12) rfl) fa76_3) fun a F => ?_)
      refine ls (qv F (r_ld (F.ev (x := .tmp 13) rfl) (cel_cell (o := 3) (H.cell 0 rfl) rfl) one3) fun a F => ?_)
      refine ls (qv F (r_sub (F.ev (x := .tmp 14) rfl) (F.ev (x := .const (.int .i64 1)) rfl)) fun a F => ?_)
      refine ls (qv F (r_max (F.ev (x := .tmp 15) rfl) (F.ev (x := .const (.int .i64 (-1))) rfl)) fun a F => ?_)
      refine ls (qv F (r_nc (F.ev (x := .tmp 10) rfl)) fun a F => ?_)
      refine ls (qv F (r_fa (off := 3) (F.ev (x := .tmp 17) rfl) fa76_3) fun a F => ?_)
      obtain ⟨_, hr, H⟩ := Hp.store (t := 3) (o := 3) (n := 1) (vs := [.int .i64 (max (IntKind.i64.wrap (a0.fuse - 1)) (-1))]) (cs' := [.slice A5 a0.sectors.length c6, .map (some g7), .slice A8 a0.pending.length c9, .int .i64 (max (IntKind.i64.wrap (a0.fuse - 1)) (-1))]) (H) (F.ev (x := .tmp 18) rfl) (F.ev (x := .tmp 16) rfl) rfl sz3 rfl (Nat.le_of_ble_eq_true rfl) rfl rfl
      refine ls (qn F (.inl rfl) (hr _ _ _ _) fun a F => ?_)
      refine rgend ?_
      replace F := F.only [1] (l' := [(1, .func (.func 59) #[] #[.pointer (some ⟨g1, 0, none⟩)])]) rfl
      refine rg ?_
      refine mv F rfl fun a F => ?_
      obtain ⟨o_11, k_11, k_3⟩ := Option.bind_eq_some_iff.1 k_3
      refine ls (call F Try.func59 (R := fun v w => ∃ (x11 : disk_Disk), x11 = o_11 ∧ v = .int .i64 0 ∧ Hp w0 ps (obj_disk_Disk g0_ x11 :: cel g1 [.pointer (some ⟨g0_, 0, none⟩)] 28 :: fs) w) (args := [.pointer (some ⟨g1, 0, none⟩)]) (cap := [.pointer (some ⟨g1, 0, none⟩)]) ?_ rfl rfl ?_)
      · refine enter [.pointer (some ⟨g1, 0, none⟩)] 4 Try.func59 fun Q a NP RET NRM F => ?_
        replace NP : ∀ c a w, ¬ Q (.panic c) a w := fun c a w h => by rcases NP c a w h with h | ⟨w, v, h, _⟩ <;> cases h
        refine rg ?_
        refine as_ F (v := .int .i64 0) rfl fun a F => ?_
        refine rgend ?_
        refine rg ?_
        refine ls (qv F (r_ld (F.ev (x := .tmp 0) rfl) (cel_cell (o := 0) (H.cell 4 rfl) rfl) one28) fun a F => ?_)
        obtain ⟨o_13, k_13, k_11⟩ := Option.bind_eq_some_iff.1 k_11
        refine ls (call F Try.func50 (R := fun v w => ∃ (x13 : disk_Disk), x13 = o_13 ∧ v = .tuple #[] ∧ Hp w0 ps (obj_disk_Disk g0_ x13 :: cel g1 [.pointer (some ⟨g0_, 0, none⟩)] 28 :: fs) w) (args := [.pointer (some ⟨g0_, 0, none⟩), .func (.func 60) #[] #[], .func (.func 61) #[] #[]]) (cap := []) ?_ rfl rfl ?_)
        · refine enter [.pointer (some ⟨g0_, 0, none⟩), .func (.func 60) #[] #[], .func (.func 61) #[] #[]] 52 Try.func50 fun Q a NP RET NRM F => ?_
          replace NP : ∀ c a w, ¬ Q (.panic c) a w := fun c a w h => by rcases NP c a w h with h | ⟨w, v, h, _⟩ <;> cases h
          refine wp_seq ?_
          refine rg ?_
          refine mv F rfl fun a F => ?_
          refine ls (qv F (r_nc (F.ev (x := .tmp 8) rfl)) fun a F => ?_)
          refine ls (qv F (r_fa (off := 2) (F.ev (x := .tmp 9) rfl) fa76_2) fun a F => ?_)
          refine ls (qv F (r_ld (F.ev (x := .tmp 10) rfl) (cel_cell (o := 2) (H.cell 0 rfl) rfl) one74) fun a F => ?_)
          refine ls (qv F (r_len (F.ev (x := .tmp 11) rfl) Try.underlying74) fun a F => ?_)
          refine mv F (v := .int .i64 0) rfl fun a F => ?_
          refine rgend ?_
          obtain ⟨o_23, k_23, k_13⟩ := Option.bind_eq_some_iff.1 k_13
          refine cut (fun a w => ∃ (x20 : List (Arr 64)) (x23 : List (Int × Int)), (x20, x23) = o_23 ∧ ∃ (A21 : Option Addr) (c22 : Nat), Fr 52 [] [(0, .pointer (some ⟨g0_, 0, none⟩))] a ∧ Hp w0 ps (own (kA 64) 83 A21 c22 x20 :: own k_disk_write 85 A8 c9 a0.pending :: cel g0_ [.slice A21 x20.length c22, .map (some g7), .slice A8 a0.pending.length c9, .int .i64 (max (IntKind.i64.wrap (a0.fuse - 1)) (-1))] 76 :: cel g1 [.pointer (some ⟨g0_, 0, none⟩)] 28 :: imap g7 x23 :: fs) w) (wp_block ?_) ?_
          · refine wloop (disk_Disk_Sync_b0 a0) (fun (s : Int × (List (Arr 64)) × (List (Int × Int))) a w => ∃ (A17 : Option Addr) (c18 : Nat), Fr 52 [] [(0, .pointer (some ⟨g0_, 0, none⟩)), (1, .func (.func 60) #[] #[]), (2, .func (.func 61) #[] #[]), (11, .slice A8 a0.pending.length c9), (12, .int .i64 (a0.pending.length : Int)), (13, .int .i64 s.1)] a ∧ Hp w0 ps (own (kA 64) 83 A17 c18 s.2.1 :: own k_disk_write 85 A8 c9 a0.pending :: cel g0_ [.slice A17 s.2.1.length c18, .map (some g7), .slice A8 a0.pending.length c9, .int .i64 (max (IntKind.i64.wrap (a0.fuse - 1)) (-1))] 76 :: cel g1 [.pointer (some ⟨g0_, 0, none⟩)] 28 :: imap g7 s.2.2 :: fs) w) k_23 ⟨A5, c6, F.only [0, 1, 2, 11, 12, 13] rfl, H.f3.f4.f2.f4.f4⟩ ?_
            rintro ⟨x15, x16, x19⟩ a w q_23 j_23 u_23 ⟨A17, c18, F, H⟩
            unfold disk_Disk_Sync_b0 at j_23
            try dsimp only at j_23 F H
            refine rg ?_
            refine ls (qv F (r_lt (F.ev (x := .tmp 13) rfl) (F.ev (x := .tmp 12) rfl)) fun a F => ?_)
            refine rgend ?_
            refine wp_seq ?_
            by_cases c25 : x15 < (a0.pending.length : Int)
            · rw [if_pos c25] at j_23
              rw [decide_eq_true c25] at F
              refine wp_cond_true (F.ev rfl) ?_
              refine wp_skip ?_
              refine wp_seq ?_
              refine wp_block ?_
              refine rg ?_
              refine mv F rfl fun a F => ?_
              obtain ⟨c26, j_23⟩ := guardO j_23
              obtain ⟨g27, s28, hA, hq30, hl29, H⟩ := H.ixOwn2 (⟨0, (Arr.zero 64)⟩ : disk_write) 1 rfl (F.ev (x := .tmp 11) rfl) (F.ev (x := .tmp 13) rfl) Try.underlying74 sz85 (by decide) c26.1 c26.2
              have hA31 := hA
              obtain ⟨rfl, H⟩ := H.open_disk_write 0 rfl
              refine ls (qv F (hq30 _ _ _ _ _ _) fun a F => ?_)
              refine ls (qv F (r_ldA (F.ev (x := .tmp 16) rfl) hl29 agg85 (len_cons (arr_len ((a0.pending.getD (x15 : Int).toNat (⟨0, (Arr.zero 64)⟩ : disk_write)).b)))) fun a F => ?_)
              refine ls (lal F H ti85 (cs := (.int .i64 0 :: arrOf (Arr.zero 64).l)) rfl fun g32 w a H F => ?_)
              refine as_ F rfl fun a F => ?_
              obtain ⟨_, hr, H⟩ := Hp.store (t := 85) (o := 0) (n := 65) (vs := (.int .i64 ((a0.pending.getD (x15 : Int).toNat (⟨0, (Arr.zero 64)⟩ : disk_write)).at_) :: arrOf ((a0.pending.getD (x15 : Int).toNat (⟨0, (Arr.zero 64)⟩ : disk_write)).b).l)) (cs' := (.int .i64 ((a0.pending.getD (x15 : Int).toNat (⟨0, (Arr.zero 64)⟩ : disk_write)).at_) :: arrOf ((a0.pending.getD (x15 : Int).toNat (⟨0, (Arr.zero 64)⟩ : disk_write)).b).l)) (H) (F.ev (x := .tmp 7) rfl) (F.ev (x := .tmp 17) rfl) rfl sz85 (len_cons (arr_len ((a0.pending.getD (x15 : Int).toNat (⟨0, (Arr.zero 64)⟩ : disk_write)).b))) (Nat.le_of_eq ((Nat.zero_add _).trans (len_cons (arr_len (Arr.zero 64))).symm)) (all_cons rfl (arr_all _)) (putAt_all ((len_cons (arr_len ((a0.pending.getD (x15 : Int).toNat (⟨0, (Arr.zero 64)⟩ : disk_write)).b))).trans (len_cons (arr_len (Arr.zero 64))).symm))
              refine ls (qn F (.inl rfl) (hr _ _ _ _) fun a F => ?_)
              refine rgend ?_
              replace F := F.only [6, 7, 0, 1, 2, 11, 12, 13] (l' := [(6, .int .i64 x15), (7, .pointer (some ⟨g32, 0, none⟩)), (0, .pointer (some ⟨g0_, 0, none⟩)), (1, .func (.func 60) #[] #[]), (2, .func (.func 61) #[] #[]), (11, .slice A8 a0.pending.length c9), (12, .int .i64 (a0.pending.length : Int)), (13, .int .i64 x15)]) rfl
              refine wp_block ?_
              refine rg ?_
              refine mv F rfl fun a F => ?_
              refine mv F rfl fun a F => ?_
              obtain ⟨o_32, k_32, j_23⟩ := Option.bind_eq_some_iff.1 j_23
              refine ls (call F Try.func61 (R := fun v w => () = o_32 ∧ v = .bool false ∧ Hp w0 ps (own k_disk_write 85 A8 c9 a0.pending :: own (kA 64) 83 A17 c18 x16 :: cel g32 (.int .i64 ((a0.pending.getD (x15 : Int).toNat (⟨0, (Arr.zero 64)⟩ : disk_write)).at_) :: arrOf ((a0.pending.getD (x15 : Int).toNat (⟨0, (Arr.zero 64)⟩ : disk_write)).b).l) 85 :: cel g0_ [.slice A17 x16.length c18, .map (some g7), .slice A8 a0.pending.length c9, .int .i64 (max (IntKind.i64.wrap (a0.fuse - 1)) (-1))] 76 :: cel g1 [.pointer (some ⟨g0_, 0, none⟩)] 28 :: imap g7 x19 :: fs) w) (args := [.int .i64 x15]) (cap := []) ?_ rfl rfl ?_)
              · refine enter [.int .i64 x15] 3 Try.func61 fun Q a NP RET NRM F => ?_
                replace NP : ∀ c a w, ¬ Q (.panic c) a w := fun c a w h => by rcases NP c a w h with h | ⟨w, v, h, _⟩ <;> cases h
                refine rg ?_
                refine as_ F (v := .bool false) rfl fun a F => ?_
                refine rgend ?_
                refine rg ?_
                refine as_ F (v := .bool false) rfl fun a F => ?_
                refine rgend ?_
                refine wp_ret ?_
                try dsimp only at k_32
                obtain rfl := Option.some.inj k_32
                exact RET _ _ (ret1 F rfl rfl ⟨_, rfl, rfl, rfl, H.px0.f5.f5.f5.f3.f4.f5⟩)
              · rintro v w ⟨rfl, rfl, H⟩ a F
                try dsimp only at j_23 F H
                refine as_ F rfl fun a F => ?_
                refine rgend ?_
                refine wp_cond_false (F.ev rfl) ?_
                refine rg ?_
                refine mv F rfl fun a F => ?_
                refine mv F rfl fun a F => ?_
                obtain ⟨o_33, k_33, j_23⟩ := Option.bind_eq_some_iff.1 j_23
                refine ls (call F Try.func60 (R := fun v w => () = o_33 ∧ v = .bool true ∧ Hp w0 ps (own k_disk_write 85 A8 c9 a0.pending :: own (kA 64) 83 A17 c18 x16 :: cel g32 (.int .i64 ((a0.pending.getD (x15 : Int).toNat (⟨0, (Arr.zero 64)⟩ : disk_write)).at_) :: arrOf ((a0.pending.getD (x15 : Int).toNat (⟨0, (Arr.zero 64)⟩ : disk_write)).b).l) 85 :: cel g0_ [.slice A17 x16.length c18, .map (some g7), .slice A8 a0.pending.length c9, .int .i64 (max (IntKind.i64.wrap (a0.fuse - 1)) (-1))] 76 :: cel g1 [.pointer (some ⟨g0_, 0, none⟩)] 28 :: imap g7 x19 :: fs) w) (args := [.int .i64 x15]) (cap := []) ?_ rfl rfl ?_)
                · refine enter [.int .i64 x15] 3 Try.func60 fun Q a NP RET NRM F => ?_
                  replace NP : ∀ c a w, ¬ Q (.panic c) a w := fun c a w h => by rcases NP c a w h with h | ⟨w, v, h, _⟩ <;> cases h
                  refine rg ?_
                  refine as_ F (v := .bool false) rfl fun a F => ?_
                  refine rgend ?_
                  refine rg ?_
                  refine as_ F (v := .bool true) rfl fun a F => ?_
                  refine rgend ?_
                  refine wp_ret ?_
                  try dsimp only at k_33
                  obtain rfl := Option.some.inj k_33
                  exact RET _ _ (ret1 F rfl rfl ⟨_, rfl, rfl, rfl, H⟩)
                · rintro v w ⟨rfl, rfl, H⟩ a F
                  try dsimp only at j_23 F H
                  refine as_ F rfl fun a F => ?_
                  refine rgend ?_
                  replace F := F.only [29, 7, 0, 1, 2, 11, 12, 13] (l' := [(29, .bool true), (7, .pointer (some ⟨g32, 0, none⟩)), (0, .pointer (some ⟨g0_, 0, none⟩)), (1, .func (.func 60) #[] #[]), (2, .func (.func 61) #[] #[]), (11, .slice A8 a0.pending.length c9), (12, .int .i64 (a0.pending.length : Int)), (13, .int .i64 x15)]) rfl
                  refine wp_cond_true (F.ev rfl) ?_
                  refine wp_seq ?_
                  replace H := H.drew
                  have HS := H.fx1.fx0
                  refine dr (fun w => Hp w0 ps (cel g32 (.int .i64 ((a0.pending.getD (x15 : Int).toNat (⟨0, (Arr.zero 64)⟩ : disk_write)).at_) :: arrOf ((a0.pending.getD (x15 : Int).toNat (⟨0, (Arr.zero 64)⟩ : disk_write)).b).l) 85 :: cel g0_ [.slice A17 x16.length c18, .map (some g7), .slice A8 a0.pending.length c9, .int .i64 (max (IntKind.i64.wrap (a0.fuse - 1)) (-1))] 76 :: cel g1 [.pointer (some ⟨g0_, 0, none⟩)] 28 :: imap g7 x19 :: fs) w) _ (by kernel_rfl) ?_ (n := 10)
                  refine dq 0 F rfl (by kernel_rfl) NP HS (fun w S => (r_mv (F.ev (x := .tmp 0) rfl))) fun a F => ?_
                  refine dq 1 F rfl (by kernel_rfl) NP HS (fun w S => (r_nc (F.ev (x := .tmp 33) rfl))) fun a F => ?_
                  refine dq 2 F rfl (by kernel_rfl) NP HS (fun w S => (r_fa (off := 0) (F.ev (x := .tmp 34) rfl) fa76_0)) fun a F => ?_
                  refine dq 3 F rfl (by kernel_rfl) NP HS (fun w S => (r_ld (F.ev (x := .tmp 35) rfl) (cel_cell (o := 0) (S.cell 1 rfl) rfl) one72)) fun a F => ?_
                  refine dq 4 F rfl (by kernel_rfl) NP HS (fun w S => (r_fa (off := 0) (F.ev (x := .tmp 7) rfl) fa85_0)) fun a F => ?_
                  refine dq 5 F rfl (by kernel_rfl) NP HS (fun w S => (r_ld (F.ev (x := .tmp 37) rfl) (cel_cell (o := 0) (S.cell 0 rfl) rfl) one3)) fun a F => ?_
                  refine dq 6 F rfl (by kernel_rfl) NP HS (fun w S => (r_fa (off := 1) (F.ev (x := .tmp 7) rfl) fa85_1)) fun a F => ?_
                  refine dq 7 F rfl (by kernel_rfl) NP HS (fun w S => (r_ldA (F.ev (x := .tmp 39) rfl) (cel_range (o := 1) (n := 64) (vs := (arrOf ((a0.pending.getD (x15 : Int).toNat (⟨0, (Arr.zero 64)⟩ : disk_write)).b).l)) (S.cell 0 rfl) (arr_take ((a0.pending.getD (x15 : Int).toNat (⟨0, (Arr.zero 64)⟩ : disk_write)).b))) agg83 (arr_len ((a0.pending.getD (x15 : Int).toNat (⟨0, (Arr.zero 64)⟩ : disk_write)).b)))) fun a F => ?_
                  obtain ⟨c35, j_23⟩ := guardO j_23
                  obtain ⟨g36, s37, hA, hq39, hl38, H⟩ := H.ixOwn2 (Arr.zero 64) 1 rfl (F.ev (x := .tmp 36) rfl) (F.ev (x := .tmp 38) rfl) Try.underlying72 sz83 (by decide) c35.1 c35.2
                  cases hA
                  obtain rfl := H.says_arr 0 rfl
                  have HS := H.fx1.fx0
                  refine dmoreH HS (fun w S => S.px0) ?_
                  refine dq 8 F rfl (by kernel_rfl) NP HS (fun w S => (hq39 _ _ _ _ _ _)) fun a F => ?_
                  obtain ⟨_, hr, H⟩ := Hp.setOwn (kd := (kA 64)) (xs := x16) (j := ((a0.pending.getD (x15 : Int).toNat (⟨0, (Arr.zero 64)⟩ : disk_write)).at_ : Int).toNat) (x1 := (a0.pending.getD (x15 : Int).toNat (⟨0, (Arr.zero 64)⟩ : disk_write)).b) (H.f5.f5.f5.f5.f4.f5) (F.ev (x := .tmp 41) rfl) (F.ev (x := .tmp 40) rfl) rfl sz83 (by have := c35; omega) (fun Z hp => rfl)
                  refine d1 9 rfl (by kernel_rfl) (qn F (.inl rfl) (hr _ _ _ _) fun a F => ?_)
                  replace F := F.only [41, 40, 39, 38, 37, 36, 35, 34, 33, 29, 7, 0, 1, 2, 11, 12, 13] (l' := [(41, .pointer (some ⟨g36, ((a0.pending.getD (x15 : Int).toNat (⟨0, (Arr.zero 64)⟩ : disk_write)).at_ : Int).toNat * (kA 64).sz, none⟩)), (40, .agg (arrOf ((a0.pending.getD (x15 : Int).toNat (⟨0, (Arr.zero 64)⟩ : disk_write)).b).l).toArray), (39, .pointer (some ⟨g32, 1, none⟩)), (38, .int .i64 ((a0.pending.getD (x15 : Int).toNat (⟨0, (Arr.zero 64)⟩ : disk_write)).at_)), (37, .pointer (some ⟨g32, 0, none⟩)), (36, .slice (some ⟨g36, 0, none⟩) ((x16.set ((a0.pending.getD (x15 : Int).toNat (⟨0, (Arr.zero 64)⟩ : disk_write)).at_ : Int).toNat ((a0.pending.getD (x15 : Int).toNat (⟨0, (Arr.zero 64)⟩ : disk_write)).b))).length c18), (35, .pointer (some ⟨g0_, 0, none⟩)), (34, .pointer (some ⟨g0_, 0, none⟩)), (33, .pointer (some ⟨g0_, 0, none⟩)), (29, .bool true), (7, .pointer (some ⟨g32, 0, none⟩)), (0, .pointer (some ⟨g0_, 0, none⟩)), (1, .func (.func 60) #[] #[]), (2, .func (.func 61) #[] #[]), (11, .slice A8 a0.pending.length c9), (12, .int .i64 (a0.pending.length : Int)), (13, .int .i64 x15)]) (by (try simp only [List.length_set]); rfl)
                  replace H : Hp w0 (says (kA 64) (arrOf ((x16.getD ((a0.pending.getD (x15 : Int).toNat (⟨0, (Arr.zero 64)⟩ : disk_write)).at_ : Int).toNat (Arr.zero 64))).l) ((x16.getD ((a0.pending.getD (x15 : Int).toNat (⟨0, (Arr.zero 64)⟩ : disk_write)).at_ : Int).toNat (Arr.zero 64))) :: ps) (own (kA 64) 83 (some ⟨g36, 0, none⟩) c18 ((x16.set ((a0.pending.getD (x15 : Int).toNat (⟨0, (Arr.zero 64)⟩ : disk_write)).at_ : Int).toNat ((a0.pending.getD (x15 : Int).toNat (⟨0, (Arr.zero 64)⟩ : disk_write)).b))) :: own k_disk_write 85 A8 c9 a0.pending :: cel g32 (.int .i64 ((a0.pending.getD (x15 : Int).toNat (⟨0, (Arr.zero 64)⟩ : disk_write)).at_) :: arrOf ((a0.pending.getD (x15 : Int).toNat (⟨0, (Arr.zero 64)⟩ : disk_write)).b).l) 85 :: cel g0_ [.slice (some ⟨g36, 0, none⟩) ((x16.set ((a0.pending.getD (x15 : Int).toNat (⟨0, (Arr.zero 64)⟩ : disk_write)).at_ : Int).toNat ((a0.pending.getD (x15 : Int).toNat (⟨0, (Arr.zero 64)⟩ : disk_write)).b))).length c18, .map (some g7), .slice A8 a0.pending.length c9, .int .i64 (max (IntKind.i64.wrap (a0.fuse - 1)) (-1))] 76 :: cel g1 [.pointer (some ⟨g0_, 0, none⟩)] 28 :: imap g7 x19 :: fs) _ := (by (try simp only [List.length_set] at H); (try simp only [List.length_set]); exact H)
                  have HS := H.fx1.fx0
                  refine kga (by kernel_rfl) HS ?_
                  refine ddone (by kernel_rfl) ?_
                  replace F := F.only [7, 0, 1, 2, 11, 12, 13] (l' := [(7, .pointer (some ⟨g32, 0, none⟩)), (0, .pointer (some ⟨g0_, 0, none⟩)), (1, .func (.func 60) #[] #[]), (2, .func (.func 61) #[] #[]), (11, .slice A8 a0.pending.length c9), (12, .int .i64 (a0.pending.length : Int)), (13, .int .i64 x15)]) rfl
                  replace H := H.drew
                  have HS := H.fx5.fx1.fx0
                  refine dr (fun w => Hp w0 (says (kA 64) (arrOf ((x16.getD ((a0.pending.getD (x15 : Int).toNat (⟨0, (Arr.zero 64)⟩ : disk_write)).at_ : Int).toNat (Arr.zero 64))).l) ((x16.getD ((a0.pending.getD (x15 : Int).toNat (⟨0, (Arr.zero 64)⟩ : disk_write)).at_ : Int).toNat (Arr.zero 64))) :: ps) (cel g32 (.int .i64 ((a0.pending.getD (x15 : Int).toNat (⟨0, (Arr.zero 64)⟩ : disk_write)).at_) :: arrOf ((a0.pending.getD (x15 : Int).toNat (⟨0, (Arr.zero 64)⟩ : disk_write)).b).l) 85 :: cel g0_ [.slice (some ⟨g36, 0, none⟩) ((x16.set ((a0.pending.getD (x15 : Int).toNat (⟨0, (Arr.zero 64)⟩ : disk_write)).at_ : Int).toNat ((a0.pending.getD (x15 : Int).toNat (⟨0, (Arr.zero 64)⟩ : disk_write)).b))).length c18, .map (some g7), .slice A8 a0.pending.length c9, .int .i64 (max (IntKind.i64.wrap (a0.fuse - 1)) (-1))] 76 :: cel g1 [.pointer (some ⟨g0_, 0, none⟩)] 28 :: fs) w) _ (by kernel_rfl) ?_ (n := 7)
                  refine dq 0 F rfl (by kernel_rfl) NP HS (fun w S => (r_mv (F.ev (x := .tmp 0) rfl))) fun a F => ?_
                  refine dq 1 F rfl (by kernel_rfl) NP HS (fun w S => (r_nc (F.ev (x := .tmp 42) rfl))) fun a F => ?_
                  refine dq 2 F rfl (by kernel_rfl) NP HS (fun w S => (r_fa (off := 1) (F.ev (x := .tmp 43) rfl) fa76_1)) fun a F => ?_
                  refine dq 3 F rfl (by kernel_rfl) NP HS (fun w S => (r_ld (F.ev (x := .tmp 44) rfl) (cel_cell (o := 1) (S.cell 1 rfl) rfl) one73)) fun a F => ?_
                  refine dq 4 F rfl (by kernel_rfl) NP HS (fun w S => (r_fa (off := 0) (F.ev (x := .tmp 7) rfl) fa85_0)) fun a F => ?_
                  refine dq 5 F rfl (by kernel_rfl) NP HS (fun w S => (r_ld (F.ev (x := .tmp 46) rfl) (cel_cell (o := 0) (S.cell 0 rfl) rfl) one3)) fun a F => ?_
                  obtain ⟨_, hr, H⟩ := Hp.mrem (H.f4.f4.f4.f4.f4.f5) (F.ev (x := .tmp 45) rfl) (F.ev (x := .tmp 47) rfl) Try.underlying73 Try.underlying3
                  refine d1 6 rfl (by kernel_rfl) (qn F (.inr ⟨_, rfl⟩) (hr _ _ _ _ _) fun a F => ?_)
                  have HS := H.fx2.fx1.fx0
                  refine kg _ HS (fun w S => S) ?_
                  refine ddone (by kernel_rfl) ?_
                  replace F := F.only [0, 1, 2, 11, 12, 13] (l' := [(0, .pointer (some ⟨g0_, 0, none⟩)), (1, .func (.func 60) #[] #[]), (2, .func (.func 61) #[] #[]), (11, .slice A8 a0.pending.length c9), (12, .int .i64 (a0.pending.length : Int)), (13, .int .i64 x15)]) rfl
                  refine wp_region_lit ?_
                  refine ls (qv F (r_add (F.ev (x := .tmp 13) rfl) (F.ev (x := .const (.int .i64 1)) rfl)) fun a F => ?_)
                  refine mv F rfl fun a F => ?_
                  refine wpList_nil ?_
                  try dsimp only at j_23
                  obtain rfl := Option.some.inj j_23
                  exact ⟨_, rfl, (some ⟨g36, 0, none⟩), c18, F.only [0, 1, 2, 11, 12, 13] rfl, H.px0.f5.f5.f4.f4.fx5⟩
            · rw [if_neg c25] at j_23
              rw [decide_eq_false c25] at F
              refine wp_cond_false (F.ev rfl) ?_
              refine wp_exit ?_
              try dsimp only at j_23
              obtain rfl := Option.some.inj j_23
              obtain rfl := u_23 _ rfl
              repeat (with_reducible refine exT ?_)
              with_reducible refine exB ?_
              exact ⟨_, _, rfl, A17, c18, F.only [0] rfl, H⟩
          · rintro a w ⟨x20, x23, rfl, A21, c22, F, H⟩
            try dsimp only at k_13 F H
            refine wp_region_lit ?_
            refine mv F rfl fun a F => ?_
            refine ls (qv F (r_nc (F.ev (x := .tmp 49) rfl)) fun a F => ?_)
            refine ls (qv F (r_fa (off := 2) (F.ev (x := .tmp 50) rfl) fa76_2) fun a F => ?_)
            obtain ⟨_, hr, H⟩ := Hp.store (t := 74) (o := 2) (n := 1) (vs := [.slice none 0 0]) (cs' := [.slice A21 x20.length c22, .map (some g7), .slice none 0 0, .int .i64 (max (IntKind.i64.wrap (a0.fuse - 1)) (-1))]) (H.f4.f4.f3.f3.f4) (F.ev (x := .tmp 51) rfl) (F.ev (x := .const (.slice none 0 0)) rfl) rfl sz74 rfl (Nat.le_of_ble_eq_true rfl) rfl rfl
            refine ls (qn F (.inl rfl) (hr _ _ _ _) fun a F => ?_)
            refine wpList_nil ?_
            replace F := F.only [] (l' := []) rfl
            replace H := H.nilOwn k_disk_write 85
            replace H := Hp.closeO_disk_Disk (x := (⟨x20, x23, [], max (IntKind.i64.wrap (a0.fuse - 1)) (-1)⟩ : disk_Disk)) (H.f4.f4.f5.f3.f5.f5)
            try dsimp only at k_13
            obtain rfl := Option.some.inj k_13
            exact NRM _ _ (ret0 F rfl ⟨_, rfl, _, rfl, rfl, H.fx1⟩)
        · rintro v w ⟨x13, rfl, rfl, H⟩ a F
          try dsimp only at k_11 F H
          refine rgend ?_
          replace F := F.only [] (l' := []) rfl
          refine rg ?_
          refine as_ F (v := .int .i64 0) rfl fun a F => ?_
          refine rgend ?_
          refine wp_ret ?_
          try dsimp only at k_11
          obtain rfl := Option.some.inj k_11
          exact RET _ _ (ret1 F rfl rfl ⟨_, rfl, _, rfl, rfl, H⟩)
      · rintro v w ⟨x11, rfl, rfl, H⟩ a F
        try dsimp only at k_3 F H
        refine as_ F rfl fun a F => ?_
        refine rgend ?_
        refine wp_ret ?_
        try dsimp only at k_3
        obtain rfl := Option.some.inj k_3
        exact RET _ _ (ret1 F rfl rfl ⟨_, rfl, _, _, rfl, rfl, H⟩)
  · rintro v w ⟨x2, x3, rfl, rfl, H⟩ a F
    try dsimp only at h F H
    refine as_ F rfl fun a F => ?_
    refine rgend ?_
    replace F := F.only [2] (l' := [(2, .int .i64 x2)]) rfl
    refine wp_ret ?_
    try dsimp only at h
    obtain ⟨rfl, rfl⟩ := Prod.mk.inj (Option.some.inj h)
    exact RET _ _ (ret1 F rfl rfl ⟨_, rfl, rfl, H.fx1⟩)
def disk_Disk_Crash_b0 (a0 : disk_Disk) (a1 : List Bool) (a2 : Int) : (Int × (List (Arr 64)) × (List (Int × Int))) → Option (Int × (List (Arr 64)) × (List (Int × Int)) ⊕ (List (Arr 64)) × (List (Int × Int)))
  | (x10, x11, x14) => (if x10 < (a0.pending.length : Int) then (if 0 ≤ x10 ∧ x10 < (a0.pending.length : Int) then ((some () : Option (Unit)).bind fun _ => (((if x10 = a2 then some (x11, (mset x14 ((a0.pending.getD (x10 : Int).toNat (⟨0, (Arr.zero 64)⟩ : disk_write)).at_) x10)) else (((((if x10 < (a1.length : Int) then (if 0 ≤ x10 ∧ x10 < (a1.length : Int) then some (((a1.getD (x10 : Int).toNat false))) else none) else some false) : Option (Bool)).bind fun x37 => some x37) : Option (Bool)).bind fun x35 => (((if x35 = true then (if 0 ≤ (a0.pending.getD (x10 : Int).toNat (⟨0, (Arr.zero 64)⟩ : disk_write)).at_ ∧ (a0.pending.getD (x10 : Int).toNat (⟨0, (Arr.zero 64)⟩ : disk_write)).at_ < (x11.length : Int) then some ((x11.set ((a0.pending.getD (x10 : Int).toNat (⟨0, (Arr.zero 64)⟩ : disk_write)).at_ : Int).toNat ((a0.pending.getD (x10 : Int).toNat (⟨0, (Arr.zero 64)⟩ : disk_write)).b)), (mdel x14 ((a0.pending.getD (x10 : Int).toNat (⟨0, (Arr.zero 64)⟩ : disk_write)).at_))) else none) else some (x11, x14)) : Option ((List (Arr 64)) × (List (Int × Int)))).bind fun (x44, x47) => some (x44, x47)))) : Option ((List (Arr 64)) × (List (Int × Int)))).bind fun (x29, x32) => some (.inl (IntKind.i64.wrap (x10 + 1), x29, x32)))) else none) else some (.inr (x11, x14)))
def disk_Disk_Crash_f (a0 : disk_Disk) (a1 : List Bool) (a2 : Int) : Option (disk_Disk) :=
  ((((lp (disk_Disk_Crash_b0 a0 a1 a2) (0, a0.sectors, a0.torn)).bind fun (x15, x18) => some (⟨x15, x18, [], a0.fuse⟩ : disk_Disk)) : Option (disk_Disk)).bind fun x3 => some (((⟨x3.sectors, x3.torn, x3.pending, (-1)⟩ : disk_Disk))))
set_option maxHeartbeats 4000000 in
set_option maxRecDepth 20000 in
theorem disk_Disk_Crash_ok {w0 w : World} {ps : List PF} {fs : List SF} {a0 : disk_Disk} {g0_ : Nat} {a1 : List Bool} {A1_ : Option Addr} {c1_ : Nat} {a2 : Int} {s0 : disk_Disk} (H : Hp w0 (rd kBool A1_ c1_ a1 :: ps) (obj_disk_Disk g0_ a0 :: fs) w) (h : disk_Disk_Crash_f a0 a1 a2 = some s0) :
    Calls Try.prog 25 [.pointer (some ⟨g0_, 0, none⟩), .slice A1_ a1.length c1_, .int .i64 a2].toArray w fun e w' => ∃ v, e = .returned v ∧ v = .tuple #[] ∧ Hp w0 ps (obj_disk_Disk g0_ s0 :: fs) w' := by
  refine enter [.pointer (some ⟨g0_, 0, none⟩), .slice A1_ a1.length c1_, .int .i64 a2] 13 Try.func25 fun Q a NP RET NRM F => ?_
  replace NP : ∀ c a w, ¬ Q (.panic c) a w := fun c a w h => by rcases NP c a w h with h | ⟨w, v, h, _⟩ <;> cases h
  unfold disk_Disk_Crash_f at h
  refine rg ?_
  refine ls (lbox F H rfl (cs := [.slice A1_ a1.length c1_]) rfl fun g1 w a H F => ?_)
  refine ls (lbox F H rfl (cs := [.int .i64 a2]) rfl fun g2 w a H F => ?_)
  refine rgend ?_
  refine rg ?_
  refine mv F rfl fun a F => ?_
  refine ls (qv F (r_mf (f' := #[]) (c' := #[.pointer (some ⟨g1, 0, none⟩)]) (by simp) (by rw [List.map_toArray]; exact congrArg _ (F.evs rfl))) fun a F => ?_)
  refine ls (qv F (r_mf (f' := #[]) (c' := #[.pointer (some ⟨g2, 0, none⟩)]) (by simp) (by rw [List.map_toArray]; exact congrArg _ (F.evs rfl))) fun a F => ?_)
  obtain ⟨o_3, k_3, h⟩ := Option.bind_eq_some_iff.1 h
  refine ls (call F Try.func50 (R := fun v w => ∃ (x3 : disk_Disk), x3 = o_3 ∧ v = .tuple #[] ∧ Hp w0 (rd kBool A1_ c1_ a1 :: ps) (cel g2 [.int .i64 a2] 3 :: obj_disk_Disk g0_ x3 :: cel g1 [.slice A1_ a1.length c1_] 54 :: fs) w) (args := [.pointer (some ⟨g0_, 0, none⟩), .func (.func 51) #[] #[.pointer (some ⟨g1, 0, none⟩)], .func (.func 52) #[] #[.pointer (some ⟨g2, 0, none⟩)]]) (cap := []) ?_ rfl rfl ?_)
  · refine enter [.pointer (some ⟨g0_, 0, none⟩), .func (.func 51) #[] #[.pointer (some ⟨g1, 0, none⟩)], .func (.func 52) #[] #[.pointer (some ⟨g2, 0, none⟩)]] 52 Try.func50 fun Q a NP RET NRM F => ?_
    replace NP : ∀ c a w, ¬ Q (.panic c) a w := fun c a w h => by rcases NP c a w h with h | ⟨w, v, h, _⟩ <;> cases h
    refine wp_seq ?_
    refine rg ?_
    refine mv F rfl fun a F => ?_
    refine ls (qv F (r_nc (F.ev (x := .tmp 8) rfl)) fun a F => ?_)
    refine ls (qv F (r_fa (off := 2) (F.ev (x := .tmp 9) rfl) fa76_2) fun a F => ?_)
    obtain ⟨A5, c6, A8, c9, g7, H⟩ := Hp.openO_disk_Disk (H.f1.f1.f2)
    refine ls (qv F (r_ld (F.ev (x := .tmp 10) rfl) (cel_cell (o := 2) (H.cell 0 rfl) rfl) one74) fun a F => ?_)
    refine ls (qv F (r_len (F.ev (x := .tmp 11) rfl) Try.underlying74) fun a F => ?_)
    refine mv F (v := .int .i64 0) rfl fun a F => ?_
    refine rgend ?_
    obtain ⟨o_18, k_18, k_3⟩ := Option.bind_eq_some_iff.1 k_3
    refine cut (fun a w => ∃ (x15 : List (Arr 64)) (x18 : List (Int × Int)), (x15, x18) = o_18 ∧ ∃ (A16 : Option Addr) (c17 : Nat), Fr 52 [] [(0, .pointer (some ⟨g0_, 0, none⟩))] a ∧ Hp w0 (rd kBool A1_ c1_ a1 :: ps) (own (kA 64) 83 A16 c17 x15 :: own k_disk_write 85 A8 c9 a0.pending :: cel g2 [.int .i64 a2] 3 :: cel g0_ [.slice A16 x15.length c17, .map (some g7), .slice A8 a0.pending.length c9, .int .i64 a0.fuse] 76 :: cel g1 [.slice A1_ a1.length c1_] 54 :: imap g7 x18 :: fs) w) (wp_block ?_) ?_
    · refine wloop (disk_Disk_Crash_b0 a0 a1 a2) (fun (s : Int × (List (Arr 64)) × (List (Int × Int))) a w => ∃ (A12 : Option Addr) (c13 : Nat), Fr 52 [] [(0, .pointer (some ⟨g0_, 0, none⟩)), (1, .func (.func 51) #[] #[.pointer (some ⟨g1, 0, none⟩)]), (2, .func (.func 52) #[] #[.pointer (some ⟨g2, 0, none⟩)]), (11, .slice A8 a0.pending.length c9), (12, .int .i64 (a0.pending.length : Int)), (13, .int .i64 s.1)] a ∧ Hp w0 (rd kBool A1_ c1_ a1 :: ps) (own (kA 64) 83 A12 c13 s.2.1 :: own k_disk_write 85 A8 c9 a0.pending :: cel g2 [.int .i64 a2] 3 :: cel g0_ [.slice A12 s.2.1.length c13, .map (some g7), .slice A8 a0.pending.length c9, .int .i64 a0.fuse] 76 :: cel g1 [.slice A1_ a1.length c1_] 54 :: imap g7 s.2.2 :: fs) w) k_18 ⟨A5, c6, F.only [0, 1, 2, 11, 12, 13] rfl, H.f3.f5.f2.f5.f5.f5⟩ ?_
      rintro ⟨x10, x11, x14⟩ a w q_18 j_18 u_18 ⟨A12, c13, F, H⟩
      unfold disk_Disk_Crash_b0 at j_18
      try dsimp only at j_18 F H
      refine rg ?_
      refine ls (qv F (r_lt (F.ev (x := .tmp 13) rfl) (F.ev (x := .tmp 12) rfl)) fun a F => ?_)
      refine rgend ?_
      refine wp_seq ?_
      by_cases c20 : x10 < (a0.pending.length : Int)
      · rw [if_pos c20] at j_18
        rw [decide_eq_true c20] at F
        refine wp_cond_true (F.ev rfl) ?_
        refine wp_skip ?_
        refine wp_seq ?_
        refine wp_block ?_
        refine rg ?_
        refine mv F rfl fun a F => ?_
        obtain ⟨c21, j_18⟩ := guardO j_18
        obtain ⟨g22, s23, hA, hq25, hl24, H⟩ := H.ixOwn2 (⟨0, (Arr.zero 64)⟩ : disk_write) 1 rfl (F.ev (x := .tmp 11) rfl) (F.ev (x := .tmp 13) rfl) Try.underlying74 sz85 (by decide) c21.1 c21.2
        have hA26 := hA
        obtain ⟨rfl, H⟩ := H.open_disk_write 0 rfl
        refine ls (qv F (hq25 _ _ _ _ _ _) fun a F => ?_)
        refine ls (qv F (r_ldA (F.ev (x := .tmp 16) rfl) hl24 agg85 (len_cons (arr_len ((a0.pending.getD (x10 : Int).toNat (⟨0, (Arr.zero 64)⟩ : disk_write)).b)))) fun a F => ?_)
        refine ls (lal F H ti85 (cs := (.int .i64 0 :: arrOf (Arr.zero 64).l)) rfl fun g27 w a H F => ?_)
        refine as_ F rfl fun a F => ?_
        obtain ⟨_, hr, H⟩ := Hp.store (t := 85) (o := 0) (n := 65) (vs := (.int .i64 ((a0.pending.getD (x10 : Int).toNat (⟨0, (Arr.zero 64)⟩ : disk_write)).at_) :: arrOf ((a0.pending.getD (x10 : Int).toNat (⟨0, (Arr.zero 64)⟩ : disk_write)).b).l)) (cs' := (.int .i64 ((a0.pending.getD (x10 : Int).toNat (⟨0, (Arr.zero 64)⟩ : disk_write)).at_) :: arrOf ((a0.pending.getD (x10 : Int).toNat (⟨0, (Arr.zero 64)⟩ : disk_write)).b).l)) (H) (F.ev (x := .tmp 7) rfl) (F.ev (x := .tmp 17) rfl) rfl sz85 (len_cons (arr_len ((a0.pending.getD (x10 : Int).toNat (⟨0, (Arr.zero 64)⟩ : disk_write)).b))) (Nat.le_of_eq ((Nat.zero_add _).trans (len_cons (arr_len (Arr.zero 64))).symm)) (all_cons rfl (arr_all _)) (putAt_all ((len_cons (arr_len ((a0.pending.getD (x10 : Int).toNat (⟨0, (Arr.zero 64)⟩ : disk_write)).b))).trans (len_cons (arr_len (Arr.zero 64))).symm))
        refine ls (qn F (.inl rfl) (hr _ _ _ _) fun a F => ?_)
        refine rgend ?_
        replace F := F.only [6, 7, 0, 1, 2, 11, 12, 13] (l' := [(6, .int .i64 x10), (7, .pointer (some ⟨g27, 0, none⟩)), (0, .pointer (some ⟨g0_, 0, none⟩)), (1, .func (.func 51) #[] #[.pointer (some ⟨g1, 0, none⟩)]), (2, .func (.func 52) #[] #[.pointer (some ⟨g2, 0, none⟩)]), (11, .slice A8 a0.pending.length c9), (12, .int .i64 (a0.pending.length : Int)), (13, .int .i64 x10)]) rfl
        refine wp_block ?_
        refine rg ?_
        refine mv F rfl fun a F => ?_
        refine mv F rfl fun a F => ?_
        obtain ⟨o_27, k_27, j_18⟩ := Option.bind_eq_some_iff.1 j_18
        refine ls (call F Try.func52 (R := fun v w => () = o_27 ∧ v = .bool (decide (x10 = a2)) ∧ Hp w0 (rd kBool A1_ c1_ a1 :: ps) (own k_disk_write 85 A8 c9 a0.pending :: own (kA 64) 83 A12 c13 x11 :: cel g27 (.int .i64 ((a0.pending.getD (x10 : Int).toNat (⟨0, (Arr.zero 64)⟩ : disk_write)).at_) :: arrOf ((a0.pending.getD (x10 : Int).toNat (⟨0, (Arr.zero 64)⟩ : disk_write)).b).l) 85 :: cel g2 [.int .i64 a2] 3 :: cel g0_ [.slice A12 x11.length c13, .map (some g7), .slice A8 a0.pending.length c9, .int .i64 a0.fuse] 76 :: cel g1 [.slice A1_ a1.length c1_] 54 :: imap g7 x14 :: fs) w) (args := [.int .i64 x10, .pointer (some ⟨g2, 0, none⟩)]) (cap := [.pointer (some ⟨g2, 0, none⟩)]) ?_ rfl rfl ?_)
        · refine enter [.int .i64 x10, .pointer (some ⟨g2, 0, none⟩)] 7 Try.func52 fun Q a NP RET NRM F => ?_
          replace NP : ∀ c a w, ¬ Q (.panic c) a w := fun c a w h => by rcases NP c a w h with h | ⟨w, v, h, _⟩ <;> cases h
          refine rg ?_
          refine as_ F (v := .bool false) rfl fun a F => ?_
          refine rgend ?_
          refine rg ?_
          refine mv F rfl fun a F => ?_
          refine ls (qv F (r_ld (F.ev (x := .tmp 1) rfl) (cel_cell (o := 0) (H.cell 3 rfl) rfl) one3) fun a F => ?_)
          refine ls (qv F (r_eq (F.ev (x := .tmp 4) rfl) (F.ev (x := .tmp 5) rfl)) fun a F => ?_)
          refine as_ F rfl fun a F => ?_
          refine rgend ?_
          replace F := F.only [3] (l' := [(3, .bool (decide (x10 = a2)))]) rfl
          refine wp_ret ?_
          try dsimp only at k_27
          obtain rfl := Option.some.inj k_27
          exact RET _ _ (ret1 F rfl rfl ⟨_, rfl, rfl, rfl, H.px0.f6.f6.f6.f6.f4.f5.f6⟩)
        · rintro v w ⟨rfl, rfl, H⟩ a F
          try dsimp only at j_18 F H
          refine as_ F rfl fun a F => ?_
          refine rgend ?_
          obtain ⟨o_32, k_32, j_18⟩ := Option.bind_eq_some_iff.1 j_18
          refine cut (fun a w => ∃ (x29 : List (Arr 64)) (x32 : List (Int × Int)), (x29, x32) = o_32 ∧ ∃ (A30 : Option Addr) (c31 : Nat), Fr 52 [] [(0, .pointer (some ⟨g0_, 0, none⟩)), (1, .func (.func 51) #[] #[.pointer (some ⟨g1, 0, none⟩)]), (2, .func (.func 52) #[] #[.pointer (some ⟨g2, 0, none⟩)]), (11, .slice A8 a0.pending.length c9), (12, .int .i64 (a0.pending.length : Int)), (13, .int .i64 x10)] a ∧ Hp w0 (rd kBool A1_ c1_ a1 :: ps) (own (kA 64) 83 A30 c31 x29 :: own k_disk_write 85 A8 c9 a0.pending :: cel g2 [.int .i64 a2] 3 :: cel g0_ [.slice A30 x29.length c31, .map (some g7), .slice A8 a0.pending.length c9, .int .i64 a0.fuse] 76 :: cel g1 [.slice A1_ a1.length c1_] 54 :: imap g7 x32 :: fs) w) ?_ ?_
          · skip
            by_cases c34 : x10 = a2
            · rw [if_pos c34] at k_32
              rw [decide_eq_true c34] at F
              refine wp_cond_true (F.ev rfl) ?_
              replace H := H.drew
              have HS := H.fx1.fx0
              refine dr (fun w => Hp w0 (rd kBool A1_ c1_ a1 :: ps) (cel g27 (.int .i64 ((a0.pending.getD (x10 : Int).toNat (⟨0, (Arr.zero 64)⟩ : disk_write)).at_) :: arrOf ((a0.pending.getD (x10 : Int).toNat (⟨0, (Arr.zero 64)⟩ : disk_write)).b).l) 85 :: cel g2 [.int .i64 a2] 3 :: cel g0_ [.slice A12 x11.length c13, .map (some g7), .slice A8 a0.pending.length c9, .int .i64 a0.fuse] 76 :: cel g1 [.slice A1_ a1.length c1_] 54 :: imap g7 x14 :: fs) w) _ (by kernel_rfl) ?_ (n := 8)
              refine dq 0 F rfl (by kernel_rfl) NP HS (fun w S => (r_mv (F.ev (x := .tmp 0) rfl))) fun a F => ?_
              refine dq 1 F rfl (by kernel_rfl) NP HS (fun w S => (r_nc (F.ev (x := .tmp 22) rfl))) fun a F => ?_
              refine dq 2 F rfl (by kernel_rfl) NP HS (fun w S => (r_fa (off := 1) (F.ev (x := .tmp 23) rfl) fa76_1)) fun a F => ?_
              refine dq 3 F rfl (by kernel_rfl) NP HS (fun w S => (r_ld (F.ev (x := .tmp 24) rfl) (cel_cell (o := 1) (S.cell 2 rfl) rfl) one73)) fun a F => ?_
              refine dq 4 F rfl (by kernel_rfl) NP HS (fun w S => (r_fa (off := 0) (F.ev (x := .tmp 7) rfl) fa85_0)) fun a F => ?_
              refine dq 5 F rfl (by kernel_rfl) NP HS (fun w S => (r_ld (F.ev (x := .tmp 26) rfl) (cel_cell (o := 0) (S.cell 0 rfl) rfl) one3)) fun a F => ?_
              refine dq 6 F rfl (by kernel_rfl) NP HS (fun w S => (r_mv (F.ev (x := .tmp 6) rfl))) fun a F => ?_
              obtain ⟨_, hr, H⟩ := Hp.mput (H.f5.f5.f5.f5.f5.f5.f6) (F.ev (x := .tmp 25) rfl) (F.ev (x := .tmp 27) rfl) (F.ev (x := .tmp 28) rfl) Try.underlying73 Try.underlying3
              refine d1 7 rfl (by kernel_rfl) (qn F (.inl rfl) (hr _ _ _ _) fun a F => ?_)
              have HS := H.fx2.fx1
              refine kga (by kernel_rfl) HS ?_
              refine ddone (by kernel_rfl) ?_
              replace F := F.only [0, 1, 2, 11, 12, 13] (l' := [(0, .pointer (some ⟨g0_, 0, none⟩)), (1, .func (.func 51) #[] #[.pointer (some ⟨g1, 0, none⟩)]), (2, .func (.func 52) #[] #[.pointer (some ⟨g2, 0, none⟩)]), (11, .slice A8 a0.pending.length c9), (12, .int .i64 (a0.pending.length : Int)), (13, .int .i64 x10)]) rfl
              try dsimp only at k_32
              obtain rfl := Option.some.inj k_32
              exact ⟨_, _, rfl, A12, c13, F.only [0, 1, 2, 11, 12, 13] rfl, H.f6.f6.f6.f4.f5.fx6⟩
            · rw [if_neg c34] at k_32
              rw [decide_eq_false c34] at F
              refine wp_cond_false (F.ev rfl) ?_
              refine rg ?_
              refine mv F rfl fun a F => ?_
              refine mv F rfl fun a F => ?_
              obtain ⟨o_35, k_35, k_32⟩ := Option.bind_eq_some_iff.1 k_32
              refine ls (call F Try.func51 (R := fun v w => ∃ (x35 : Bool), x35 = o_35 ∧ v = .bool x35 ∧ Hp w0 (rd kBool A1_ c1_ a1 :: ps) (own k_disk_write 85 A8 c9 a0.pending :: own (kA 64) 83 A12 c13 x11 :: cel g27 (.int .i64 ((a0.pending.getD (x10 : Int).toNat (⟨0, (Arr.zero 64)⟩ : disk_write)).at_) :: arrOf ((a0.pending.getD (x10 : Int).toNat (⟨0, (Arr.zero 64)⟩ : disk_write)).b).l) 85 :: cel g2 [.int .i64 a2] 3 :: cel g0_ [.slice A12 x11.length c13, .map (some g7), .slice A8 a0.pending.length c9, .int .i64 a0.fuse] 76 :: cel g1 [.slice A1_ a1.length c1_] 54 :: imap g7 x14 :: fs) w) (args := [.int .i64 x10, .pointer (some ⟨g1, 0, none⟩)]) (cap := [.pointer (some ⟨g1, 0, none⟩)]) ?_ rfl rfl ?_)
              · refine enter [.int .i64 x10, .pointer (some ⟨g1, 0, none⟩)] 14 Try.func51 fun Q a NP RET NRM F => ?_
                replace NP : ∀ c a w, ¬ Q (.panic c) a w := fun c a w h => by rcases NP c a w h with h | ⟨w, v, h, _⟩ <;> cases h
                refine rg ?_
                refine as_ F (v := .bool false) rfl fun a F => ?_
                refine rgend ?_
                refine wp_seq ?_
                obtain ⟨o_37, k_37, k_35⟩ := Option.bind_eq_some_iff.1 k_35
                refine cut (fun a w => ∃ (x37 : Bool), x37 = o_37 ∧ Fr 14 [] [(3, .bool x37)] a ∧ Hp w0 (rd kBool A1_ c1_ a1 :: ps) (own k_disk_write 85 A8 c9 a0.pending :: own (kA 64) 83 A12 c13 x11 :: cel g27 (.int .i64 ((a0.pending.getD (x10 : Int).toNat (⟨0, (Arr.zero 64)⟩ : disk_write)).at_) :: arrOf ((a0.pending.getD (x10 : Int).toNat (⟨0, (Arr.zero 64)⟩ : disk_write)).b).l) 85 :: cel g2 [.int .i64 a2] 3 :: cel g0_ [.slice A12 x11.length c13, .map (some g7), .slice A8 a0.pending.length c9, .int .i64 a0.fuse] 76 :: cel g1 [.slice A1_ a1.length c1_] 54 :: imap g7 x14 :: fs) w) ?_ ?_
                · skip
                  refine wp_region_lit ?_
                  refine mv F rfl fun a F => ?_
                  refine ls (qv F (r_ld (F.ev (x := .tmp 1) rfl) (cel_cell (o := 0) (H.cell 5 rfl) rfl) one54) fun a F => ?_)
                  refine ls (qv F (r_len (F.ev (x := .tmp 5) rfl) Try.underlying54) fun a F => ?_)
                  refine ls (qv F (r_lt (F.ev (x := .tmp 4) rfl) (F.ev (x := .tmp 6) rfl)) fun a F => ?_)
                  refine mv F rfl fun a F => ?_
                  by_cases c39 : x10 < (a1.length : Int)
                  · rw [if_pos c39] at k_37
                    rw [decide_eq_true c39] at F
                    refine ls (qv F (r_ld (F.ev (x := .tmp 1) rfl) (cel_cell (o := 0) (H.cell 5 rfl) rfl) one54) fun a F => ?_)
                    refine mv F rfl fun a F => ?_
                    obtain ⟨c40, k_37⟩ := guardO k_37
                    obtain ⟨g41, o42, s43, hr, H⟩ := H.ix false 0 rfl (F.ev (x := .tmp 9) rfl) (F.ev (x := .tmp 10) rfl) Try.underlying54 sz4 (by decide) c40.1 c40.2
                    obtain rfl := H.says_bool 1 rfl
                    refine ls (qv F (hr _ _ _ _ _ _) fun a F => ?_)
                    refine ls (qv F (r_ld (F.ev (x := .tmp 11) rfl) (range_cell (j := 0) (H.range 0 rfl) rfl) one4) fun a F => ?_)
                    refine ls (qv F (r_pickT (F.ev (x := .tmp 8) rfl) (F.ev (x := .tmp 12) rfl)) fun a F => ?_)
                    refine as_ F rfl fun a F => ?_
                    refine wpList_nil ?_
                    replace F := F.only [3] (l' := [(3, .bool ((a1.getD (x10 : Int).toNat false)))]) rfl
                    try dsimp only at k_37
                    obtain rfl := Option.some.inj k_37
                    exact ⟨_, rfl, F.only [3] rfl, H.px1.px0⟩
                  · rw [if_neg c39] at k_37
                    rw [decide_eq_false c39] at F
                    refine ls (off F fun a F => ?_)
                    refine ls (off F fun a F => ?_)
                    refine ls (off F fun a F => ?_)
                    refine ls (off F fun a F => ?_)
                    refine ls (qv F (r_pickF (F.ev (x := .tmp 8) rfl) (F.ev (x := .const (.bool false)) rfl)) fun a F => ?_)
                    refine as_ F rfl fun a F => ?_
                    refine wpList_nil ?_
                    replace F := F.only [3] (l' := [(3, .bool false)]) rfl
                    try dsimp only at k_37
                    obtain rfl := Option.some.inj k_37
                    exact ⟨_, rfl, F.only [3] rfl, H⟩
                · rintro a w ⟨x37, rfl, F, H⟩
                  try dsimp only at k_35 F H
                  refine wp_ret ?_
                  try dsimp only at k_35
                  obtain rfl := Option.some.inj k_35
                  exact RET _ _ (ret1 F rfl rfl ⟨_, rfl, _, rfl, rfl, H⟩)
              · rintro v w ⟨x35, rfl, rfl, H⟩ a F
                try dsimp only at k_32 F H
                refine as_ F rfl fun a F => ?_
                refine rgend ?_
                replace F := F.only [29, 7, 0, 1, 2, 11, 12, 13] (l' := [(29, .bool x35), (7, .pointer (some ⟨g27, 0, none⟩)), (0, .pointer (some ⟨g0_, 0, none⟩)), (1, .func (.func 51) #[] #[.pointer (some ⟨g1, 0, none⟩)]), (2, .func (.func 52) #[] #[.pointer (some ⟨g2, 0, none⟩)]), (11, .slice A8 a0.pending.length c9), (12, .int .i64 (a0.pending.length : Int)), (13, .int .i64 x10)]) rfl
                obtain ⟨o_47, k_47, k_32⟩ := Option.bind_eq_some_iff.1 k_32
                refine cut (fun a w => ∃ (x44 : List (Arr 64)) (x47 : List (Int × Int)), (x44, x47) = o_47 ∧ ∃ (A45 : Option Addr) (c46 : Nat), Fr 52 [] [(0, .pointer (some ⟨g0_, 0, none⟩)), (1, .func (.func 51) #[] #[.pointer (some ⟨g1, 0, none⟩)]), (2, .func (.func 52) #[] #[.pointer (some ⟨g2, 0, none⟩)]), (11, .slice A8 a0.pending.length c9), (12, .int .i64 (a0.pending.length : Int)), (13, .int .i64 x10)] a ∧ Hp w0 (rd kBool A1_ c1_ a1 :: ps) (own (kA 64) 83 A45 c46 x44 :: own k_disk_write 85 A8 c9 a0.pending :: cel g2 [.int .i64 a2] 3 :: cel g0_ [.slice A45 x44.length c46, .map (some g7), .slice A8 a0.pending.length c9, .int .i64 a0.fuse] 76 :: cel g1 [.slice A1_ a1.length c1_] 54 :: imap g7 x47 :: fs) w) ?_ ?_
                · skip
                  by_cases c49 : x35 = true
                  · rw [if_pos c49] at k_47
                    rw [c49] at F
                    refine wp_cond_true (F.ev rfl) ?_
                    refine wp_seq ?_
                    replace H := H.drew
                    have HS := H.fx1.fx0
                    refine dr (fun w => Hp w0 (rd kBool A1_ c1_ a1 :: ps) (cel g27 (.int .i64 ((a0.pending.getD (x10 : Int).toNat (⟨0, (Arr.zero 64)⟩ : disk_write)).at_) :: arrOf ((a0.pending.getD (x10 : Int).toNat (⟨0, (Arr.zero 64)⟩ : disk_write)).b).l) 85 :: cel g2 [.int .i64 a2] 3 :: cel g0_ [.slice A12 x11.length c13, .map (some g7), .slice A8 a0.pending.length c9, .int .i64 a0.fuse] 76 :: cel g1 [.slice A1_ a1.length c1_] 54 :: imap g7 x14 :: fs) w) _ (by kernel_rfl) ?_ (n := 10)
                    refine dq 0 F rfl (by kernel_rfl) NP HS (fun w S => (r_mv (F.ev (x := .tmp 0) rfl))) fun a F => ?_
                    refine dq 1 F rfl (by kernel_rfl) NP HS (fun w S => (r_nc (F.ev (x := .tmp 33) rfl))) fun a F => ?_
                    refine dq 2 F rfl (by kernel_rfl) NP HS (fun w S => (r_fa (off := 0) (F.ev (x := .tmp 34) rfl) fa76_0)) fun a F => ?_
                    refine dq 3 F rfl (by kernel_rfl) NP HS (fun w S => (r_ld (F.ev (x := .tmp 35) rfl) (cel_cell (o := 0) (S.cell 2 rfl) rfl) one72)) fun a F => ?_
                    refine dq 4 F rfl (by kernel_rfl) NP HS (fun w S => (r_fa (off := 0) (F.ev (x := .tmp 7) rfl) fa85_0)) fun a F => ?_
                    refine dq 5 F rfl (by kernel_rfl) NP HS (fun w S => (r_ld (F.ev (x := .tmp 37) rfl) (cel_cell (o := 0) (S.cell 0 rfl) rfl) one3)) fun a F => ?_
                    refine dq 6 F rfl (by kernel_rfl) NP HS (fun w S => (r_fa (off := 1) (F.ev (x := .tmp 7) rfl) fa85_1)) fun a F => ?_
                    refine dq 7 F rfl (by kernel_rfl) NP HS (fun w S => (r_ldA (F.ev (x := .tmp 39) rfl) (cel_range (o := 1) (n := 64) (vs := (arrOf ((a0.pending.getD (x10 : Int).toNat (⟨0, (Arr.zero 64)⟩ : disk_write)).b).l)) (S.cell 0 rfl) (arr_take ((a0.pending.getD (x10 : Int).toNat (⟨0, (Arr.zero 64)⟩ : disk_write)).b))) agg83 (arr_len ((a0.pending.getD (x10 : Int).toNat (⟨0, (Arr.zero 64)⟩ : disk_write)).b)))) fun a F => ?_
                    obtain ⟨c50, k_47⟩ := guardO k_47
                    obtain ⟨g51, s52, hA, hq54, hl53, H⟩ := H.ixOwn2 (Arr.zero 64) 1 rfl (F.ev (x := .tmp 36) rfl) (F.ev (x := .tmp 38) rfl) Try.underlying72 sz83 (by decide) c50.1 c50.2
                    cases hA
                    obtain rfl := H.says_arr 0 rfl
                    have HS := H.fx1.fx0
                    refine dmoreH HS (fun w S => S.px0) ?_
                    refine dq 8 F rfl (by kernel_rfl) NP HS (fun w S => (hq54 _ _ _ _ _ _)) fun a F => ?_
                    obtain ⟨_, hr, H⟩ := Hp.setOwn (kd := (kA 64)) (xs := x11) (j := ((a0.pending.getD (x10 : Int).toNat (⟨0, (Arr.zero 64)⟩ : disk_write)).at_ : Int).toNat) (x1 := (a0.pending.getD (x10 : Int).toNat (⟨0, (Arr.zero 64)⟩ : disk_write)).b) (H.f6.f6.f6.f6.f6.f5.f6) (F.ev (x := .tmp 41) rfl) (F.ev (x := .tmp 40) rfl) rfl sz83 (by have := c50; omega) (fun Z hp => rfl)
                    refine d1 9 rfl (by kernel_rfl) (qn F (.inl rfl) (hr _ _ _ _) fun a F => ?_)
                    replace F := F.only [41, 40, 39, 38, 37, 36, 35, 34, 33, 29, 7, 0, 1, 2, 11, 12, 13] (l' := [(41, .pointer (some ⟨g51, ((a0.pending.getD (x10 : Int).toNat (⟨0, (Arr.zero 64)⟩ : disk_write)).at_ : Int).toNat * (kA 64).sz, none⟩)), (40, .agg (arrOf ((a0.pending.getD (x10 : Int).toNat (⟨0, (Arr.zero 64)⟩ : disk_write)).b).l).toArray), (39, .pointer (some ⟨g27, 1, none⟩)), (38, .int .i64 ((a0.pending.getD (x10 : Int).toNat (⟨0, (Arr.zero 64)⟩ : disk_write)).at_)), (37, .pointer (some ⟨g27, 0, none⟩)), (36, .slice (some ⟨g51, 0, none⟩) ((x11.set ((a0.pending.getD (x10 : Int).toNat (⟨0, (Arr.zero 64)⟩ : disk_write)).at_ : Int).toNat ((a0.pending.getD (x10 : Int).toNat (⟨0, (Arr.zero 64)⟩ : disk_write)).b))).length c13), (35, .pointer (some ⟨g0_, 0, none⟩)), (34, .pointer (some ⟨g0_, 0, none⟩)), (33, .pointer (some ⟨g0_, 0, none⟩)), (29, .bool true), (7, .pointer (some ⟨g27, 0, none⟩)), (0, .pointer (some ⟨g0_, 0, none⟩)), (1, .func (.func 51) #[] #[.pointer (some ⟨g1, 0, none⟩)]), (2, .func (.func 52) #[] #[.pointer (some ⟨g2, 0, none⟩)]), (11, .slice A8 a0.pending.length c9), (12, .int .i64 (a0.pending.length : Int)), (13, .int .i64 x10)]) (by (try simp only [List.length_set]); rfl)
                    replace H : Hp w0 (says (kA 64) (arrOf ((x11.getD ((a0.pending.getD (x10 : Int).toNat (⟨0, (Arr.zero 64)⟩ : disk_write)).at_ : Int).toNat (Arr.zero 64))).l) ((x11.getD ((a0.pending.getD (x10 : Int).toNat (⟨0, (Arr.zero 64)⟩ : disk_write)).at_ : Int).toNat (Arr.zero 64))) :: rd kBool A1_ c1_ a1 :: ps) (own (kA 64) 83 (some ⟨g51, 0, none⟩) c13 ((x11.set ((a0.pending.getD (x10 : Int).toNat (⟨0, (Arr.zero 64)⟩ : disk_write)).at_ : Int).toNat ((a0.pending.getD (x10 : Int).toNat (⟨0, (Arr.zero 64)⟩ : disk_write)).b))) :: own k_disk_write 85 A8 c9 a0.pending :: cel g27 (.int .i64 ((a0.pending.getD (x10 : Int).toNat (⟨0, (Arr.zero 64)⟩ : disk_write)).at_) :: arrOf ((a0.pending.getD (x10 : Int).toNat (⟨0, (Arr.zero 64)⟩ : disk_write)).b).l) 85 :: cel g2 [.int .i64 a2] 3 :: cel g0_ [.slice (some ⟨g51, 0, none⟩) ((x11.set ((a0.pending.getD (x10 : Int).toNat (⟨0, (Arr.zero 64)⟩ : disk_write)).at_ : Int).toNat ((a0.pending.getD (x10 : Int).toNat (⟨0, (Arr.zero 64)⟩ : disk_write)).b))).length c13, .map (some g7), .slice A8 a0.pending.length c9, .int .i64 a0.fuse] 76 :: cel g1 [.slice A1_ a1.length c1_] 54 :: imap g7 x14 :: fs) _ := (by (try simp only [List.length_set] at H); (try simp only [List.length_set]); exact H)
                    have HS := H.fx1.fx0
                    refine kga (by kernel_rfl) HS ?_
                    refine ddone (by kernel_rfl) ?_
                    replace F := F.only [7, 0, 1, 2, 11, 12, 13] (l' := [(7, .pointer (some ⟨g27, 0, none⟩)), (0, .pointer (some ⟨g0_, 0, none⟩)), (1, .func (.func 51) #[] #[.pointer (some ⟨g1, 0, none⟩)]), (2, .func (.func 52) #[] #[.pointer (some ⟨g2, 0, none⟩)]), (11, .slice A8 a0.pending.length c9), (12, .int .i64 (a0.pending.length : Int)), (13, .int .i64 x10)]) rfl
                    replace H := H.drew
                    have HS := H.fx6.fx1.fx0
                    refine dr (fun w => Hp w0 (says (kA 64) (arrOf ((x11.getD ((a0.pending.getD (x10 : Int).toNat (⟨0, (Arr.zero 64)⟩ : disk_write)).at_ : Int).toNat (Arr.zero 64))).l) ((x11.getD ((a0.pending.getD (x10 : Int).toNat (⟨0, (Arr.zero 64)⟩ : disk_write)).at_ : Int).toNat (Arr.zero 64))) :: rd kBool A1_ c1_ a1 :: ps) (cel g27 (.int .i64 ((a0.pending.getD (x10 : Int).toNat (⟨0, (Arr.zero 64)⟩ : disk_write)).at_) :: arrOf ((a0.pending.getD (x10 : Int).toNat (⟨0, (Arr.zero 64)⟩ : disk_write)).b).l) 85 :: cel g2 [.int .i64 a2] 3 :: cel g0_ [.slice (some ⟨g51, 0, none⟩) ((x11.set ((a0.pending.getD (x10 : Int).toNat (⟨0, (Arr.zero 64)⟩ : disk_write)).at_ : Int).toNat ((a0.pending.getD (x10 : Int).toNat (⟨0, (Arr.zero 64)⟩ : disk_write)).b))).length c13, .map (some g7), .slice A8 a0.pending.length c9, .int .i64 a0.fuse] 76 :: cel g1 [.slice A1_ a1.length c1_] 54 :: fs) w) _ (by kernel_rfl) ?_ (n := 7)
                    refine dq 0 F rfl (by kernel_rfl) NP HS (fun w S => (r_mv (F.ev (x := .tmp 0) rfl))) fun a F => ?_
                    refine dq 1 F rfl (by kernel_rfl) NP HS (fun w S => (r_nc (F.ev (x := .tmp 42) rfl))) fun a F => ?_
                    refine dq 2 F rfl (by kernel_rfl) NP HS (fun w S => (r_fa (off := 1) (F.ev (x := .tmp 43) rfl) fa76_1)) fun a F => ?_
                    refine dq 3 F rfl (by kernel_rfl) NP HS (fun w S => (r_ld (F.ev (x := .tmp 44) rfl) (cel_cell (o := 1) (S.cell 2 rfl) rfl) one73)) fun a F => ?_
                    refine dq 4 F rfl (by kernel_rfl) NP HS (fun w S => (r_fa (off := 0) (F.ev (x := .tmp 7) rfl) fa85_0)) fun a F => ?_
                    refine dq 5 F rfl (by kernel_rfl) NP HS (fun w S => (r_ld (F.ev (x := .tmp 46) rfl) (cel_cell (o := 0) (S.cell 0 rfl) rfl) one3)) fun a F => ?_
                    obtain ⟨_, hr, H⟩ := Hp.mrem (H.f5.f5.f5.f5.f5.f5.f6) (F.ev (x := .tmp 45) rfl) (F.ev (x := .tmp 47) rfl) Try.underlying73 Try.underlying3
                    refine d1 6 rfl (by kernel_rfl) (qn F (.inr ⟨_, rfl⟩) (hr _ _ _ _ _) fun a F => ?_)
                    have HS := H.fx2.fx1.fx0
                    refine kg _ HS (fun w S => S) ?_
                    refine ddone (by kernel_rfl) ?_
                    replace F := F.only [0, 1, 2, 11, 12, 13] (l' := [(0, .pointer (some ⟨g0_, 0, none⟩)), (1, .func (.func 51) #[] #[.pointer (some ⟨g1, 0, none⟩)]), (2, .func (.func 52) #[] #[.pointer (some ⟨g2, 0, none⟩)]), (11, .slice A8 a0.pending.length c9), (12, .int .i64 (a0.pending.length : Int)), (13, .int .i64 x10)]) rfl
                    try dsimp only at k_47
                    obtain rfl := Option.some.inj k_47
                    exact ⟨_, _, rfl, (some ⟨g51, 0, none⟩), c13, F.only [0, 1, 2, 11, 12, 13] rfl, H.px0.f6.f6.f6.f5.f5.fx6⟩
                  · rw [if_neg c49] at k_47
                    rw [Bool.eq_false_iff.2 c49] at F
                    refine wp_cond_false (F.ev rfl) ?_
                    refine wp_skip ?_
                    try dsimp only at k_47
                    obtain rfl := Option.some.inj k_47
                    exact ⟨_, _, rfl, A12, c13, F.only [0, 1, 2, 11, 12, 13] rfl, H.f6.f6.f6.f6.f4.f5.fx6⟩
                · rintro a w ⟨x44, x47, rfl, A45, c46, F, H⟩
                  try dsimp only at k_32 F H
                  try dsimp only at k_32
                  obtain rfl := Option.some.inj k_32
                  exact ⟨_, _, rfl, A45, c46, F.only [0, 1, 2, 11, 12, 13] rfl, H⟩
          · rintro a w ⟨x29, x32, rfl, A30, c31, F, H⟩
            try dsimp only at j_18 F H
            refine wp_region_lit ?_
            refine ls (qv F (r_add (F.ev (x := .tmp 13) rfl) (F.ev (x := .const (.int .i64 1)) rfl)) fun a F => ?_)
            refine mv F rfl fun a F => ?_
            refine wpList_nil ?_
            try dsimp only at j_18
            obtain rfl := Option.some.inj j_18
            exact ⟨_, rfl, A30, c31, F.only [0, 1, 2, 11, 12, 13] rfl, H⟩
      · rw [if_neg c20] at j_18
        rw [decide_eq_false c20] at F
        refine wp_cond_false (F.ev rfl) ?_
        refine wp_exit ?_
        try dsimp only at j_18
        obtain rfl := Option.some.inj j_18
        obtain rfl := u_18 _ rfl
        repeat (with_reducible refine exT ?_)
        with_reducible refine exB ?_
        exact ⟨_, _, rfl, A12, c13, F.only [0] rfl, H⟩
    · rintro a w ⟨x15, x18, rfl, A16, c17, F, H⟩
      try dsimp only at k_3 F H
      refine wp_region_lit ?_
      refine mv F rfl fun a F => ?_
      refine ls (qv F (r_nc (F.ev (x := .tmp 49) rfl)) fun a F => ?_)
      refine ls (qv F (r_fa (off := 2) (F.ev (x := .tmp 50) rfl) fa76_2) fun a F => ?_)
      obtain ⟨_, hr, H⟩ := Hp.store (t := 74) (o := 2) (n := 1) (vs := [.slice none 0 0]) (cs' := [.slice A16 x15.length c17, .map (some g7), .slice none 0 0, .int .i64 a0.fuse]) (H.f5.f5.f4.f4.f4.f5) (F.ev (x := .tmp 51) rfl) (F.ev (x := .const (.slice none 0 0)) rfl) rfl sz74 rfl (Nat.le_of_ble_eq_true rfl) rfl rfl
      refine ls (qn F (.inl rfl) (hr _ _ _ _) fun a F => ?_)
      refine wpList_nil ?_
      replace F := F.only [] (l' := []) rfl
      replace H := H.nilOwn k_disk_write 85
      replace H := Hp.closeO_disk_Disk (x := (⟨x15, x18, [], a0.fuse⟩ : disk_Disk)) (H.f5.f5.f5.f6.f4.f6.f6)
      try dsimp only at k_3
      obtain rfl := Option.some.inj k_3
      exact NRM _ _ (ret0 F rfl ⟨_, rfl, _, rfl, rfl, H.f3.f1.f3.fx3⟩)
  · rintro v w ⟨x3, rfl, rfl, H⟩ a F
    try dsimp only at h F H
    refine rgend ?_
    replace F := F.only [0] (l' := [(0, .pointer (some ⟨g0_, 0, none⟩))]) rfl
    refine wp_region_lit ?_
    refine mv F rfl fun a F => ?_
    refine ls (qv F (r_nc (F.ev (x := .tmp 10) rfl)) fun a F => ?_)
    refine ls (qv F (r_fa (off := 3) (F.ev (x := .tmp 11) rfl) fa76_3) fun a F => ?_)
    obtain ⟨A55, c56, A58, c59, g57, H⟩ := Hp.openO_disk_Disk (H.f2.f1.f2)
    obtain ⟨_, hr, H⟩ := Hp.store (t := 3) (o := 3) (n := 1) (vs := [.int .i64 (-1)]) (cs' := [.slice A55 x3.sectors.length c56, .map (some g57), .slice A58 x3.pending.length c59, .int .i64 (-1)]) (H) (F.ev (x := .tmp 12) rfl) (F.ev (x := .const (.int .i64 (-1))) rfl) rfl sz3 rfl (Nat.le_of_ble_eq_true rfl) rfl rfl
    refine ls (qn F (.inl rfl) (hr _ _ _ _) fun a F => ?_)
    refine wpList_nil ?_
    replace F := F.only [] (l' := []) rfl
    replace H := Hp.closeO_disk_Disk (x := (⟨x3.sectors, x3.torn, x3.pending, (-1)⟩ : disk_Disk)) (H)
    try dsimp only at h
    obtain rfl := Option.some.inj h
    exact NRM _ _ (ret0 F rfl ⟨_, rfl, rfl, H.px0.fx2.fx1⟩)
def ref15_Disk_call_f (a0 : ref15_Disk) : Option (Bool × ref15_Disk) :=
  (if a0.Fused = 0 then some (false, a0) else (((if a0.Fused > 0 then some (((⟨a0.L, a0.Torn, a0.P, IntKind.i64.wrap (a0.Fused - 1)⟩ : ref15_Disk))) else some a0) : Option (ref15_Disk)).bind fun x8 => some (true, x8)))
set_option maxHeartbeats 4000000 in
set_option maxRecDepth 20000 in
theorem ref15_Disk_call_ok {w0 w : World} {ps : List PF} {fs : List SF} {a0 : ref15_Disk} {g0_ : Nat} {r0 : Bool} {s0 : ref15_Disk} (H : Hp w0 ps (obj_ref15_Disk g0_ a0 :: fs) w) (h : ref15_Disk_call_f a0 = some (r0, s0)) :
    Calls Try.prog 62 [.pointer (some ⟨g0_, 0, none⟩)].toArray w fun e w' => ∃ v, e = .returned v ∧ v = .bool r0 ∧ Hp w0 ps (obj_ref15_Disk g0_ s0 :: fs) w' := by
  refine enter [.pointer (some ⟨g0_, 0, none⟩)] 21 Try.func62 fun Q a NP RET NRM F => ?_
  replace NP : ∀ c a w, ¬ Q (.panic c) a w := fun c a w h => by rcases NP c a w h with h | ⟨w, v, h, _⟩ <;> cases h
  unfold ref15_Disk_call_f at h
  refine rg ?_
  refine as_ F (v := .bool false) rfl fun a F => ?_
  refine rgend ?_
  refine wp_seq ?_
  refine rg ?_
  refine mv F rfl fun a F => ?_
  refine ls (qv F (r_nc (F.ev (x := .tmp 3) rfl)) fun a F => ?_)
  refine ls (qv F (r_fa (off := 3) (F.ev (x := .tmp 4) rfl) fa91_3) fun a F => ?_)
  obtain ⟨A1, c2, A3, c4, A5, c6, H⟩ := Hp.openO_ref15_Disk (H)
  refine ls (qv F (r_ld (F.ev (x := .tmp 5) rfl) (cel_cell (o := 3) (H.cell 0 rfl) rfl) one3) fun a F => ?_)
  refine ls (qv F (r_eq (F.ev (x := .tmp 6) rfl) (F.ev (x := .const (.int .i64 0)) rfl)) fun a F => ?_)
  refine rgend ?_
  replace F := F.only [7, 0] (l' := [(7, .bool (decide (a0.Fused = 0))), (0, .pointer (some ⟨g0_, 0, none⟩))]) rfl
  by_cases c7 : a0.Fused = 0
  · rw [if_pos c7] at h
    rw [decide_eq_true c7] at F
    refine wp_cond_true (F.ev rfl) ?_
    refine rg ?_
    refine as_ F (v := .bool false) rfl fun a F => ?_
    refine rgend ?_
    refine wp_ret ?_
    replace H := Hp.closeO_ref15_Disk (x := a0) (H)
    try dsimp only at h
    obtain ⟨rfl, rfl⟩ := Prod.mk.inj (Option.some.inj h)
    exact RET _ _ (ret1 F rfl rfl ⟨_, rfl, rfl, H⟩)
  · rw [if_neg c7] at h
    rw [decide_eq_false c7] at F
    refine wp_cond_false (F.ev rfl) ?_
    refine wp_skip ?_
    refine wp_seq ?_
    refine rg ?_
    refine mv F rfl fun a F => ?_
    refine ls (qv F (r_nc (F.ev (x := .tmp 8) rfl)) fun a F => ?_)
    refine ls (qv F (r_fa (off := 3) (F.ev (x := .tmp 9) rfl) fa91_3) fun a F => ?_)
    refine ls (qv F (r_ld (F.ev (x := .tmp 10) rfl) (cel_cell (o := 3) (H.cell 0 rfl) rfl) one3) fun a F => ?_)
    refine ls (qv F (r_gt (F.ev (x := .tmp 11) rfl) (F.ev (x := .const (.int .i64 0)) rfl)) fun a F => ?_)
    refine rgend ?_
    replace F := F.only [12, 0] (l' := [(12, .bool (decide (a0.Fused > 0))), (0, .pointer (some ⟨g0_, 0, none⟩))]) rfl
    obtain ⟨o_8, k_8, h⟩ := Option.bind_eq_some_iff.1 h
    refine cut (fun a w => ∃ (x8 : ref15_Disk), x8 = o_8 ∧ Fr 21 [] [] a ∧ Hp w0 ps (obj_ref15_Disk g0_ x8 :: fs) w) ?_ ?_
    · skip
      by_cases c10 : a0.Fused > 0
      · rw [if_pos c10] at k_8
        rw [decide_eq_true c10] at F
        refine wp_cond_true (F.ev rfl) ?_
        refine wp_region_lit ?_
        refine mv F rfl fun a F => ?_
        refine mv F rfl fun a F => ?_
        refine ls (qv F (r_nc (F.ev (x := .tmp 14) rfl)) fun a F => ?_)
        refine ls (qv F (r_fa (off := 3) (F.ev (x := .tmp 15) rfl) fa91_3) fun a F => ?_)
        refine ls (qv F (r_ld (F.ev (x := .tmp 16) rfl) (cel_cell (o := 3) (H.cell 0 rfl) rfl) one3) fun a F => ?_)
        refine ls (qv F (r_sub (F.ev (x := .tmp 17) rfl) (F.ev (x := .const (.int .i64 1)) rfl)) fun a F => ?_)
        refine ls (qv F (r_nc (F.ev (x := .tmp 13) rfl)) fun a F => ?_)
        refine ls (qv F (r_fa (off := 3) (F.ev (x := .tmp 19) rfl) fa91_3) fun a F => ?_)
        obtain ⟨_, hr, H⟩ := Hp.store (t := 3) (o := 3) (n := 1) (vs := [.int .i64 (IntKind.i64.wrap (a0.Fused - 1))]) (cs' := [.slice A1 a0.L.length c2, .slice A3 a0.Torn.length c4, .slice A5 a0.P.length c6, .int .i64 (IntKind.i64.wrap (a0.Fused - 1))]) (H) (F.ev (x := .tmp 20) rfl) (F.ev (x := .tmp 18) rfl) rfl sz3 rfl (Nat.le_of_ble_eq_true rfl) rfl rfl
        refine ls (qn F (.inl rfl) (hr _ _ _ _) fun a F => ?_)
        refine wpList_nil ?_
        replace F := F.only [] (l' := []) rfl
        replace H := Hp.closeO_ref15_Disk (x := (⟨a0.L, a0.Torn, a0.P, IntKind.i64.wrap (a0.Fused - 1)⟩ : ref15_Disk)) (H)
        try dsimp only at k_8
        obtain rfl := Option.some.inj k_8
        exact ⟨_, rfl, F.only [] rfl, H⟩
      · rw [if_neg c10] at k_8
        rw [decide_eq_false c10] at F
        refine wp_cond_false (F.ev rfl) ?_
        refine wp_skip ?_
        replace H := Hp.closeO_ref15_Disk (x := a0) (H)
        try dsimp only at k_8
        obtain rfl := Option.some.inj k_8
        exact ⟨_, rfl, F.only [] rfl, H⟩
    · rintro a w ⟨x8, rfl, F, H⟩
      try dsimp only at h F H
      refine rg ?_
      refine as_ F (v := .bool true) rfl fun a F => ?_
      refine rgend ?_
      refine wp_ret ?_
      try dsimp only at h
      obtain ⟨rfl, rfl⟩ := Prod.mk.inj (Option.some.inj h)
      exact RET _ _ (ret1 F rfl rfl ⟨_, rfl, rfl, H⟩)
def ref15_Disk_laid_f (a0 : ref15_Disk) (a1 : ref15_Write) : Option (ref15_Disk) :=
  (if (0 + a1.B.length) * 1 ≤ 140737488355328 then (if 0 ≤ a1.At ∧ a1.At < (a0.L.length : Int) then (if 0 ≤ a1.At ∧ a1.At < (a0.Torn.length : Int) then some (((⟨(a0.L.set (a1.At : Int).toNat a1.B), (a0.Torn.set (a1.At : Int).toNat false), a0.P, a0.Fused⟩ : ref15_Disk))) else none) else none) else none)
set_option maxHeartbeats 4000000 in
set_option maxRecDepth 20000 in
theorem ref15_Disk_laid_ok {w0 w : World} {ps : List PF} {fs : List SF} {a0 : ref15_Disk} {g0_ : Nat} {a1 : ref15_Write} {A1_1 : Option Addr} {c1_1 : Nat} {s0 : ref15_Disk} (H : Hp w0 (rd kByte A1_1 c1_1 a1.B :: ps) (obj_ref15_Disk g0_ a0 :: fs) w) (h : ref15_Disk_laid_f a0 a1 = some s0) :
    Calls Try.prog 63 [.pointer (some ⟨g0_, 0, none⟩), .agg #[.int .i64 a1.At, .slice A1_1 a1.B.length c1_1]].toArray w fun e w' => ∃ v, e = .returned v ∧ v = .tuple #[] ∧ Hp w0 ps (obj_ref15_Disk g0_ s0 :: fs) w' := by
  refine enter [.pointer (some ⟨g0_, 0, none⟩), .agg #[.int .i64 a1.At, .slice A1_1 a1.B.length c1_1]] 22 Try.func63 fun Q a NP RET NRM F => ?_
  replace NP : ∀ c a w, ¬ Q (.panic c) a w := fun c a w h => by rcases NP c a w h with h | ⟨w, v, h, _⟩ <;> cases h
  unfold ref15_Disk_laid_f at h
  refine rg ?_
  refine ls (lbox F H rfl (cs := [.int .i64 a1.At, .slice A1_1 a1.B.length c1_1]) rfl fun g1 w a H F => ?_)
  refine rgend ?_
  refine wp_seq ?_
  obtain ⟨A2, c3, A4, c5, A6, c7, H⟩ := Hp.openO_ref15_Disk (H.f1)
  replace H := H.drew
  have HS := H.fx3.fx2.fx1
  refine dr (fun w => Hp w0 (rd kByte A1_1 c1_1 a1.B :: ps) (cel g0_ [.slice A2 a0.L.length c3, .slice A4 a0.Torn.length c5, .slice A6 a0.P.length c7, .int .i64 a0.Fused] 91 :: cel g1 [.int .i64 a1.At, .slice A1_1 a1.B.length c1_1] 95 :: fs) w) _ (by kernel_rfl) ?_ (n := 12)
  refine dq 0 F rfl (by kernel_rfl) NP HS (fun w S => (r_mv (F.ev (x := .tmp 0) rfl))) fun a F => ?_
  refine dq 1 F rfl (by kernel_rfl) NP HS (fun w S => (r_nc (F.ev (x := .tmp 4) rfl))) fun a F => ?_
  refine dq 2 F rfl (by kernel_rfl) NP HS (fun w S => (r_fa (off := 0) (F.ev (x := .tmp 5) rfl) fa91_0)) fun a F => ?_
  refine dq 3 F rfl (by kernel_rfl) NP HS (fun w S => (r_ld (F.ev (x := .tmp 6) rfl) (cel_cell (o := 0) (S.cell 0 rfl) rfl) one32)) fun a F => ?_
  refine dq 4 F rfl (by kernel_rfl) NP HS (fun w S => (r_fa (off := 0) (F.ev (x := .tmp 3) rfl) fa95_0)) fun a F => ?_
  refine dq 5 F rfl (by kernel_rfl) NP HS (fun w S => (r_ld (F.ev (x := .tmp 8) rfl) (cel_cell (o := 0) (S.cell 1 rfl) rfl) one3)) fun a F => ?_
  refine dq 7 F rfl (by kernel_rfl) NP HS (fun w S => (r_fa (off := 1) (F.ev (x := .tmp 3) rfl) fa95_1)) fun a F => ?_
  refine dq 8 F rfl (by kernel_rfl) NP HS (fun w S => (r_ld (F.ev (x := .tmp 11) rfl) (cel_cell (o := 1) (S.cell 1 rfl) rfl) one23)) fun a F => ?_
  refine d1 6 rfl (by kernel_rfl) (lbs F H (e := 5) (vs := []) (cs := []) rfl (fun w => by kernel_rfl) fun g8 w a H F => ?_)
  have HS := H.fx4.fx3.fx2.fx0
  refine kg _ HS (fun w S => S) ?_
  replace H := Hp.litOwn (kd := kByte) (xs := []) (H) (SayL.nil) (Nat.le_of_ble_eq_true rfl)
  obtain ⟨c9, h⟩ := guardO h
  obtain ⟨A10, c11, _, hr, H⟩ := Hp.appendRd (kd := kByte) (xs := []) (ys := a1.B) (H) 0 rfl (F.ev (x := .tmp 10) rfl) (F.ev (x := .tmp 12) rfl) Try.underlying23 ti5 rfl (by decide) (by decide) c9
  rw [List.nil_append] at hr H
  refine d1 9 rfl (by kernel_rfl) (qv F (hr _ _ _ _ _) fun a F => ?_)
  have HS := H.fx4.fx3.fx2.fx0
  refine kg _ HS (fun w S => S) ?_
  obtain ⟨c12, h⟩ := guardO h
  obtain ⟨g13, s14, hA, hq16, hl15, H⟩ := H.ixOwn2 [] 2 rfl (F.ev (x := .tmp 7) rfl) (F.ev (x := .tmp 9) rfl) Try.underlying32 sz23 (by decide) c12.1 c12.2
  cases hA
  obtain ⟨A17, c18, rfl, H⟩ := H.says_slice 0 rfl
  have HS := H.fx4.fx3.fx2.fx0
  refine dmoreH HS (fun w S => S.px1.px0) ?_
  refine dq 10 F rfl (by kernel_rfl) NP HS (fun w S => (hq16 _ _ _ _ _ _)) fun a F => ?_
  replace H := (H).freeze
  obtain ⟨_, hr, H⟩ := Hp.setOwn (kd := (kSlice kByte)) (xs := a0.L) (j := (a1.At : Int).toNat) (x1 := a1.B) (H.f4.f4.f4.f3.f4) (F.ev (x := .tmp 14) rfl) (F.ev (x := .tmp 13) rfl) rfl sz23 (by have := c12; omega) (fun Z hp => ⟨A10, c11, rfl, pat hp 0 rfl⟩)
  refine d1 11 rfl (by kernel_rfl) (qn F (.inl rfl) (hr _ _ _ _) fun a F => ?_)
  replace F := F.only [14, 13, 10, 12, 11, 9, 8, 7, 6, 5, 4, 3, 0, 1] (l' := [(14, .pointer (some ⟨g13, (a1.At : Int).toNat * (kSlice kByte).sz, none⟩)), (13, .slice A10 a1.B.length c11), (10, .slice (some ⟨g8, 0, none⟩) 0 0), (12, .slice A1_1 a1.B.length c1_1), (11, .pointer (some ⟨g1, 1, none⟩)), (9, .int .i64 a1.At), (8, .pointer (some ⟨g1, 0, none⟩)), (7, .slice (some ⟨g13, 0, none⟩) ((a0.L.set (a1.At : Int).toNat a1.B)).length c3), (6, .pointer (some ⟨g0_, 0, none⟩)), (5, .pointer (some ⟨g0_, 0, none⟩)), (4, .pointer (some ⟨g0_, 0, none⟩)), (3, .pointer (some ⟨g1, 0, none⟩)), (0, .pointer (some ⟨g0_, 0, none⟩)), (1, .agg #[.int .i64 a1.At, .slice A1_1 a1.B.length c1_1])]) (by (try simp only [List.length_set]); rfl)
  replace H : Hp w0 (rd kByte A10 c11 a1.B :: rd kByte A17 c18 ((a0.L.getD (a1.At : Int).toNat [])) :: says (kSlice kByte) [.slice A17 ((a0.L.getD (a1.At : Int).toNat [])).length c18] ((a0.L.getD (a1.At : Int).toNat [])) :: rd kByte A1_1 c1_1 a1.B :: ps) (own (kSlice kByte) 23 (some ⟨g13, 0, none⟩) c3 ((a0.L.set (a1.At : Int).toNat a1.B)) :: cel g0_ [.slice (some ⟨g13, 0, none⟩) ((a0.L.set (a1.At : Int).toNat a1.B)).length c3, .slice A4 a0.Torn.length c5, .slice A6 a0.P.length c7, .int .i64 a0.Fused] 91 :: own kBool 4 A4 c5 a0.Torn :: own k_ref15_Write 95 A6 c7 a0.P :: cel g1 [.int .i64 a1.At, .slice A1_1 a1.B.length c1_1] 95 :: fs) _ := (by (try simp only [List.length_set] at H); (try simp only [List.length_set]); exact H)
  have HS := H.fx3.fx2.fx0
  refine kga (by kernel_rfl) HS ?_
  refine ddone (by kernel_rfl) ?_
  replace F := F.only [3, 0] (l' := [(3, .pointer (some ⟨g1, 0, none⟩)), (0, .pointer (some ⟨g0_, 0, none⟩))]) rfl
  replace H := H.drew
  have HS := H.fx3.fx2.fx0
  refine dr (fun w => Hp w0 (rd kByte A10 c11 a1.B :: rd kByte A17 c18 ((a0.L.getD (a1.At : Int).toNat [])) :: says (kSlice kByte) [.slice A17 ((a0.L.getD (a1.At : Int).toNat [])).length c18] ((a0.L.getD (a1.At : Int).toNat [])) :: rd kByte A1_1 c1_1 a1.B :: ps) (cel g0_ [.slice (some ⟨g13, 0, none⟩) ((a0.L.set (a1.At : Int).toNat a1.B)).length c3, .slice A4 a0.Torn.length c5, .slice A6 a0.P.length c7, .int .i64 a0.Fused] 91 :: cel g1 [.int .i64 a1.At, .slice A1_1 a1.B.length c1_1] 95 :: fs) w) _ (by kernel_rfl) ?_ (n := 8)
  refine dq 0 F rfl (by kernel_rfl) NP HS (fun w S => (r_mv (F.ev (x := .tmp 0) rfl))) fun a F => ?_
  refine dq 1 F rfl (by kernel_rfl) NP HS (fun w S => (r_nc (F.ev (x := .tmp 15) rfl))) fun a F => ?_
  refine dq 2 F rfl (by kernel_rfl) NP HS (fun w S => (r_fa (off := 1) (F.ev (x := .tmp 16) rfl) fa91_1)) fun a F => ?_
  refine dq 3 F rfl (by kernel_rfl) NP HS (fun w S => (r_ld (F.ev (x := .tmp 17) rfl) (cel_cell (o := 1) (S.cell 0 rfl) rfl) one54)) fun a F => ?_
  refine dq 4 F rfl (by kernel_rfl) NP HS (fun w S => (r_fa (off := 0) (F.ev (x := .tmp 3) rfl) fa95_0)) fun a F => ?_
  refine dq 5 F rfl (by kernel_rfl) NP HS (fun w S => (r_ld (F.ev (x := .tmp 19) rfl) (cel_cell (o := 0) (S.cell 1 rfl) rfl) one3)) fun a F => ?_
  obtain ⟨c19, h⟩ := guardO h
  obtain ⟨g20, s21, hA, hq23, hl22, H⟩ := H.ixOwn2 false 2 rfl (F.ev (x := .tmp 18) rfl) (F.ev (x := .tmp 20) rfl) Try.underlying54 sz4 (by decide) c19.1 c19.2
  cases hA
  obtain rfl := H.says_bool 0 rfl
  have HS := H.fx3.fx2.fx0
  refine dmoreH HS (fun w S => S.px0) ?_
  refine dq 6 F rfl (by kernel_rfl) NP HS (fun w S => (hq23 _ _ _ _ _ _)) fun a F => ?_
  obtain ⟨_, hr, H⟩ := Hp.setOwn (kd := kBool) (xs := a0.Torn) (j := (a1.At : Int).toNat) (x1 := false) (H.f4.f4.f3.f3.f4) (F.ev (x := .tmp 21) rfl) (F.ev (x := .const (.bool false)) rfl) rfl sz4 (by have := c19; omega) (fun Z hp => rfl)
  refine d1 7 rfl (by kernel_rfl) (qn F (.inl rfl) (hr _ _ _ _) fun a F => ?_)
  replace F := F.only [21, 20, 19, 18, 17, 16, 15, 3, 0] (l' := [(21, .pointer (some ⟨g20, (a1.At : Int).toNat * kBool.sz, none⟩)), (20, .int .i64 a1.At), (19, .pointer (some ⟨g1, 0, none⟩)), (18, .slice (some ⟨g20, 0, none⟩) ((a0.Torn.set (a1.At : Int).toNat false)).length c5), (17, .pointer (some ⟨g0_, 1, none⟩)), (16, .pointer (some ⟨g0_, 0, none⟩)), (15, .pointer (some ⟨g0_, 0, none⟩)), (3, .pointer (some ⟨g1, 0, none⟩)), (0, .pointer (some ⟨g0_, 0, none⟩))]) (by (try simp only [List.length_set]); rfl)
  replace H : Hp w0 (says kBool [.bool ((a0.Torn.getD (a1.At : Int).toNat false))] ((a0.Torn.getD (a1.At : Int).toNat false)) :: rd kByte A10 c11 a1.B :: rd kByte A17 c18 ((a0.L.getD (a1.At : Int).toNat [])) :: says (kSlice kByte) [.slice A17 ((a0.L.getD (a1.At : Int).toNat [])).length c18] ((a0.L.getD (a1.At : Int).toNat [])) :: rd kByte A1_1 c1_1 a1.B :: ps) (own kBool 4 (some ⟨g20, 0, none⟩) c5 ((a0.Torn.set (a1.At : Int).toNat false)) :: own (kSlice kByte) 23 (some ⟨g13, 0, none⟩) c3 ((a0.L.set (a1.At : Int).toNat a1.B)) :: cel g0_ [.slice (some ⟨g13, 0, none⟩) ((a0.L.set (a1.At : Int).toNat a1.B)).length c3, .slice (some ⟨g20, 0, none⟩) ((a0.Torn.set (a1.At : Int).toNat false)).length c5, .slice A6 a0.P.length c7, .int .i64 a0.Fused] 91 :: own k_ref15_Write 95 A6 c7 a0.P :: cel g1 [.int .i64 a1.At, .slice A1_1 a1.B.length c1_1] 95 :: fs) _ := (by (try simp only [List.length_set] at H); (try simp only [List.length_set]); exact H)
  have HS := H.fx3.fx1.fx0
  refine kga (by kernel_rfl) HS ?_
  refine ddone (by kernel_rfl) ?_
  replace F := F.only [] (l' := []) rfl
  replace H := Hp.closeO_ref15_Disk (x := (⟨(a0.L.set (a1.At : Int).toNat a1.B), (a0.Torn.set (a1.At : Int).toNat false), a0.P, a0.Fused⟩ : ref15_Disk)) (H.f4.f4.f2.f3.f4)
  try dsimp only at h
  obtain rfl := Option.some.inj h
  exact NRM _ _ (ret0 F rfl ⟨_, rfl, rfl, H.px4.px3.px2.px1.px0.fx1⟩)
def ref15_New_b0 (a0 : Int) : (Int × ref15_Disk) → Option (Int × ref15_Disk ⊕ ref15_Disk)
  | (x4, x5) => (if x4 < a0 then (if 0 ≤ (64 : Int) ∧ 1 * (64 : Int) ≤ 281474976710656 then (if (x5.L.length + 1) * 24 ≤ 140737488355328 then (if (x5.Torn.length + 1) * 1 ≤ 140737488355328 then some (.inl (IntKind.i64.wrap (x4 + 1), (⟨(x5.L ++ ([List.replicate (64 : Int).toNat (0 : Int)])), (x5.Torn ++ ([false])), x5.P, x5.Fused⟩ : ref15_Disk))) else none) else none) else none) else some (.inr x5))
def ref15_New_f (a0 : Int) : Option (Option ref15_Disk) :=
  (if a0 < 0 then some none else (if a0 > 4096 then some none else ((lp (ref15_New_b0 a0) (0, (⟨[], [], [], (-1)⟩ : ref15_Disk))).bind fun x6 => some (some x6))))
set_option maxHeartbeats 4000000 in
set_option maxRecDepth 20000 in
theorem ref15_New_ok {w0 w : World} {ps : List PF} {fs : List SF} {a0 : Int} {r0 : Option ref15_Disk} (H : Hp w0 ps fs w) (h : ref15_New_f a0 = some r0) :
    Calls Try.prog 26 [.int .i64 a0].toArray w fun e w' => ∃ v, e = .returned v ∧ (match r0 with | none => v = .pointer none ∧ Hp w0 ps fs w' | some x => ∃ g : Nat, v = .pointer (some ⟨g, 0, none⟩) ∧ Hp w0 ps (obj_ref15_Disk g x :: fs) w') := by
  refine enter [.int .i64 a0] 38 Try.func26 fun Q a NP RET NRM F => ?_
  replace NP : ∀ c a w, ¬ Q (.panic c) a w := fun c a w h => by rcases NP c a w h with h | ⟨w, v, h, _⟩ <;> cases h
  unfold ref15_New_f at h
  refine rg ?_
  refine as_ F (v := .pointer none) rfl fun a F => ?_
  refine rgend ?_
  refine wp_seq ?_
  refine rg ?_
  refine mv F rfl fun a F => ?_
  refine ls (qv F (r_lt (F.ev (x := .tmp 5) rfl) (F.ev (x := .const (.int .i64 0)) rfl)) fun a F => ?_)
  refine mv F rfl fun a F => ?_
  by_cases c1 : a0 < 0
  · rw [if_pos c1] at h
    rw [decide_eq_true c1] at F
    refine ls (off F fun a F => ?_)
    refine ls (off F fun a F => ?_)
    refine ls (qv F (r_pickT (F.ev (x := .tmp 7) rfl) (F.ev (x := .const (.bool true)) rfl)) fun a F => ?_)
    refine rgend ?_
    replace F := F.only [10, 0] (l' := [(10, .bool true), (0, .int .i64 a0)]) rfl
    refine wp_cond_true (F.ev rfl) ?_
    refine rg ?_
    refine as_ F (v := .pointer none) rfl fun a F => ?_
    refine rgend ?_
    refine wp_ret ?_
    try dsimp only at h
    obtain rfl := Option.some.inj h
    exact RET _ _ (ret1 F rfl rfl ⟨_, rfl, rfl, H⟩)
  · rw [if_neg c1] at h
    rw [decide_eq_false c1] at F
    refine mv F rfl fun a F => ?_
    refine ls (qv F (r_gt (F.ev (x := .tmp 8) rfl) (F.ev (x := .const (.int .i64 4096)) rfl)) fun a F => ?_)
    refine ls (qv F (r_pickF (F.ev (x := .tmp 7) rfl) (F.ev (x := .tmp 9) rfl)) fun a F => ?_)
    refine rgend ?_
    replace F := F.only [10, 0] (l' := [(10, .bool (decide (a0 > 4096))), (0, .int .i64 a0)]) rfl
    by_cases c2 : a0 > 4096
    · rw [if_pos c2] at h
      rw [decide_eq_true c2] at F
      refine wp_cond_true (F.ev rfl) ?_
      refine rg ?_
      refine as_ F (v := .pointer none) rfl fun a F => ?_
      refine rgend ?_
      refine wp_ret ?_
      try dsimp only at h
      obtain rfl := Option.some.inj h
      exact RET _ _ (ret1 F rfl rfl ⟨_, rfl, rfl, H⟩)
    · rw [if_neg c2] at h
      rw [decide_eq_false c2] at F
      refine wp_cond_false (F.ev rfl) ?_
      refine wp_skip ?_
      refine rg ?_
      refine ls (lbd F (vs := [(3, .int .i64 (-1))]) (cs := [.slice none 0 0, .slice none 0 0, .slice none 0 0, .int .i64 (-1)]) rfl (fun w => by kernel_rfl) fun a F => ?_)
      refine ls (lbox F H rfl (cs := [.slice none 0 0, .slice none 0 0, .slice none 0 0, .int .i64 (-1)]) rfl fun g3 w a H F => ?_)
      refine as_ F rfl fun a F => ?_
      refine rgend ?_
      refine wp_seq ?_
      refine rg ?_
      refine as_ F (v := .int .i64 0) rfl fun a F => ?_
      refine rgend ?_
      replace H := H.nilOwn (kSlice kByte) 23
      replace H := H.nilOwn kBool 4
      replace H := H.nilOwn k_ref15_Write 95
      replace H := Hp.closeO_ref15_Disk (x := (⟨[], [], [], (-1)⟩ : ref15_Disk)) (H.f1.f2.f3)
      obtain ⟨o_6, k_6, h⟩ := Option.bind_eq_some_iff.1 h
      refine cut (fun a w => ∃ (x6 : ref15_Disk), x6 = o_6 ∧ Fr 38 [] [(3, .pointer (some ⟨g3, 0, none⟩))] a ∧ Hp w0 ps (obj_ref15_Disk g3 x6 :: fs) w) (wp_block ?_) ?_
      · refine wloop (ref15_New_b0 a0) (fun (s : Int × ref15_Disk) a w => Fr 38 [] [(0, .int .i64 a0), (3, .pointer (some ⟨g3, 0, none⟩)), (4, .int .i64 s.1)] a ∧ Hp w0 ps (obj_ref15_Disk g3 s.2 :: fs) w) k_6 ⟨F.only [0, 3, 4] rfl, H⟩ ?_
        rintro ⟨x4, x5⟩ a w q_6 j_6 u_6 ⟨F, H⟩
        unfold ref15_New_b0 at j_6
        try dsimp only at j_6 F H
        refine wp_seq ?_
        refine rg ?_
        refine mv F rfl fun a F => ?_
        refine mv F rfl fun a F => ?_
        refine ls (qv F (r_lt (F.ev (x := .tmp 13) rfl) (F.ev (x := .tmp 14) rfl)) fun a F => ?_)
        refine rgend ?_
        by_cases c8 : x4 < a0
        · rw [if_pos c8] at j_6
          rw [decide_eq_true c8] at F
          refine wp_cond_true (F.ev rfl) ?_
          refine wp_skip ?_
          refine wp_seq ?_
          refine wp_block ?_
          refine wp_seq ?_
          obtain ⟨A9, c10, A11, c12, A13, c14, H⟩ := Hp.openO_ref15_Disk (H)
          replace H := H.drew
          have HS := H.fx3.fx2.fx1
          refine dr (fun w => Hp w0 ps (cel g3 [.slice A9 x5.L.length c10, .slice A11 x5.Torn.length c12, .slice A13 x5.P.length c14, .int .i64 x5.Fused] 91 :: fs) w) _ (by kernel_rfl) ?_ (n := 11)
          refine dq 0 F rfl (by kernel_rfl) NP HS (fun w S => (r_mv (F.ev (x := .tmp 3) rfl))) fun a F => ?_
          refine dq 1 F rfl (by kernel_rfl) NP HS (fun w S => (r_mv (F.ev (x := .tmp 3) rfl))) fun a F => ?_
          refine dq 2 F rfl (by kernel_rfl) NP HS (fun w S => (r_nc (F.ev (x := .tmp 19) rfl))) fun a F => ?_
          refine dq 3 F rfl (by kernel_rfl) NP HS (fun w S => (r_fa (off := 0) (F.ev (x := .tmp 20) rfl) fa91_0)) fun a F => ?_
          refine dq 4 F rfl (by kernel_rfl) NP HS (fun w S => (r_ld (F.ev (x := .tmp 21) rfl) (cel_cell (o := 0) (S.cell 0 rfl) rfl) one32)) fun a F => ?_
          obtain ⟨c16, j_6⟩ := guardO j_6
          obtain ⟨g15, _, hr, H⟩ := Hp.make (kd := kByte) (zx := (0 : Int)) H (F.ev (x := .const (.int .i64 64)) rfl) (F.ev (x := .const (.int .i64 64)) rfl) Try.underlying23 ti5 rfl rfl (by decide) c16.1 c16.2 (fun Z w => ⟨rfl, by decide⟩) rfl
          refine d1 5 rfl (by kernel_rfl) (qv F (hr _ _ _ _ _) fun a F => ?_)
          have HS := H.fx4.fx3.fx2.fx0
          refine kg _ HS (fun w S => S) ?_
          replace H := (H).freeze
          have HS := H.fx3.fx2.fx1
          refine dmoreH HS (fun w S => S.px0) ?_
          refine d1 6 rfl (by kernel_rfl) (lbs F H (e := 23) (vs := [(0, .slice (some ⟨g15, 0, none⟩) (List.replicate (64 : Int).toNat (0 : Int)).length ((List.replicate (64 : Int).toNat (0 : Int)).length))]) (cs := [.slice (some ⟨g15, 0, none⟩) (List.replicate (64 : Int).toNat (0 : Int)).length ((List.replicate (64 : Int).toNat (0 : Int)).length)]) rfl (fun w => by kernel_rfl) fun g17 w a H F => ?_)
          have HS := H.fx4.fx3.fx2.fx0
          refine kg _ HS (fun w S => S) ?_
          obtain ⟨c18, j_6⟩ := guardO j_6
          obtain ⟨A19, c20, _, hr, H⟩ := Hp.appendCelL (kd := (kSlice kByte)) (xs := x5.L) (ys := [List.replicate (64 : Int).toNat (0 : Int)]) (H.f4.f4.f3.f3.f4) (F.ev (x := .tmp 22) rfl) (F.ev (x := .tmp 24) rfl) Try.underlying32 ti23 rfl (by decide) (by decide) rfl ((SayL.cons (kd := (kSlice kByte)) (c1 := [.slice (some ⟨g15, 0, none⟩) (List.replicate (64 : Int).toNat (0 : Int)).length ((List.replicate (64 : Int).toNat (0 : Int)).length)]) (y := List.replicate (64 : Int).toNat (0 : Int)) (fun Z hp => ⟨(some ⟨g15, 0, none⟩), (List.replicate (64 : Int).toNat (0 : Int)).length, rfl, pat hp 0 rfl⟩) SayL.nil)) c18
          refine d1 7 rfl (by kernel_rfl) (qv F (hr _ _ _ _ _) fun a F => ?_)
          have HS := H.fx3.fx2.fx0
          refine kg _ HS (fun w S => S) ?_
          refine dq 8 F rfl (by kernel_rfl) NP HS (fun w S => (r_nc (F.ev (x := .tmp 18) rfl))) fun a F => ?_
          refine dq 9 F rfl (by kernel_rfl) NP HS (fun w S => (r_fa (off := 0) (F.ev (x := .tmp 26) rfl) fa91_0)) fun a F => ?_
          obtain ⟨_, hr, H⟩ := Hp.store (t := 32) (o := 0) (n := 1) (vs := [.slice A19 ((x5.L ++ ([List.replicate (64 : Int).toNat (0 : Int)]))).length c20]) (cs' := [.slice A19 ((x5.L ++ ([List.replicate (64 : Int).toNat (0 : Int)]))).length c20, .slice A11 x5.Torn.length c12, .slice A13 x5.P.length c14, .int .i64 x5.Fused]) (H.f3.f3.f2.f3) (F.ev (x := .tmp 27) rfl) (F.ev (x := .tmp 25) rfl) rfl sz32 rfl (Nat.le_of_ble_eq_true rfl) rfl rfl
          refine d1 10 rfl (by kernel_rfl) (qn F (.inl rfl) (hr _ _ _ _) fun a F => ?_)
          have HS := H.fx3.fx2.fx1
          refine kga (by kernel_rfl) HS ?_
          refine ddone (by kernel_rfl) ?_
          replace F := F.only [0, 3, 4] (l' := [(0, .int .i64 a0), (3, .pointer (some ⟨g3, 0, none⟩)), (4, .int .i64 x4)]) rfl
          refine wp_region_lit ?_
          refine mv F rfl fun a F => ?_
          refine mv F rfl fun a F => ?_
          refine ls (qv F (r_nc (F.ev (x := .tmp 29) rfl)) fun a F => ?_)
          refine ls (qv F (r_fa (off := 1) (F.ev (x := .tmp 30) rfl) fa91_1) fun a F => ?_)
          refine ls (qv F (r_ld (F.ev (x := .tmp 31) rfl) (cel_cell (o := 1) (H.cell 0 rfl) rfl) one54) fun a F => ?_)
          refine ls (lbs F H (e := 4) (vs := [(0, .bool false)]) (cs := [.bool false]) rfl (fun w => by kernel_rfl) fun g21 w a H F => ?_)
          obtain ⟨c22, j_6⟩ := guardO j_6
          obtain ⟨A23, c24, _, hr, H⟩ := Hp.appendCelL (kd := kBool) (xs := x5.Torn) (ys := [false]) (H.f4.f3.f3.f3.f4) (F.ev (x := .tmp 32) rfl) (F.ev (x := .tmp 33) rfl) Try.underlying54 ti4 rfl (by decide) (by decide) rfl ((SayL.cons (kd := kBool) (c1 := [.bool false]) (y := false) (fun Z hp => rfl) SayL.nil)) c22
          refine ls (qv F (hr _ _ _ _ _) fun a F => ?_)
          refine ls (qv F (r_nc (F.ev (x := .tmp 28) rfl)) fun a F => ?_)
          refine ls (qv F (r_fa (off := 1) (F.ev (x := .tmp 35) rfl) fa91_1) fun a F => ?_)
          obtain ⟨_, hr, H⟩ := Hp.store (t := 54) (o := 1) (n := 1) (vs := [.slice A23 ((x5.Torn ++ ([false]))).length c24]) (cs' := [.slice A19 ((x5.L ++ ([List.replicate (64 : Int).toNat (0 : Int)]))).length c20, .slice A23 ((x5.Torn ++ ([false]))).length c24, .slice A13 x5.P.length c14, .int .i64 x5.Fused]) (H.f3.f3.f2.f3) (F.ev (x := .tmp 36) rfl) (F.ev (x := .tmp 34) rfl) rfl sz54 rfl (Nat.le_of_ble_eq_true rfl) rfl rfl
          refine ls (qn F (.inl rfl) (hr _ _ _ _) fun a F => ?_)
          refine wpList_nil ?_
          replace F := F.only [0, 3, 4] (l' := [(0, .int .i64 a0), (3, .pointer (some ⟨g3, 0, none⟩)), (4, .int .i64 x4)]) rfl
          refine wp_region_lit ?_
          refine mv F rfl fun a F => ?_
          refine ls (qv F (r_add (F.ev (x := .tmp 16) rfl) (F.ev (x := .const (.int .i64 1)) rfl)) fun a F => ?_)
          refine as_ F rfl fun a F => ?_
          refine wpList_nil ?_
          replace H := Hp.closeO_ref15_Disk (x := (⟨(x5.L ++ ([List.replicate (64 : Int).toNat (0 : Int)])), (x5.Torn ++ ([false])), x5.P, x5.Fused⟩ : ref15_Disk)) (H.f3.f2.f3.f3)
          try dsimp only at j_6
          obtain rfl := Option.some.inj j_6
          exact ⟨_, rfl, F.only [0, 3, 4] rfl, H.px0⟩
        · rw [if_neg c8] at j_6
          rw [decide_eq_false c8] at F
          refine wp_cond_false (F.ev rfl) ?_
          refine wp_exit ?_
          try dsimp only at j_6
          obtain rfl := Option.some.inj j_6
          obtain rfl := u_6 _ rfl
          repeat (with_reducible refine exT ?_)
          with_reducible refine exB ?_
          exact ⟨_, rfl, F.only [3] rfl, H⟩
      · rintro a w ⟨x6, rfl, F, H⟩
        try dsimp only at h F H
        refine rg ?_
        refine mv F rfl fun a F => ?_
        refine as_ F rfl fun a F => ?_
        refine rgend ?_
        refine wp_ret ?_
        try dsimp only at h
        obtain rfl := Option.some.inj h
        exact RET _ _ (ret1 F rfl rfl ⟨_, rfl, g3, rfl, H⟩)
def ref15_Disk_Read_b0 (a0 : ref15_Disk) (a1 : Int) : Int → Option (Int ⊕ (Unit ⊕ ((List Int) × Int)))
  | x9 => (if x9 ≥ 0 then (if 0 ≤ x9 ∧ x9 < (a0.P.length : Int) then (if ((a0.P.getD (x9 : Int).toNat (⟨0, []⟩ : ref15_Write)).At) = a1 then (if 0 ≤ x9 ∧ x9 < (a0.P.length : Int) then (if (0 + ((a0.P.getD (x9 : Int).toNat (⟨0, []⟩ : ref15_Write)).B).length) * 1 ≤ 140737488355328 then some (.inr (.inr (((a0.P.getD (x9 : Int).toNat (⟨0, []⟩ : ref15_Write)).B, 0)))) else none) else none) else some (.inl (IntKind.i64.wrap (x9 - 1)))) else none) else some (.inr (.inl ())))
def ref15_Disk_Read_f (a0 : ref15_Disk) (a1 : Int) : Option ((List Int) × Int) :=
  (if a1 < 0 then some ([], 3) else (if a1 ≥ (a0.L.length : Int) then some ([], 3) else ((lp (ref15_Disk_Read_b0 a0 a1) (IntKind.i64.wrap ((a0.P.length : Int) - 1))).bind fun q => match q with | .inl _ => (if 0 ≤ a1 ∧ a1 < (a0.Torn.length : Int) then (if ((a0.Torn.getD (a1 : Int).toNat false)) = true then some ([], 41) else (if 0 ≤ a1 ∧ a1 < (a0.L.length : Int) then (if (0 + ((a0.L.getD (a1 : Int).toNat [])).length) * 1 ≤ 140737488355328 then some (((a0.L.getD (a1 : Int).toNat []), 0)) else none) else none)) else none) | .inr r => some r)))
set_option maxHeartbeats 4000000 in
set_option maxRecDepth 20000 in
theorem ref15_Disk_Read_ok {w0 w : World} {ps : List PF} {fs : List SF} {a0 : ref15_Disk} {g0_ : Nat} {a1 : Int} {r0 : List Int} {r1 : Int} (H : Hp w0 ps (obj_ref15_Disk g0_ a0 :: fs) w) (h : ref15_Disk_Read_f a0 a1 = some (r0, r1)) :
    Calls Try.prog 57 [.pointer (some ⟨g0_, 0, none⟩), .int .i64 a1].toArray w fun e w' => ∃ v, e = .returned v ∧ ∃ (A0 : Option Addr) (c0 : Nat), v = .tuple #[.slice A0 r0.length c0, .int .i64 r1] ∧ Hp w0 ps (own kByte 5 A0 c0 r0 :: obj_ref15_Disk g0_ a0 :: fs) w' := by
  refine enter [.pointer (some ⟨g0_, 0, none⟩), .int .i64 a1] 64 Try.func57 fun Q a NP RET NRM F => ?_
  replace NP : ∀ c a w, ¬ Q (.panic c) a w := fun c a w h => by rcases NP c a w h with h | ⟨w, v, h, _⟩ <;> cases h
  unfold ref15_Disk_Read_f at h
  refine rg ?_
  refine as_ F (v := .slice none 0 0) rfl fun a F => ?_
  refine as_ F (v := .int .i64 0) rfl fun a F => ?_
  refine rgend ?_
  refine wp_seq ?_
  refine rg ?_
  refine mv F rfl fun a F => ?_
  refine ls (qv F (r_lt (F.ev (x := .tmp 7) rfl) (F.ev (x := .const (.int .i64 0)) rfl)) fun a F => ?_)
  refine mv F rfl fun a F => ?_
  by_cases c1 : a1 < 0
  · rw [if_pos c1] at h
    rw [decide_eq_true c1] at F
    refine ls (off F fun a F => ?_)
    refine ls (off F fun a F => ?_)
    refine ls (off F fun a F => ?_)
    refine ls (off F fun a F => ?_)
    refine ls (off F fun a F => ?_)
    refine ls (off F fun a F => ?_)
    refine ls (off F fun a F => ?_)
    refine ls (qv F (r_pickT (F.ev (x := .tmp 9) rfl) (F.ev (x := .const (.bool true)) rfl)) fun a F => ?_)
    refine rgend ?_
    replace F := F.only [17, 0, 1] (l' := [(17, .bool true), (0, .pointer (some ⟨g0_, 0, none⟩)), (1, .int .i64 a1)]) rfl
    refine wp_cond_true (F.ev rfl) ?_
    refine rg ?_
    refine as_ F (v := .slice none 0 0) rfl fun a F => ?_
    refine as_ F (v := .int .i64 3) rfl fun a F => ?_
    refine rgend ?_
    refine wp_ret ?_
    replace H := H.nilOwn kByte 5
    try dsimp only at h
    obtain ⟨rfl, rfl⟩ := Prod.mk.inj (Option.some.inj h)
    exact RET _ _ (ret2 F rfl rfl rfl ⟨_, rfl, none, 0, rfl, H⟩)
  · rw [if_neg c1] at h
    rw [decide_eq_false c1] at F
    refine mv F rfl fun a F => ?_
    refine mv F rfl fun a F => ?_
    refine ls (qv F (r_nc (F.ev (x := .tmp 11) rfl)) fun a F => ?_)
    refine ls (qv F (r_fa (off := 0) (F.ev (x := .tmp 12) rfl) fa91_0) fun a F => ?_)
    obtain ⟨A2, c3, A4, c5, A6, c7, H⟩ := Hp.openO_ref15_Disk (H)
    refine ls (qv F (r_ld (F.ev (x := .tmp 13) rfl) (cel_cell (o := 0) (H.cell 0 rfl) rfl) one32) fun a F => ?_)
    refine ls (qv F (r_len (F.ev (x := .tmp 14) rfl) Try.underlying32) fun a F => ?_)
    refine ls (qv F (r_ge (F.ev (x := .tmp 10) rfl) (F.ev (x := .tmp 15) rfl)) fun a F => ?_)
    refine ls (qv F (r_pickF (F.ev (x := .tmp 9) rfl) (F.ev (x := .tmp 16) rfl)) fun a F => ?_)
    refine rgend ?_
    replace F := F.only [17, 0, 1] (l' := [(17, .bool (decide (a1 ≥ (a0.L.length : Int)))), (0, .pointer (some ⟨g0_, 0, none⟩)), (1, .int .i64 a1)]) rfl
    by_cases c8 : a1 ≥ (a0.L.length : Int)
    · rw [if_pos c8] at h
      rw [decide_eq_true c8] at F
      refine wp_cond_true (F.ev rfl) ?_
      refine rg ?_
      refine as_ F (v := .slice none 0 0) rfl fun a F => ?_
      refine as_ F (v := .int .i64 3) rfl fun a F => ?_
      refine rgend ?_
      refine wp_ret ?_
      replace H := H.nilOwn kByte 5
      replace H := Hp.closeO_ref15_Disk (x := a0) (H.f4.f4.f4.f4)
      try dsimp only at h
      obtain ⟨rfl, rfl⟩ := Prod.mk.inj (Option.some.inj h)
      exact RET _ _ (ret2 F rfl rfl rfl ⟨_, rfl, none, 0, rfl, H.f1⟩)
    · rw [if_neg c8] at h
      rw [decide_eq_false c8] at F
      refine wp_cond_false (F.ev rfl) ?_
      refine wp_skip ?_
      refine wp_seq ?_
      refine rg ?_
      refine mv F rfl fun a F => ?_
      refine ls (qv F (r_nc (F.ev (x := .tmp 18) rfl)) fun a F => ?_)
      refine ls (qv F (r_fa (off := 2) (F.ev (x := .tmp 19) rfl) fa91_2) fun a F => ?_)
      refine ls (qv F (r_ld (F.ev (x := .tmp 20) rfl) (cel_cell (o := 2) (H.cell 0 rfl) rfl) one89) fun a F => ?_)
      refine ls (qv F (r_len (F.ev (x := .tmp 21) rfl) Try.underlying89) fun a F => ?_)
      refine ls (qv F (r_sub (F.ev (x := .tmp 22) rfl) (F.ev (x := .const (.int .i64 1)) rfl)) fun a F => ?_)
      refine as_ F rfl fun a F => ?_
      refine rgend ?_
      replace F := F.only [6, 0, 1] (l' := [(6, .int .i64 (IntKind.i64.wrap ((a0.P.length : Int) - 1))), (0, .pointer (some ⟨g0_, 0, none⟩)), (1, .int .i64 a1)]) rfl
      replace H := Hp.closeO_ref15_Disk (x := a0) (H)
      obtain ⟨o_9, k_9, h⟩ := Option.bind_eq_some_iff.1 h
      refine cut (fun a w => Sum.inl () = o_9 ∧ Fr 64 [] [(0, .pointer (some ⟨g0_, 0, none⟩)), (1, .int .i64 a1)] a ∧ Hp w0 ps (obj_ref15_Disk g0_ a0 :: fs) w) (wp_block ?_) ?_
      · refine wloop (ref15_Disk_Read_b0 a0 a1) (fun (s : Int) a w => Fr 64 [] [(0, .pointer (some ⟨g0_, 0, none⟩)), (1, .int .i64 a1), (6, .int .i64 s)] a ∧ Hp w0 ps (obj_ref15_Disk g0_ a0 :: fs) w) k_9 ⟨F.only [0, 1, 6] rfl, H⟩ ?_
        rintro x9 a w q_9 j_9 u_9 ⟨F, H⟩
        unfold ref15_Disk_Read_b0 at j_9
        try dsimp only at j_9 F H
        refine wp_seq ?_
        refine rg ?_
        refine mv F rfl fun a F => ?_
        refine ls (qv F (r_ge (F.ev (x := .tmp 24) rfl) (F.ev (x := .const (.int .i64 0)) rfl)) fun a F => ?_)
        refine rgend ?_
        by_cases c11 : x9 ≥ 0
        · rw [if_pos c11] at j_9
          rw [decide_eq_true c11] at F
          refine wp_cond_true (F.ev rfl) ?_
          refine wp_skip ?_
          refine wp_seq ?_
          refine wp_block ?_
          refine rg ?_
          refine mv F rfl fun a F => ?_
          refine ls (qv F (r_nc (F.ev (x := .tmp 28) rfl)) fun a F => ?_)
          refine ls (qv F (r_fa (off := 2) (F.ev (x := .tmp 29) rfl) fa91_2) fun a F => ?_)
          obtain ⟨A12, c13, A14, c15, A16, c17, H⟩ := Hp.openO_ref15_Disk (H)
          refine ls (qv F (r_ld (F.ev (x := .tmp 30) rfl) (cel_cell (o := 2) (H.cell 0 rfl) rfl) one89) fun a F => ?_)
          refine mv F rfl fun a F => ?_
          obtain ⟨c18, j_9⟩ := guardO j_9
          obtain ⟨g19, s20, hA, hq22, hl21, H⟩ := H.ixOwn2 (⟨0, []⟩ : ref15_Write) 3 rfl (F.ev (x := .tmp 31) rfl) (F.ev (x := .tmp 32) rfl) Try.underlying89 sz95 (by decide) c18.1 c18.2
          have hA23 := hA
          obtain ⟨A24, c25, rfl, H⟩ := H.open_ref15_Write 0 rfl
          refine ls (qv F (hq22 _ _ _ _ _ _) fun a F => ?_)
          refine ls (qv F (r_fa (off := 0) (F.ev (x := .tmp 33) rfl) fa95_0) fun a F => ?_)
          refine ls (qv F (r_ld (F.ev (x := .tmp 34) rfl) (range_cell (j := 0) hl21 rfl) one3) fun a F => ?_)
          refine mv F rfl fun a F => ?_
          refine ls (qv F (r_eq (F.ev (x := .tmp 35) rfl) (F.ev (x := .tmp 36) rfl)) fun a F => ?_)
          refine rgend ?_
          replace F := F.only [37, 0, 1, 6] (l' := [(37, .bool (decide (((a0.P.getD (x9 : Int).toNat (⟨0, []⟩ : ref15_Write)).At) = a1))), (0, .pointer (some ⟨g0_, 0, none⟩)), (1, .int .i64 a1), (6, .int .i64 x9)]) rfl
          by_cases c26 : ((a0.P.getD (x9 : Int).toNat (⟨0, []⟩ : ref15_Write)).At) = a1
          · rw [if_pos c26] at j_9
            rw [decide_eq_true c26] at F
            refine wp_cond_true (F.ev rfl) ?_
            refine rg ?_
            refine ls (lbs F H (e := 5) (vs := []) (cs := []) rfl (fun w => by kernel_rfl) fun g27 w a H F => ?_)
            refine mv F rfl fun a F => ?_
            refine ls (qv F (r_nc (F.ev (x := .tmp 39) rfl)) fun a F => ?_)
            refine ls (qv F (r_fa (off := 2) (F.ev (x := .tmp 40) rfl) fa91_2) fun a F => ?_)
            refine ls (qv F (r_ld (F.ev (x := .tmp 41) rfl) (cel_cell (o := 2) (H.cell 1 rfl) rfl) one89) fun a F => ?_)
            refine mv F rfl fun a F => ?_
            obtain ⟨c28, j_9⟩ := guardO j_9
            obtain ⟨g29, s30, hA, hq32, hl31, H⟩ := H.ixOwn2 (⟨0, []⟩ : ref15_Write) 4 rfl (F.ev (x := .tmp 42) rfl) (F.ev (x := .tmp 43) rfl) Try.underlying89 sz95 (by decide) c28.1 c28.2
            have hA33 := hA
            obtain ⟨A34, c35, rfl, H⟩ := H.open_ref15_Write 0 rfl
            refine ls (qv F (hq32 _ _ _ _ _ _) fun a F => ?_)
            refine ls (qv F (r_fa (off := 1) (F.ev (x := .tmp 44) rfl) fa95_1) fun a F => ?_)
            refine ls (qv F (r_ld (F.ev (x := .tmp 45) rfl) (range_cell (j := 1) hl31 rfl) one23) fun a F => ?_)
            replace H := Hp.litOwn (kd := kByte) (xs := []) (H) (SayL.nil) (Nat.le_of_ble_eq_true rfl)
            obtain ⟨c36, j_9⟩ := guardO j_9
            obtain ⟨A37, c38, _, hr, H⟩ := Hp.appendRd (kd := kByte) (xs := []) (ys := (a0.P.getD (x9 : Int).toNat (⟨0, []⟩ : ref15_Write)).B) (H) 0 rfl (F.ev (x := .tmp 38) rfl) (F.ev (x := .tmp 46) rfl) Try.underlying23 ti5 rfl (by decide) (by decide) c36
            rw [List.nil_append] at hr H
            refine ls (qv F (hr _ _ _ _ _) fun a F => ?_)
            refine as_ F rfl fun a F => ?_
            refine as_ F (v := .int .i64 0) rfl fun a F => ?_
            refine rgend ?_
            replace F := F.only [5, 4] (l' := [(5, .int .i64 0), (4, .slice A37 ((a0.P.getD (x9 : Int).toNat (⟨0, []⟩ : ref15_Write)).B).length c38)]) rfl
            refine wp_ret ?_
            replace H := Hp.closeO_ref15_Disk (x := a0) (H.f4.f4.f4.f4)
            try dsimp only at j_9
            obtain rfl := Option.some.inj j_9
            obtain rfl := u_9 _ rfl
            try dsimp only at h
            obtain ⟨rfl, rfl⟩ := Prod.mk.inj (Option.some.inj h)
            exact RET _ _ (ret2 F rfl rfl rfl ⟨_, rfl, A37, c38, rfl, H.px3.px2.px1.px0.f1⟩)
          · rw [if_neg c26] at j_9
            rw [decide_eq_false c26] at F
            refine wp_cond_false (F.ev rfl) ?_
            refine wp_skip ?_
            refine wp_region_lit ?_
            refine mv F rfl fun a F => ?_
            refine ls (qv F (r_sub (F.ev (x := .tmp 26) rfl) (F.ev (x := .const (.int .i64 1)) rfl)) fun a F => ?_)
            refine as_ F rfl fun a F => ?_
            refine wpList_nil ?_
            replace F := F.only [6, 0, 1] (l' := [(6, .int .i64 (IntKind.i64.wrap (x9 - 1))), (0, .pointer (some ⟨g0_, 0, none⟩)), (1, .int .i64 a1)]) rfl
            replace H := Hp.closeO_ref15_Disk (x := a0) (H)
            try dsimp only at j_9
            obtain rfl := Option.some.inj j_9
            exact ⟨_, rfl, F.only [0, 1, 6] rfl, H.px1.px0⟩
        · rw [if_neg c11] at j_9
          rw [decide_eq_false c11] at F
          refine wp_cond_false (F.ev rfl) ?_
          refine wp_exit ?_
          try dsimp only at j_9
          obtain rfl := Option.some.inj j_9
          obtain rfl := u_9 _ rfl
          repeat (with_reducible refine exT ?_)
          with_reducible refine exB ?_
          exact ⟨rfl, F.only [0, 1] rfl, H⟩
      · rintro a w ⟨rfl, F, H⟩
        try dsimp only at h F H
        refine wp_seq ?_
        refine rg ?_
        refine mv F rfl fun a F => ?_
        refine ls (qv F (r_nc (F.ev (x := .tmp 48) rfl)) fun a F => ?_)
        refine ls (qv F (r_fa (off := 1) (F.ev (x := .tmp 49) rfl) fa91_1) fun a F => ?_)
        obtain ⟨A39, c40, A41, c42, A43, c44, H⟩ := Hp.openO_ref15_Disk (H)
        refine ls (qv F (r_ld (F.ev (x := .tmp 50) rfl) (cel_cell (o := 1) (H.cell 0 rfl) rfl) one54) fun a F => ?_)
        refine mv F rfl fun a F => ?_
        obtain ⟨c45, h⟩ := guardO h
        obtain ⟨g46, s47, hA, hq49, hl48, H⟩ := H.ixOwn2 false 2 rfl (F.ev (x := .tmp 51) rfl) (F.ev (x := .tmp 52) rfl) Try.underlying54 sz4 (by decide) c45.1 c45.2
        have hA50 := hA
        obtain rfl := H.says_bool 0 rfl
        refine ls (qv F (hq49 _ _ _ _ _ _) fun a F => ?_)
        refine ls (qv F (r_ld (F.ev (x := .tmp 53) rfl) (range_cell (j := 0) hl48 rfl) one4) fun a F => ?_)
        refine rgend ?_
        replace F := F.only [54, 0, 1] (l' := [(54, .bool ((a0.Torn.getD (a1 : Int).toNat false))), (0, .pointer (some ⟨g0_, 0, none⟩)), (1, .int .i64 a1)]) rfl
        by_cases c51 : ((a0.Torn.getD (a1 : Int).toNat false)) = true
        · rw [if_pos c51] at h
          rw [c51] at F
          refine wp_cond_true (F.ev rfl) ?_
          refine rg ?_
          refine as_ F (v := .slice none 0 0) rfl fun a F => ?_
          refine as_ F (v := .int .i64 41) rfl fun a F => ?_
          refine rgend ?_
          refine wp_ret ?_
          replace H := H.nilOwn kByte 5
          replace H := Hp.closeO_ref15_Disk (x := a0) (H.f4.f4.f4.f4)
          try dsimp only at h
          obtain ⟨rfl, rfl⟩ := Prod.mk.inj (Option.some.inj h)
          exact RET _ _ (ret2 F rfl rfl rfl ⟨_, rfl, none, 0, rfl, H.px0.f1⟩)
        · rw [if_neg c51] at h
          rw [Bool.eq_false_iff.2 c51] at F
          refine wp_cond_false (F.ev rfl) ?_
          refine wp_skip ?_
          refine rg ?_
          refine ls (lbs F H (e := 5) (vs := []) (cs := []) rfl (fun w => by kernel_rfl) fun g52 w a H F => ?_)
          refine mv F rfl fun a F => ?_
          refine ls (qv F (r_nc (F.ev (x := .tmp 56) rfl)) fun a F => ?_)
          refine ls (qv F (r_fa (off := 0) (F.ev (x := .tmp 57) rfl) fa91_0) fun a F => ?_)
          refine ls (qv F (r_ld (F.ev (x := .tmp 58) rfl) (cel_cell (o := 0) (H.cell 1 rfl) rfl) one32) fun a F => ?_)
          refine mv F rfl fun a F => ?_
          obtain ⟨c53, h⟩ := guardO h
          obtain ⟨g54, s55, hA, hq57, hl56, H⟩ := H.ixOwn2 [] 2 rfl (F.ev (x := .tmp 59) rfl) (F.ev (x := .tmp 60) rfl) Try.underlying32 sz23 (by decide) c53.1 c53.2
          have hA58 := hA
          obtain ⟨A59, c60, rfl, H⟩ := H.says_slice 0 rfl
          refine ls (qv F (hq57 _ _ _ _ _ _) fun a F => ?_)
          refine ls (qv F (r_ld (F.ev (x := .tmp 61) rfl) (range_cell (j := 0) hl56 rfl) one23) fun a F => ?_)
          replace H := Hp.litOwn (kd := kByte) (xs := []) (H) (SayL.nil) (Nat.le_of_ble_eq_true rfl)
          obtain ⟨c61, h⟩ := guardO h
          obtain ⟨A62, c63, _, hr, H⟩ := Hp.appendRd (kd := kByte) (xs := []) (ys := (a0.L.getD (a1 : Int).toNat [])) (H) 0 rfl (F.ev (x := .tmp 55) rfl) (F.ev (x := .tmp 62) rfl) Try.underlying23 ti5 rfl (by decide) (by decide) c61
          rw [List.nil_append] at hr H
          refine ls (qv F (hr _ _ _ _ _) fun a F => ?_)
          refine as_ F rfl fun a F => ?_
          refine as_ F (v := .int .i64 0) rfl fun a F => ?_
          refine rgend ?_
          replace F := F.only [5, 4] (l' := [(5, .int .i64 0), (4, .slice A62 ((a0.L.getD (a1 : Int).toNat [])).length c63)]) rfl
          refine wp_ret ?_
          replace H := Hp.closeO_ref15_Disk (x := a0) (H.f4.f4.f4.f4)
          try dsimp only at h
          obtain ⟨rfl, rfl⟩ := Prod.mk.inj (Option.some.inj h)
          exact RET _ _ (ret2 F rfl rfl rfl ⟨_, rfl, A62, c63, rfl, H.px2.px1.px0.f1⟩)
def ref15_Disk_Write_f (a0 : ref15_Disk) (a1 : Int) (a2 : List Int) : Option (Int × ref15_Disk) :=
  ((ref15_Disk_call_f a0).bind fun (x1, x2) => (if x1 = true then (if (a2.length : Int) ≠ 64 then some (1, x2) else (if a1 < 0 then some (3, x2) else (if a1 ≥ (x2.L.length : Int) then some (3, x2) else (if (0 + a2.length) * 1 ≤ 140737488355328 then (if (x2.P.length + 1) * 32 ≤ 140737488355328 then some ((0, (⟨x2.L, x2.Torn, (x2.P ++ ([(⟨a1, a2⟩ : ref15_Write)])), x2.Fused⟩ : ref15_Disk))) else none) else none)))) else some (42, x2)))
set_option maxHeartbeats 4000000 in
set_option maxRecDepth 20000 in
theorem ref15_Disk_Write_ok {w0 w : World} {ps : List PF} {fs : List SF} {a0 : ref15_Disk} {g0_ : Nat} {a1 : Int} {a2 : List Int} {A2_ : Option Addr} {c2_ : Nat} {r0 : Int} {s0 : ref15_Disk} (H : Hp w0 (rd kByte A2_ c2_ a2 :: ps) (obj_ref15_Disk g0_ a0 :: fs) w) (h : ref15_Disk_Write_f a0 a1 a2 = some (r0, s0)) :
    Calls Try.prog 33 [.pointer (some ⟨g0_, 0, none⟩), .int .i64 a1, .slice A2_ a2.length c2_].toArray w fun e w' => ∃ v, e = .returned v ∧ v = .int .i64 r0 ∧ Hp w0 ps (obj_ref15_Disk g0_ s0 :: fs) w' := by
  refine enter [.pointer (some ⟨g0_, 0, none⟩), .int .i64 a1, .slice A2_ a2.length c2_] 38 Try.func33 fun Q a NP RET NRM F => ?_
  replace NP : ∀ c a w, ¬ Q (.panic c) a w := fun c a w h => by rcases NP c a w h with h | ⟨w, v, h, _⟩ <;> cases h
  unfold ref15_Disk_Write_f at h
  refine rg ?_
  refine as_ F (v := .int .i64 0) rfl fun a F => ?_
  refine rgend ?_
  refine wp_seq ?_
  refine rg ?_
  refine mv F rfl fun a F => ?_
  obtain ⟨⟨x1, x2⟩, e3, h⟩ := Option.bind_eq_some_iff.1 h
  try dsimp only at h
  refine ls (call F Try.func62 (ref15_Disk_call_ok (H) e3) rfl rfl fun v w hR a F => ?_)
  obtain ⟨rfl, H⟩ := hR
  refine ls (qv F (r_not (F.ev (x := .tmp 8) rfl)) fun a F => ?_)
  refine rgend ?_
  by_cases c4 : x1 = true
  · rw [if_pos c4] at h
    rw [c4] at F
    refine wp_cond_false (F.ev rfl) ?_
    refine wp_skip ?_
    refine wp_seq ?_
    refine rg ?_
    refine mv F rfl fun a F => ?_
    refine ls (qv F (r_len (F.ev (x := .tmp 10) rfl) Try.underlying23) fun a F => ?_)
    refine ls (qv F (r_ne (F.ev (x := .tmp 11) rfl) (F.ev (x := .const (.int .i64 64)) rfl)) fun a F => ?_)
    refine rgend ?_
    replace F := F.only [12, 0, 1, 2] (l' := [(12, .bool (decide ((a2.length : Int) ≠ 64))), (0, .pointer (some ⟨g0_, 0, none⟩)), (1, .int .i64 a1), (2, .slice A2_ a2.length c2_)]) rfl
    by_cases c5 : (a2.length : Int) ≠ 64
    · rw [if_pos c5] at h
      rw [decide_eq_true c5] at F
      refine wp_cond_true (F.ev rfl) ?_
      refine rg ?_
      refine as_ F (v := .int .i64 1) rfl fun a F => ?_
      refine rgend ?_
      replace F := F.only [6] (l' := [(6, .int .i64 1)]) rfl
      refine wp_ret ?_
      try dsimp only at h
      obtain ⟨rfl, rfl⟩ := Prod.mk.inj (Option.some.inj h)
      exact RET _ _ (ret1 F rfl rfl ⟨_, rfl, rfl, H.px0⟩)
    · rw [if_neg c5] at h
      rw [decide_eq_false c5] at F
      refine wp_cond_false (F.ev rfl) ?_
      refine wp_skip ?_
      refine wp_seq ?_
      refine rg ?_
      refine mv F rfl fun a F => ?_
      refine ls (qv F (r_lt (F.ev (x := .tmp 13) rfl) (F.ev (x := .const (.int .i64 0)) rfl)) fun a F => ?_)
      refine mv F rfl fun a F => ?_
      by_cases c6 : a1 < 0
      · rw [if_pos c6] at h
        rw [decide_eq_true c6] at F
        refine ls (off F fun a F => ?_)
        refine ls (off F fun a F => ?_)
        refine ls (off F fun a F => ?_)
        refine ls (off F fun a F => ?_)
        refine ls (off F fun a F => ?_)
        refine ls (off F fun a F => ?_)
        refine ls (off F fun a F => ?_)
        refine ls (qv F (r_pickT (F.ev (x := .tmp 15) rfl) (F.ev (x := .const (.bool true)) rfl)) fun a F => ?_)
        refine rgend ?_
        replace F := F.only [23, 0, 1, 2] (l' := [(23, .bool true), (0, .pointer (some ⟨g0_, 0, none⟩)), (1, .int .i64 a1), (2, .slice A2_ a2.length c2_)]) rfl
        refine wp_cond_true (F.ev rfl) ?_
        refine rg ?_
        refine as_ F (v := .int .i64 3) rfl fun a F => ?_
        refine rgend ?_
        replace F := F.only [6] (l' := [(6, .int .i64 3)]) rfl
        refine wp_ret ?_
        try dsimp only at h
        obtain ⟨rfl, rfl⟩ := Prod.mk.inj (Option.some.inj h)
        exact RET _ _ (ret1 F rfl rfl ⟨_, rfl, rfl, H.px0⟩)
      · rw [if_neg c6] at h
        rw [decide_eq_false c6] at F
        refine mv F rfl fun a F => ?_
        refine mv F rfl fun a F => ?_
        refine ls (qv F (r_nc (F.ev (x := .tmp 17) rfl)) fun a F => ?_)
        refine ls (qv F (r_fa (off := 0) (F.ev (x := .tmp 18) rfl) fa91_0) fun a F => ?_)
        obtain ⟨A7, c8, A9, c10, A11, c12, H⟩ := Hp.openO_ref15_Disk (H)
        refine ls (qv F (r_ld (F.ev (x := .tmp 19) rfl) (cel_cell (o := 0) (H.cell 0 rfl) rfl) one32) fun a F => ?_)
        refine ls (qv F (r_len (F.ev (x := .tmp 20) rfl) Try.underlying32) fun a F => ?_)
        refine ls (qv F (r_ge (F.ev (x := .tmp 16) rfl) (F.ev (x := .tmp 21) rfl)) fun a F => ?_)
        refine ls (qv F (r_pickF (F.ev (x := .tmp 15) rfl) (F.ev (x := .tmp 22) rfl)) fun a F => ?_)
        refine rgend ?_
        replace F := F.only [23, 0, 1, 2] (l' := [(23, .bool (decide (a1 ≥ (x2.L.length : Int)))), (0, .pointer (some ⟨g0_, 0, none⟩)), (1, .int .i64 a1), (2, .slice A2_ a2.length c2_)]) rfl
        by_cases c13 : a1 ≥ (x2.L.length : Int)
        · rw [if_pos c13] at h
          rw [decide_eq_true c13] at F
          refine wp_cond_true (F.ev rfl) ?_
          refine rg ?_
          refine as_ F (v := .int .i64 3) rfl fun a F => ?_
          refine rgend ?_
          replace F := F.only [6] (l' := [(6, .int .i64 3)]) rfl
          refine wp_ret ?_
          replace H := Hp.closeO_ref15_Disk (x := x2) (H)
          try dsimp only at h
          obtain ⟨rfl, rfl⟩ := Prod.mk.inj (Option.some.inj h)
          exact RET _ _ (ret1 F rfl rfl ⟨_, rfl, rfl, H.px0⟩)
        · rw [if_neg c13] at h
          rw [decide_eq_false c13] at F
          refine wp_cond_false (F.ev rfl) ?_
          refine wp_skip ?_
          refine wp_seq ?_
          replace H := H.drew
          have HS := H.fx3.fx2.fx1
          refine dr (fun w => Hp w0 (rd kByte A2_ c2_ a2 :: ps) (cel g0_ [.slice A7 x2.L.length c8, .slice A9 x2.Torn.length c10, .slice A11 x2.P.length c12, .int .i64 x2.Fused] 91 :: fs) w) _ (by kernel_rfl) ?_ (n := 15)
          refine dq 0 F rfl (by kernel_rfl) NP HS (fun w S => (r_mv (F.ev (x := .tmp 0) rfl))) fun a F => ?_
          refine dq 1 F rfl (by kernel_rfl) NP HS (fun w S => (r_mv (F.ev (x := .tmp 0) rfl))) fun a F => ?_
          refine dq 2 F rfl (by kernel_rfl) NP HS (fun w S => (r_nc (F.ev (x := .tmp 25) rfl))) fun a F => ?_
          refine dq 3 F rfl (by kernel_rfl) NP HS (fun w S => (r_fa (off := 2) (F.ev (x := .tmp 26) rfl) fa91_2)) fun a F => ?_
          refine dq 4 F rfl (by kernel_rfl) NP HS (fun w S => (r_ld (F.ev (x := .tmp 27) rfl) (cel_cell (o := 2) (S.cell 0 rfl) rfl) one89)) fun a F => ?_
          refine dq 5 F rfl (by kernel_rfl) NP HS (fun w S => (r_mv (F.ev (x := .tmp 1) rfl))) fun a F => ?_
          refine dq 7 F rfl (by kernel_rfl) NP HS (fun w S => (r_mv (F.ev (x := .tmp 2) rfl))) fun a F => ?_
          refine d1 6 rfl (by kernel_rfl) (lbs F H (e := 5) (vs := []) (cs := []) rfl (fun w => by kernel_rfl) fun g14 w a H F => ?_)
          have HS := H.fx4.fx3.fx2.fx0
          refine kg _ HS (fun w S => S) ?_
          replace H := Hp.litOwn (kd := kByte) (xs := []) (H) (SayL.nil) (Nat.le_of_ble_eq_true rfl)
          obtain ⟨c15, h⟩ := guardO h
          obtain ⟨A16, c17, _, hr, H⟩ := Hp.appendRd (kd := kByte) (xs := []) (ys := a2) (H) 0 rfl (F.ev (x := .tmp 30) rfl) (F.ev (x := .tmp 31) rfl) Try.underlying23 ti5 rfl (by decide) (by decide) c15
          rw [List.nil_append] at hr H
          refine d1 8 rfl (by kernel_rfl) (qv F (hr _ _ _ _ _) fun a F => ?_)
          have HS := H.fx4.fx3.fx2.fx0
          refine kg _ HS (fun w S => S) ?_
          refine dq 9 F rfl (by kernel_rfl) NP HS (fun w S => (r_bd F (vs := [(0, .int .i64 a1), (1, .slice A16 a2.length c17)]) (cs := [.int .i64 a1, .slice A16 a2.length c17]) rfl (fun w => by kernel_rfl))) fun a F => ?_
          replace H := (H).freeze
          have HS := H.fx3.fx2.fx1
          refine dmoreH HS (fun w S => S.px0) ?_
          refine d1 10 rfl (by kernel_rfl) (lbs F H (e := 95) (vs := [(0, .agg #[.int .i64 a1, .slice A16 a2.length c17])]) (cs := [.int .i64 a1, .slice A16 a2.length c17]) rfl (fun w => by kernel_rfl) fun g18 w a H F => ?_)
          have HS := H.fx4.fx3.fx2.fx0
          refine kg _ HS (fun w S => S) ?_
          obtain ⟨c19, h⟩ := guardO h
          obtain ⟨A20, c21, _, hr, H⟩ := Hp.appendCelL (kd := k_ref15_Write) (xs := x2.P) (ys := [(⟨a1, a2⟩ : ref15_Write)]) (H.f3.f3.f3.f3.f4) (F.ev (x := .tmp 28) rfl) (F.ev (x := .tmp 34) rfl) Try.underlying89 ti95 rfl (by decide) (by decide) rfl ((SayL.cons (kd := k_ref15_Write) (c1 := [.int .i64 a1, .slice A16 a2.length c17]) (y := (⟨a1, a2⟩ : ref15_Write)) (fun Z hp => ⟨A16, c17, rfl, pat hp 0 rfl⟩) SayL.nil)) c19
          refine d1 11 rfl (by kernel_rfl) (qv F (hr _ _ _ _ _) fun a F => ?_)
          have HS := H.fx3.fx2.fx0
          refine kg _ HS (fun w S => S) ?_
          refine dq 12 F rfl (by kernel_rfl) NP HS (fun w S => (r_nc (F.ev (x := .tmp 24) rfl))) fun a F => ?_
          refine dq 13 F rfl (by kernel_rfl) NP HS (fun w S => (r_fa (off := 2) (F.ev (x := .tmp 36) rfl) fa91_2)) fun a F => ?_
          obtain ⟨_, hr, H⟩ := Hp.store (t := 89) (o := 2) (n := 1) (vs := [.slice A20 ((x2.P ++ ([(⟨a1, a2⟩ : ref15_Write)]))).length c21]) (cs' := [.slice A7 x2.L.length c8, .slice A9 x2.Torn.length c10, .slice A20 ((x2.P ++ ([(⟨a1, a2⟩ : ref15_Write)]))).length c21, .int .i64 x2.Fused]) (H.f3.f3.f2.f3) (F.ev (x := .tmp 37) rfl) (F.ev (x := .tmp 35) rfl) rfl sz89 rfl (Nat.le_of_ble_eq_true rfl) rfl rfl
          refine d1 14 rfl (by kernel_rfl) (qn F (.inl rfl) (hr _ _ _ _) fun a F => ?_)
          have HS := H.fx3.fx2.fx1
          refine kga (by kernel_rfl) HS ?_
          refine ddone (by kernel_rfl) ?_
          replace F := F.only [] (l' := []) rfl
          refine rg ?_
          refine as_ F (v := .int .i64 0) rfl fun a F => ?_
          refine rgend ?_
          refine wp_ret ?_
          replace H := Hp.closeO_ref15_Disk (x := (⟨x2.L, x2.Torn, (x2.P ++ ([(⟨a1, a2⟩ : ref15_Write)])), x2.Fused⟩ : ref15_Disk)) (H.f1.f3.f3.f3)
          try dsimp only at h
          obtain ⟨rfl, rfl⟩ := Prod.mk.inj (Option.some.inj h)
          exact RET _ _ (ret1 F rfl rfl ⟨_, rfl, rfl, H.px1.px0⟩)
  · rw [if_neg c4] at h
    rw [Bool.eq_false_iff.2 c4] at F
    refine wp_cond_true (F.ev rfl) ?_
    refine rg ?_
    refine as_ F (v := .int .i64 42) rfl fun a F => ?_
    refine rgend ?_
    replace F := F.only [6] (l' := [(6, .int .i64 42)]) rfl
    refine wp_ret ?_
    try dsimp only at h
    obtain ⟨rfl, rfl⟩ := Prod.mk.inj (Option.some.inj h)
    exact RET _ _ (ret1 F rfl rfl ⟨_, rfl, rfl, H.px0⟩)
def ref15_Disk_Fuse_f (a0 : ref15_Disk) (a1 : Int) : Option (ref15_Disk) :=
  some (((⟨a0.L, a0.Torn, a0.P, max a1 (-1)⟩ : ref15_Disk)))
set_option maxHeartbeats 4000000 in
set_option maxRecDepth 20000 in
theorem ref15_Disk_Fuse_ok {w0 w : World} {ps : List PF} {fs : List SF} {a0 : ref15_Disk} {g0_ : Nat} {a1 : Int} {s0 : ref15_Disk} (H : Hp w0 ps (obj_ref15_Disk g0_ a0 :: fs) w) (h : ref15_Disk_Fuse_f a0 a1 = some s0) :
    Calls Try.prog 28 [.pointer (some ⟨g0_, 0, none⟩), .int .i64 a1].toArray w fun e w' => ∃ v, e = .returned v ∧ v = .tuple #[] ∧ Hp w0 ps (obj_ref15_Disk g0_ s0 :: fs) w' := by
  refine enter [.pointer (some ⟨g0_, 0, none⟩), .int .i64 a1] 9 Try.func28 fun Q a NP RET NRM F => ?_
  replace NP : ∀ c a w, ¬ Q (.panic c) a w := fun c a w h => by rcases NP c a w h with h | ⟨w, v, h, _⟩ <;> cases h
  unfold ref15_Disk_Fuse_f at h
  refine wp_region_lit ?_
  refine mv F rfl fun a F => ?_
  refine mv F rfl fun a F => ?_
  refine ls (qv F (r_max (F.ev (x := .tmp 5) rfl) (F.ev (x := .const (.int .i64 (-1))) rfl)) fun a F => ?_)
  refine ls (qv F (r_nc (F.ev (x := .tmp 4) rfl)) fun a F => ?_)
  refine ls (qv F (r_fa (off := 3) (F.ev (x := .tmp 7) rfl) fa91_3) fun a F => ?_)
  obtain ⟨A1, c2, A3, c4, A5, c6, H⟩ := Hp.openO_ref15_Disk (H)
  obtain ⟨_, hr, H⟩ := Hp.store (t := 3) (o := 3) (n := 1) (vs := [.int .i64 (max a1 (-1))]) (cs' := [.slice A1 a0.L.length c2, .slice A3 a0.Torn.length c4, .slice A5 a0.P.length c6, .int .i64 (max a1 (-1))]) (H) (F.ev (x := .tmp 8) rfl) (F.ev (x := .tmp 6) rfl) rfl sz3 rfl (Nat.le_of_ble_eq_true rfl) rfl rfl
  refine ls (qn F (.inl rfl) (hr _ _ _ _) fun a F => ?_)
  refine wpList_nil ?_
  replace F := F.only [] (l' := []) rfl
  replace H := Hp.closeO_ref15_Disk (x := (⟨a0.L, a0.Torn, a0.P, max a1 (-1)⟩ : ref15_Disk)) (H)
  try dsimp only at h
  obtain rfl := Option.some.inj h
  exact NRM _ _ (ret0 F rfl ⟨_, rfl, rfl, H⟩)
def ref15_Disk_Crash_b0 (a1 : List Bool) (a2 : Int) : (Int × ref15_Disk) → Option (Int × ref15_Disk ⊕ ref15_Disk)
  | (x1, x2) => (if x1 < (x2.P.length : Int) then (((if x1 = a2 then (if 0 ≤ x1 ∧ x1 < (x2.P.length : Int) then (if 0 ≤ (x2.P.getD (x1 : Int).toNat (⟨0, []⟩ : ref15_Write)).At ∧ (x2.P.getD (x1 : Int).toNat (⟨0, []⟩ : ref15_Write)).At < (x2.Torn.length : Int) then some (((⟨x2.L, (x2.Torn.set ((x2.P.getD (x1 : Int).toNat (⟨0, []⟩ : ref15_Write)).At : Int).toNat true), x2.P, x2.Fused⟩ : ref15_Disk))) else none) else none) else (((if x1 < (a1.length : Int) then (if 0 ≤ x1 ∧ x1 < (a1.length : Int) then some (((a1.getD (x1 : Int).toNat false))) else none) else some false) : Option (Bool)).bind fun x28 => (((if x28 = true then (if 0 ≤ x1 ∧ x1 < (x2.P.length : Int) then ((ref15_Disk_laid_f x2 ((x2.P.getD (x1 : Int).toNat (⟨0, []⟩ : ref15_Write)))).bind fun x52 => some x52) else none) else some x2) : Option (ref15_Disk)).bind fun x35 => some x35))) : Option (ref15_Disk)).bind fun x12 => some (.inl (IntKind.i64.wrap (x1 + 1), x12))) else some (.inr x2))
def ref15_Disk_Crash_f (a0 : ref15_Disk) (a1 : List Bool) (a2 : Int) : Option (ref15_Disk) :=
  ((lp (ref15_Disk_Crash_b0 a1 a2) (0, a0)).bind fun x3 => some (((⟨x3.L, x3.Torn, [], (-1)⟩ : ref15_Disk))))
set_option maxHeartbeats 4000000 in
set_option maxRecDepth 20000 in
theorem ref15_Disk_Crash_ok {w0 w : World} {ps : List PF} {fs : List SF} {a0 : ref15_Disk} {g0_ : Nat} {a1 : List Bool} {A1_ : Option Addr} {c1_ : Nat} {a2 : Int} {s0 : ref15_Disk} (H : Hp w0 (rd kBool A1_ c1_ a1 :: ps) (obj_ref15_Disk g0_ a0 :: fs) w) (h : ref15_Disk_Crash_f a0 a1 a2 = some s0) :
    Calls Try.prog 34 [.pointer (some ⟨g0_, 0, none⟩), .slice A1_ a1.length c1_, .int .i64 a2].toArray w fun e w' => ∃ v, e = .returned v ∧ v = .tuple #[] ∧ Hp w0 ps (obj_ref15_Disk g0_ s0 :: fs) w' := by
  refine enter [.pointer (some ⟨g0_, 0, none⟩), .slice A1_ a1.length c1_, .int .i64 a2] 57 Try.func34 fun Q a NP RET NRM F => ?_
  replace NP : ∀ c a w, ¬ Q (.panic c) a w := fun c a w h => by rcases NP c a w h with h | ⟨w, v, h, _⟩ <;> cases h
  unfold ref15_Disk_Crash_f at h
  refine wp_seq ?_
  refine rg ?_
  refine as_ F (v := .int .i64 0) rfl fun a F => ?_
  refine rgend ?_
  obtain ⟨o_3, k_3, h⟩ := Option.bind_eq_some_iff.1 h
  refine cut (fun a w => ∃ (x3 : ref15_Disk), x3 = o_3 ∧ Fr 57 [] [(0, .pointer (some ⟨g0_, 0, none⟩))] a ∧ Hp w0 ps (obj_ref15_Disk g0_ x3 :: fs) w) (wp_block ?_) ?_
  · refine wloop (ref15_Disk_Crash_b0 a1 a2) (fun (s : Int × ref15_Disk) a w => Fr 57 [] [(0, .pointer (some ⟨g0_, 0, none⟩)), (1, .slice A1_ a1.length c1_), (2, .int .i64 a2), (6, .int .i64 s.1)] a ∧ Hp w0 (rd kBool A1_ c1_ a1 :: ps) (obj_ref15_Disk g0_ s.2 :: fs) w) k_3 ⟨F.only [0, 1, 2, 6] rfl, H⟩ ?_
    rintro ⟨x1, x2⟩ a w q_3 j_3 u_3 ⟨F, H⟩
    unfold ref15_Disk_Crash_b0 at j_3
    try dsimp only at j_3 F H
    refine wp_seq ?_
    refine rg ?_
    refine mv F rfl fun a F => ?_
    refine mv F rfl fun a F => ?_
    refine ls (qv F (r_nc (F.ev (x := .tmp 8) rfl)) fun a F => ?_)
    refine ls (qv F (r_fa (off := 2) (F.ev (x := .tmp 9) rfl) fa91_2) fun a F => ?_)
    obtain ⟨A5, c6, A7, c8, A9, c10, H⟩ := Hp.openO_ref15_Disk (H)
    refine ls (qv F (r_ld (F.ev (x := .tmp 10) rfl) (cel_cell (o := 2) (H.cell 0 rfl) rfl) one89) fun a F => ?_)
    refine ls (qv F (r_len (F.ev (x := .tmp 11) rfl) Try.underlying89) fun a F => ?_)
    refine ls (qv F (r_lt (F.ev (x := .tmp 7) rfl) (F.ev (x := .tmp 12) rfl)) fun a F => ?_)
    refine rgend ?_
    replace F := F.only [13, 0, 1, 2, 6] (l' := [(13, .bool (decide (x1 < (x2.P.length : Int)))), (0, .pointer (some ⟨g0_, 0, none⟩)), (1, .slice A1_ a1.length c1_), (2, .int .i64 a2), (6, .int .i64 x1)]) rfl
    by_cases c11 : x1 < (x2.P.length : Int)
    · rw [if_pos c11] at j_3
      rw [decide_eq_true c11] at F
      refine wp_cond_true (F.ev rfl) ?_
      refine wp_skip ?_
      refine wp_seq ?_
      refine wp_block ?_
      refine rg ?_
      refine mv F rfl fun a F => ?_
      refine mv F rfl fun a F => ?_
      refine ls (qv F (r_eq (F.ev (x := .tmp 16) rfl) (F.ev (x := .tmp 17) rfl)) fun a F => ?_)
      refine rgend ?_
      obtain ⟨o_12, k_12, j_3⟩ := Option.bind_eq_some_iff.1 j_3
      refine cut (fun a w => ∃ (x12 : ref15_Disk), x12 = o_12 ∧ Fr 57 [] [(0, .pointer (some ⟨g0_, 0, none⟩)), (1, .slice A1_ a1.length c1_), (2, .int .i64 a2), (6, .int .i64 x1)] a ∧ Hp w0 (rd kBool A1_ c1_ a1 :: ps) (obj_ref15_Disk g0_ x12 :: fs) w) ?_ ?_
      · skip
        by_cases c14 : x1 = a2
        · rw [if_pos c14] at k_12
          rw [decide_eq_true c14] at F
          refine wp_cond_true (F.ev rfl) ?_
          replace H := H.drew
          have HS := H.fx2.fx1
          refine dr (fun w => Hp w0 (rd kBool A1_ c1_ a1 :: ps) (cel g0_ [.slice A5 x2.L.length c6, .slice A7 x2.Torn.length c8, .slice A9 x2.P.length c10, .int .i64 x2.Fused] 91 :: own k_ref15_Write 95 A9 c10 x2.P :: fs) w) _ (by kernel_rfl) ?_ (n := 14)
          refine dq 0 F rfl (by kernel_rfl) NP HS (fun w S => (r_mv (F.ev (x := .tmp 0) rfl))) fun a F => ?_
          refine dq 1 F rfl (by kernel_rfl) NP HS (fun w S => (r_nc (F.ev (x := .tmp 19) rfl))) fun a F => ?_
          refine dq 2 F rfl (by kernel_rfl) NP HS (fun w S => (r_fa (off := 1) (F.ev (x := .tmp 20) rfl) fa91_1)) fun a F => ?_
          refine dq 3 F rfl (by kernel_rfl) NP HS (fun w S => (r_ld (F.ev (x := .tmp 21) rfl) (cel_cell (o := 1) (S.cell 0 rfl) rfl) one54)) fun a F => ?_
          refine dq 4 F rfl (by kernel_rfl) NP HS (fun w S => (r_mv (F.ev (x := .tmp 0) rfl))) fun a F => ?_
          refine dq 5 F rfl (by kernel_rfl) NP HS (fun w S => (r_nc (F.ev (x := .tmp 23) rfl))) fun a F => ?_
          refine dq 6 F rfl (by kernel_rfl) NP HS (fun w S => (r_fa (off := 2) (F.ev (x := .tmp 24) rfl) fa91_2)) fun a F => ?_
          refine dq 7 F rfl (by kernel_rfl) NP HS (fun w S => (r_ld (F.ev (x := .tmp 25) rfl) (cel_cell (o := 2) (S.cell 0 rfl) rfl) one89)) fun a F => ?_
          refine dq 8 F rfl (by kernel_rfl) NP HS (fun w S => (r_mv (F.ev (x := .tmp 6) rfl))) fun a F => ?_
          obtain ⟨c15, k_12⟩ := guardO k_12
          obtain ⟨g16, s17, hA, hq19, hl18, H⟩ := H.ixOwn2 (⟨0, []⟩ : ref15_Write) 3 rfl (F.ev (x := .tmp 26) rfl) (F.ev (x := .tmp 27) rfl) Try.underlying89 sz95 (by decide) c15.1 c15.2
          have hA20 := hA
          obtain ⟨A21, c22, rfl, H⟩ := H.open_ref15_Write 0 rfl
          have HS := H.fx2.fx1
          refine dmoreH HS (fun w S => S.px1.px0) ?_
          refine dq 9 F rfl (by kernel_rfl) NP HS (fun w S => (hq19 _ _ _ _ _ _)) fun a F => ?_
          refine dq 10 F rfl (by kernel_rfl) NP HS (fun w S => (r_fa (off := 0) (F.ev (x := .tmp 28) rfl) fa95_0)) fun a F => ?_
          refine dq 11 F rfl (by kernel_rfl) NP HS (fun w S => (by obtain ⟨cs, Z, hrg, hok⟩ := S.ownAt2 (⟨0, []⟩ : ref15_Write) (j := x1) 1 rfl hA20 c15.1 c15.2; obtain ⟨_, _, rfl, _⟩ := hok; exact r_ld (F.ev (x := .tmp 29) rfl) (range_cell (j := 0) hrg rfl) one3)) fun a F => ?_
          obtain ⟨c23, k_12⟩ := guardO k_12
          obtain ⟨g24, s25, hA, hq27, hl26, H⟩ := H.ixOwn2 false 2 rfl (F.ev (x := .tmp 22) rfl) (F.ev (x := .tmp 30) rfl) Try.underlying54 sz4 (by decide) c23.1 c23.2
          cases hA
          obtain rfl := H.says_bool 0 rfl
          have HS := H.fx2.fx1
          refine dmoreH HS (fun w S => S.px0) ?_
          refine dq 12 F rfl (by kernel_rfl) NP HS (fun w S => (hq27 _ _ _ _ _ _)) fun a F => ?_
          obtain ⟨_, hr, H⟩ := Hp.setOwn (kd := kBool) (xs := x2.Torn) (j := ((x2.P.getD (x1 : Int).toNat (⟨0, []⟩ : ref15_Write)).At : Int).toNat) (x1 := true) (H.f3.f2.f2.f3) (F.ev (x := .tmp 31) rfl) (F.ev (x := .const (.bool true)) rfl) rfl sz4 (by have := c23; omega) (fun Z hp => rfl)
          refine d1 13 rfl (by kernel_rfl) (qn F (.inl rfl) (hr _ _ _ _) fun a F => ?_)
          replace F := F.only [31, 30, 29, 28, 27, 26, 25, 24, 23, 22, 21, 20, 19, 18, 17, 16, 13, 0, 1, 2, 6] (l' := [(31, .pointer (some ⟨g24, ((x2.P.getD (x1 : Int).toNat (⟨0, []⟩ : ref15_Write)).At : Int).toNat * kBool.sz, none⟩)), (30, .int .i64 ((x2.P.getD (x1 : Int).toNat (⟨0, []⟩ : ref15_Write)).At)), (29, .pointer (some ⟨g16, (x1 : Int).toNat * k_ref15_Write.sz + 0, none⟩)), (28, .pointer (some ⟨g16, (x1 : Int).toNat * k_ref15_Write.sz, none⟩)), (27, .int .i64 x1), (26, .slice A9 x2.P.length c10), (25, .pointer (some ⟨g0_, 2, none⟩)), (24, .pointer (some ⟨g0_, 0, none⟩)), (23, .pointer (some ⟨g0_, 0, none⟩)), (22, .slice (some ⟨g24, 0, none⟩) ((x2.Torn.set ((x2.P.getD (x1 : Int).toNat (⟨0, []⟩ : ref15_Write)).At : Int).toNat true)).length c8), (21, .pointer (some ⟨g0_, 1, none⟩)), (20, .pointer (some ⟨g0_, 0, none⟩)), (19, .pointer (some ⟨g0_, 0, none⟩)), (18, .bool true), (17, .int .i64 a2), (16, .int .i64 x1), (13, .bool true), (0, .pointer (some ⟨g0_, 0, none⟩)), (1, .slice A1_ a1.length c1_), (2, .int .i64 a2), (6, .int .i64 x1)]) (by (try simp only [List.length_set]); rfl)
          replace H : Hp w0 (says kBool [.bool ((x2.Torn.getD ((x2.P.getD (x1 : Int).toNat (⟨0, []⟩ : ref15_Write)).At : Int).toNat false))] ((x2.Torn.getD ((x2.P.getD (x1 : Int).toNat (⟨0, []⟩ : ref15_Write)).At : Int).toNat false)) :: rd kByte A21 c22 ((x2.P.getD (x1 : Int).toNat (⟨0, []⟩ : ref15_Write)).B) :: says k_ref15_Write [.int .i64 ((x2.P.getD (x1 : Int).toNat (⟨0, []⟩ : ref15_Write)).At), .slice A21 ((x2.P.getD (x1 : Int).toNat (⟨0, []⟩ : ref15_Write)).B).length c22] ((x2.P.getD (x1 : Int).toNat (⟨0, []⟩ : ref15_Write))) :: rd kBool A1_ c1_ a1 :: ps) (own kBool 4 (some ⟨g24, 0, none⟩) c8 ((x2.Torn.set ((x2.P.getD (x1 : Int).toNat (⟨0, []⟩ : ref15_Write)).At : Int).toNat true)) :: cel g0_ [.slice A5 x2.L.length c6, .slice (some ⟨g24, 0, none⟩) ((x2.Torn.set ((x2.P.getD (x1 : Int).toNat (⟨0, []⟩ : ref15_Write)).At : Int).toNat true)).length c8, .slice A9 x2.P.length c10, .int .i64 x2.Fused] 91 :: own (kSlice kByte) 23 A5 c6 x2.L :: own k_ref15_Write 95 A9 c10 x2.P :: fs) _ := (by (try simp only [List.length_set] at H); (try simp only [List.length_set]); exact H)
          have HS := H.fx3.fx2.fx0
          refine kga (by kernel_rfl) HS ?_
          refine ddone (by kernel_rfl) ?_
          replace F := F.only [0, 1, 2, 6] (l' := [(0, .pointer (some ⟨g0_, 0, none⟩)), (1, .slice A1_ a1.length c1_), (2, .int .i64 a2), (6, .int .i64 x1)]) rfl
          replace H := Hp.closeO_ref15_Disk (x := (⟨x2.L, (x2.Torn.set ((x2.P.getD (x1 : Int).toNat (⟨0, []⟩ : ref15_Write)).At : Int).toNat true), x2.P, x2.Fused⟩ : ref15_Disk)) (H.f3.f1.f3.f3)
          try dsimp only at k_12
          obtain rfl := Option.some.inj k_12
          exact ⟨_, rfl, F.only [0, 1, 2, 6] rfl, H.px2.px1.px0⟩
        · rw [if_neg c14] at k_12
          rw [decide_eq_false c14] at F
          refine wp_cond_false (F.ev rfl) ?_
          refine wp_seq ?_
          obtain ⟨o_28, k_28, k_12⟩ := Option.bind_eq_some_iff.1 k_12
          refine cut (fun a w => ∃ (x28 : Bool), x28 = o_28 ∧ Fr 57 [] [(0, .pointer (some ⟨g0_, 0, none⟩)), (1, .slice A1_ a1.length c1_), (2, .int .i64 a2), (6, .int .i64 x1), (41, .bool x28)] a ∧ Hp w0 (rd kBool A1_ c1_ a1 :: ps) (obj_ref15_Disk g0_ x2 :: fs) w) ?_ ?_
          · skip
            refine wp_region_lit ?_
            refine mv F rfl fun a F => ?_
            refine mv F rfl fun a F => ?_
            refine ls (qv F (r_len (F.ev (x := .tmp 33) rfl) Try.underlying54) fun a F => ?_)
            refine ls (qv F (r_lt (F.ev (x := .tmp 32) rfl) (F.ev (x := .tmp 34) rfl)) fun a F => ?_)
            refine mv F rfl fun a F => ?_
            by_cases c30 : x1 < (a1.length : Int)
            · rw [if_pos c30] at k_28
              rw [decide_eq_true c30] at F
              refine mv F rfl fun a F => ?_
              refine mv F rfl fun a F => ?_
              obtain ⟨c31, k_28⟩ := guardO k_28
              obtain ⟨g32, o33, s34, hr, H⟩ := H.ix false 0 rfl (F.ev (x := .tmp 37) rfl) (F.ev (x := .tmp 38) rfl) Try.underlying54 sz4 (by decide) c31.1 c31.2
              obtain rfl := H.says_bool 1 rfl
              refine ls (qv F (hr _ _ _ _ _ _) fun a F => ?_)
              refine ls (qv F (r_ld (F.ev (x := .tmp 39) rfl) (range_cell (j := 0) (H.range 0 rfl) rfl) one4) fun a F => ?_)
              refine ls (qv F (r_pickT (F.ev (x := .tmp 36) rfl) (F.ev (x := .tmp 40) rfl)) fun a F => ?_)
              refine wpList_nil ?_
              replace F := F.only [41, 0, 1, 2, 6] (l' := [(41, .bool ((a1.getD (x1 : Int).toNat false))), (0, .pointer (some ⟨g0_, 0, none⟩)), (1, .slice A1_ a1.length c1_), (2, .int .i64 a2), (6, .int .i64 x1)]) rfl
              replace H := Hp.closeO_ref15_Disk (x := x2) (H)
              try dsimp only at k_28
              obtain rfl := Option.some.inj k_28
              exact ⟨_, rfl, F.only [0, 1, 2, 6, 41] rfl, H.px1.px0⟩
            · rw [if_neg c30] at k_28
              rw [decide_eq_false c30] at F
              refine ls (off F fun a F => ?_)
              refine ls (off F fun a F => ?_)
              refine ls (off F fun a F => ?_)
              refine ls (off F fun a F => ?_)
              refine ls (qv F (r_pickF (F.ev (x := .tmp 36) rfl) (F.ev (x := .const (.bool false)) rfl)) fun a F => ?_)
              refine wpList_nil ?_
              replace F := F.only [41, 0, 1, 2, 6] (l' := [(41, .bool false), (0, .pointer (some ⟨g0_, 0, none⟩)), (1, .slice A1_ a1.length c1_), (2, .int .i64 a2), (6, .int .i64 x1)]) rfl
              replace H := Hp.closeO_ref15_Disk (x := x2) (H)
              try dsimp only at k_28
              obtain rfl := Option.some.inj k_28
              exact ⟨_, rfl, F.only [0, 1, 2, 6, 41] rfl, H⟩
          · rintro a w ⟨x28, rfl, F, H⟩
            try dsimp only at k_12 F H
            obtain ⟨o_35, k_35, k_12⟩ := Option.bind_eq_some_iff.1 k_12
            refine cut (fun a w => ∃ (x35 : ref15_Disk), x35 = o_35 ∧ Fr 57 [] [(0, .pointer (some ⟨g0_, 0, none⟩)), (1, .slice A1_ a1.length c1_), (2, .int .i64 a2), (6, .int .i64 x1)] a ∧ Hp w0 (rd kBool A1_ c1_ a1 :: ps) (obj_ref15_Disk g0_ x35 :: fs) w) ?_ ?_
            · skip
              by_cases c37 : x28 = true
              · rw [if_pos c37] at k_35
                rw [c37] at F
                refine wp_cond_true (F.ev rfl) ?_
                refine wp_region_lit ?_
                refine mv F rfl fun a F => ?_
                refine mv F rfl fun a F => ?_
                refine ls (qv F (r_nc (F.ev (x := .tmp 43) rfl)) fun a F => ?_)
                refine ls (qv F (r_fa (off := 2) (F.ev (x := .tmp 44) rfl) fa91_2) fun a F => ?_)
                obtain ⟨A38, c39, A40, c41, A42, c43, H⟩ := Hp.openO_ref15_Disk (H)
                refine ls (qv F (r_ld (F.ev (x := .tmp 45) rfl) (cel_cell (o := 2) (H.cell 0 rfl) rfl) one89) fun a F => ?_)
                refine mv F rfl fun a F => ?_
                obtain ⟨c44, k_35⟩ := guardO k_35
                obtain ⟨g45, s46, hA, hq48, hl47, H⟩ := H.ixOwn2 (⟨0, []⟩ : ref15_Write) 3 rfl (F.ev (x := .tmp 46) rfl) (F.ev (x := .tmp 47) rfl) Try.underlying89 sz95 (by decide) c44.1 c44.2
                have hA49 := hA
                obtain ⟨A50, c51, rfl, H⟩ := H.open_ref15_Write 0 rfl
                refine ls (qv F (hq48 _ _ _ _ _ _) fun a F => ?_)
                refine ls (qv F (r_ldA (F.ev (x := .tmp 48) rfl) hl47 agg95 rfl) fun a F => ?_)
                replace H := Hp.closeO_ref15_Disk (x := x2) (H)
                obtain ⟨x52, e53, k_35⟩ := Option.bind_eq_some_iff.1 k_35
                try dsimp only at k_35
                refine ls (call F Try.func63 (ref15_Disk_laid_ok (a1 := (x2.P.getD (x1 : Int).toNat (⟨0, []⟩ : ref15_Write))) (H.p0) e53) rfl rfl fun v w hR a F => ?_)
                obtain ⟨rfl, H⟩ := hR
                refine wpList_nil ?_
                replace F := F.only [0, 1, 2, 6] (l' := [(0, .pointer (some ⟨g0_, 0, none⟩)), (1, .slice A1_ a1.length c1_), (2, .int .i64 a2), (6, .int .i64 x1)]) rfl
                try dsimp only at k_35
                obtain rfl := Option.some.inj k_35
                exact ⟨_, rfl, F.only [0, 1, 2, 6] rfl, H.px1.px0⟩
              · rw [if_neg c37] at k_35
                rw [Bool.eq_false_iff.2 c37] at F
                refine wp_cond_false (F.ev rfl) ?_
                refine wp_skip ?_
                try dsimp only at k_35
                obtain rfl := Option.some.inj k_35
                exact ⟨_, rfl, F.only [0, 1, 2, 6] rfl, H⟩
            · rintro a w ⟨x35, rfl, F, H⟩
              try dsimp only at k_12 F H
              try dsimp only at k_12
              obtain rfl := Option.some.inj k_12
              exact ⟨_, rfl, F.only [0, 1, 2, 6] rfl, H⟩
      · rintro a w ⟨x12, rfl, F, H⟩
        try dsimp only at j_3 F H
        refine wp_region_lit ?_
        refine mv F rfl fun a F => ?_
        refine ls (qv F (r_add (F.ev (x := .tmp 14) rfl) (F.ev (x := .const (.int .i64 1)) rfl)) fun a F => ?_)
        refine as_ F rfl fun a F => ?_
        refine wpList_nil ?_
        try dsimp only at j_3
        obtain rfl := Option.some.inj j_3
        exact ⟨_, rfl, F.only [0, 1, 2, 6] rfl, H⟩
    · rw [if_neg c11] at j_3
      rw [decide_eq_false c11] at F
      refine wp_cond_false (F.ev rfl) ?_
      refine wp_exit ?_
      replace H := Hp.closeO_ref15_Disk (x := x2) (H)
      try dsimp only at j_3
      obtain rfl := Option.some.inj j_3
      obtain rfl := u_3 _ rfl
      repeat (with_reducible refine exT ?_)
      with_reducible refine exB ?_
      exact ⟨_, rfl, F.only [0] rfl, H.px0⟩
  · rintro a w ⟨x3, rfl, F, H⟩
    try dsimp only at h F H
    refine rg ?_
    refine mv F rfl fun a F => ?_
    refine ls (qv F (r_nc (F.ev (x := .tmp 51) rfl)) fun a F => ?_)
    refine ls (qv F (r_fa (off := 2) (F.ev (x := .tmp 52) rfl) fa91_2) fun a F => ?_)
    obtain ⟨A54, c55, A56, c57, A58, c59, H⟩ := Hp.openO_ref15_Disk (H)
    obtain ⟨_, hr, H⟩ := Hp.store (t := 89) (o := 2) (n := 1) (vs := [.slice none 0 0]) (cs' := [.slice A54 x3.L.length c55, .slice A56 x3.Torn.length c57, .slice none 0 0, .int .i64 x3.Fused]) (H) (F.ev (x := .tmp 53) rfl) (F.ev (x := .const (.slice none 0 0)) rfl) rfl sz89 rfl (Nat.le_of_ble_eq_true rfl) rfl rfl
    refine ls (qn F (.inl rfl) (hr _ _ _ _) fun a F => ?_)
    refine rgend ?_
    refine wp_region_lit ?_
    refine mv F rfl fun a F => ?_
    refine ls (qv F (r_nc (F.ev (x := .tmp 54) rfl)) fun a F => ?_)
    refine ls (qv F (r_fa (off := 3) (F.ev (x := .tmp 55) rfl) fa91_3) fun a F => ?_)
    obtain ⟨_, hr, H⟩ := Hp.store (t := 3) (o := 3) (n := 1) (vs := [.int .i64 (-1)]) (cs' := [.slice A54 x3.L.length c55, .slice A56 x3.Torn.length c57, .slice none 0 0, .int .i64 (-1)]) (H) (F.ev (x := .tmp 56) rfl) (F.ev (x := .const (.int .i64 (-1))) rfl) rfl sz3 rfl (Nat.le_of_ble_eq_true rfl) rfl rfl
    refine ls (qn F (.inl rfl) (hr _ _ _ _) fun a F => ?_)
    refine wpList_nil ?_
    replace F := F.only [] (l' := []) rfl
    replace H := H.nilOwn k_ref15_Write 95
    replace H := Hp.closeO_ref15_Disk (x := (⟨x3.L, x3.Torn, [], (-1)⟩ : ref15_Disk)) (H.f4.f1.f4.f4.f4)
    try dsimp only at h
    obtain rfl := Option.some.inj h
    exact NRM _ _ (ret0 F rfl ⟨_, rfl, rfl, H.fx1⟩)
def law15_Fill_b0 (a0 : Int) : ((List Int) × Int) → Option ((List Int) × Int ⊕ List Int)
  | (x3, x6) => (if x6 < 64 then (if 0 ≤ x6 ∧ x6 < (x3.length : Int) then some (.inl ((x3.set (x6 : Int).toNat a0), IntKind.i64.wrap (x6 + 1))) else none) else some (.inr x3))
def law15_Fill_f (a0 : Int) : Option (List Int) :=
  (if 0 ≤ (64 : Int) ∧ 1 * (64 : Int) ≤ 281474976710656 then ((lp (law15_Fill_b0 a0) (List.replicate (64 : Int).toNat (0 : Int), 0)).bind fun x7 => some x7) else none)
set_option maxHeartbeats 4000000 in
set_option maxRecDepth 20000 in
theorem law15_Fill_ok {w0 w : World} {ps : List PF} {fs : List SF} {a0 : Int} {r0 : List Int} (H : Hp w0 ps fs w) (h : law15_Fill_f a0 = some r0) (ha0 : 0 ≤ a0 ∧ a0 < 256) :
    Calls Try.prog 22 [.int .u8 a0].toArray w fun e w' => ∃ v, e = .returned v ∧ ∃ (A0 : Option Addr) (c0 : Nat), v = .slice A0 r0.length c0 ∧ Hp w0 ps (own kByte 5 A0 c0 r0 :: fs) w' := by
  refine enter [.int .u8 a0] 15 Try.func22 fun Q a NP RET NRM F => ?_
  replace NP : ∀ c a w, ¬ Q (.panic c) a w := fun c a w h => by rcases NP c a w h with h | ⟨w, v, h, _⟩ <;> cases h
  unfold law15_Fill_f at h
  refine rg ?_
  refine as_ F (v := .slice none 0 0) rfl fun a F => ?_
  refine rgend ?_
  refine rg ?_
  obtain ⟨c2, h⟩ := guardO h
  obtain ⟨g1, _, hr, H⟩ := Hp.make (kd := kByte) (zx := (0 : Int)) H (F.ev (x := .const (.int .i64 64)) rfl) (F.ev (x := .const (.int .i64 64)) rfl) Try.underlying23 ti5 rfl rfl (by decide) c2.1 c2.2 (fun Z w => ⟨rfl, by decide⟩) rfl
  refine ls (qv F (hr _ _ _ _ _) fun a F => ?_)
  refine as_ F rfl fun a F => ?_
  refine rgend ?_
  refine wp_seq ?_
  refine rg ?_
  refine as_ F (v := .int .i64 0) rfl fun a F => ?_
  refine rgend ?_
  obtain ⟨o_9, k_9, h⟩ := Option.bind_eq_some_iff.1 h
  refine cut (fun a w => ∃ (x7 : List Int), x7 = o_9 ∧ ∃ (A8 : Option Addr) (c9 : Nat), Fr 15 [] [(3, .slice A8 x7.length c9)] a ∧ Hp w0 ps (own kByte 5 A8 c9 x7 :: fs) w) (wp_block ?_) ?_
  · refine wloop (law15_Fill_b0 a0) (fun (s : (List Int) × Int) a w => ∃ (A4 : Option Addr) (c5 : Nat), Fr 15 [] [(0, .int .u8 a0), (3, .slice A4 s.1.length c5), (4, .int .i64 s.2)] a ∧ Hp w0 ps (own kByte 5 A4 c5 s.1 :: fs) w) k_9 ⟨(some ⟨g1, 0, none⟩), (List.replicate (64 : Int).toNat (0 : Int)).length, F.only [0, 3, 4] rfl, H⟩ ?_
    rintro ⟨x3, x6⟩ a w q_9 j_9 u_9 ⟨A4, c5, F, H⟩
    unfold law15_Fill_b0 at j_9
    try dsimp only at j_9 F H
    refine wp_seq ?_
    refine rg ?_
    refine mv F rfl fun a F => ?_
    refine ls (qv F (r_lt (F.ev (x := .tmp 6) rfl) (F.ev (x := .const (.int .i64 64)) rfl)) fun a F => ?_)
    refine rgend ?_
    by_cases c11 : x6 < 64
    · rw [if_pos c11] at j_9
      rw [decide_eq_true c11] at F
      refine wp_cond_true (F.ev rfl) ?_
      refine wp_skip ?_
      refine wp_seq ?_
      refine wp_block ?_
      refine wp_region_lit ?_
      refine mv F rfl fun a F => ?_
      refine mv F rfl fun a F => ?_
      refine mv F rfl fun a F => ?_
      obtain ⟨c12, j_9⟩ := guardO j_9
      obtain ⟨g13, s14, hA, hq16, hl15, H⟩ := H.ixOwn2 0 0 rfl (F.ev (x := .tmp 10) rfl) (F.ev (x := .tmp 11) rfl) Try.underlying23 sz5 (by decide) c12.1 c12.2
      cases hA
      obtain ⟨rfl, hr17⟩ := H.says_byte 0 rfl
      refine ls (qv F (hq16 _ _ _ _ _ _) fun a F => ?_)
      obtain ⟨_, hr, H⟩ := Hp.setOwn (kd := kByte) (xs := x3) (j := (x6 : Int).toNat) (x1 := a0) (H) (F.ev (x := .tmp 13) rfl) (F.ev (x := .tmp 12) rfl) rfl sz5 (by have := c12; omega) (fun Z hp => ⟨rfl, ha0⟩)
      refine ls (qn F (.inl rfl) (hr _ _ _ _) fun a F => ?_)
      replace F := F.only [13, 12, 11, 10, 7, 6, 0, 3, 4] (l' := [(13, .pointer (some ⟨g13, (x6 : Int).toNat * kByte.sz, none⟩)), (12, .int .u8 a0), (11, .int .i64 x6), (10, .slice (some ⟨g13, 0, none⟩) ((x3.set (x6 : Int).toNat a0)).length c5), (7, .bool true), (6, .int .i64 x6), (0, .int .u8 a0), (3, .slice (some ⟨g13, 0, none⟩) ((x3.set (x6 : Int).toNat a0)).length c5), (4, .int .i64 x6)]) (by (try simp only [List.length_set]); rfl)
      refine wpList_nil ?_
      replace F := F.only [0, 3, 4] (l' := [(0, .int .u8 a0), (3, .slice (some ⟨g13, 0, none⟩) ((x3.set (x6 : Int).toNat a0)).length c5), (4, .int .i64 x6)]) rfl
      refine wp_region_lit ?_
      refine mv F rfl fun a F => ?_
      refine ls (qv F (r_add (F.ev (x := .tmp 8) rfl) (F.ev (x := .const (.int .i64 1)) rfl)) fun a F => ?_)
      refine as_ F rfl fun a F => ?_
      refine wpList_nil ?_
      try dsimp only at j_9
      obtain rfl := Option.some.inj j_9
      exact ⟨_, rfl, (some ⟨g13, 0, none⟩), c5, F.only [0, 3, 4] rfl, H.px0⟩
    · rw [if_neg c11] at j_9
      rw [decide_eq_false c11] at F
      refine wp_cond_false (F.ev rfl) ?_
      refine wp_exit ?_
      try dsimp only at j_9
      obtain rfl := Option.some.inj j_9
      obtain rfl := u_9 _ rfl
      repeat (with_reducible refine exT ?_)
      with_reducible refine exB ?_
      exact ⟨_, rfl, A4, c5, F.only [3] rfl, H⟩
  · rintro a w ⟨x7, rfl, A8, c9, F, H⟩
    try dsimp only at h F H
    refine rg ?_
    refine mv F rfl fun a F => ?_
    refine as_ F rfl fun a F => ?_
    refine rgend ?_
    refine wp_ret ?_
    try dsimp only at h
    obtain rfl := Option.some.inj h
    exact RET _ _ (ret1 F rfl rfl ⟨_, rfl, A8, c9, rfl, H⟩)
def region_state_f (a0 : List Int) : Option (Bool) :=
  (((if (a0.length : Int) > 0 then some ((decide ((a0.length : Int) ≤ 1600))) else some false) : Option (Bool)).bind fun x1 => some x1)
set_option maxHeartbeats 4000000 in
set_option maxRecDepth 20000 in
theorem region_state_ok {w0 w : World} {ps : List PF} {fs : List SF} {a0 : List Int} {A0_ : Option Addr} {c0_ : Nat} {r0 : Bool} (H : Hp w0 ps fs w) (h : region_state_f a0 = some r0) :
    Calls Try.prog 40 [.slice A0_ a0.length c0_].toArray w fun e w' => ∃ v, e = .returned v ∧ v = .bool r0 ∧ Hp w0 ps fs w' := by
  refine enter [.slice A0_ a0.length c0_] 11 Try.func40 fun Q a NP RET NRM F => ?_
  replace NP : ∀ c a w, ¬ Q (.panic c) a w := fun c a w h => by rcases NP c a w h with h | ⟨w, v, h, _⟩ <;> cases h
  unfold region_state_f at h
  refine rg ?_
  refine as_ F (v := .bool false) rfl fun a F => ?_
  refine rgend ?_
  refine wp_seq ?_
  obtain ⟨o_1, k_1, h⟩ := Option.bind_eq_some_iff.1 h
  refine cut (fun a w => ∃ (x1 : Bool), x1 = o_1 ∧ Fr 11 [] [(2, .bool x1)] a ∧ Hp w0 ps fs w) ?_ ?_
  · skip
    refine wp_region_lit ?_
    refine mv F rfl fun a F => ?_
    refine ls (qv F (r_len (F.ev (x := .tmp 3) rfl) Try.underlying23) fun a F => ?_)
    refine ls (qv F (r_gt (F.ev (x := .tmp 4) rfl) (F.ev (x := .const (.int .i64 0)) rfl)) fun a F => ?_)
    refine mv F rfl fun a F => ?_
    by_cases c3 : (a0.length : Int) > 0
    · rw [if_pos c3] at k_1
      rw [decide_eq_true c3] at F
      refine mv F rfl fun a F => ?_
      refine ls (qv F (r_len (F.ev (x := .tmp 7) rfl) Try.underlying23) fun a F => ?_)
      refine ls (qv F (r_le (F.ev (x := .tmp 8) rfl) (F.ev (x := .const (.int .i64 1600)) rfl)) fun a F => ?_)
      refine ls (qv F (r_pickT (F.ev (x := .tmp 6) rfl) (F.ev (x := .tmp 9) rfl)) fun a F => ?_)
      refine as_ F rfl fun a F => ?_
      refine wpList_nil ?_
      replace F := F.only [2] (l' := [(2, .bool (decide ((a0.length : Int) ≤ 1600)))]) rfl
      try dsimp only at k_1
      obtain rfl := Option.some.inj k_1
      exact ⟨_, rfl, F.only [2] rfl, H⟩
    · rw [if_neg c3] at k_1
      rw [decide_eq_false c3] at F
      refine ls (off F fun a F => ?_)
      refine ls (off F fun a F => ?_)
      refine ls (off F fun a F => ?_)
      refine ls (qv F (r_pickF (F.ev (x := .tmp 6) rfl) (F.ev (x := .const (.bool false)) rfl)) fun a F => ?_)
      refine as_ F rfl fun a F => ?_
      refine wpList_nil ?_
      replace F := F.only [2] (l' := [(2, .bool false)]) rfl
      try dsimp only at k_1
      obtain rfl := Option.some.inj k_1
      exact ⟨_, rfl, F.only [2] rfl, H⟩
  · rintro a w ⟨x1, rfl, F, H⟩
    try dsimp only at h F H
    refine wp_ret ?_
    try dsimp only at h
    obtain rfl := Option.some.inj h
    exact RET _ _ (ret1 F rfl rfl ⟨_, rfl, rfl, H⟩)
def region_entry_f (a0 : List Int) : Option (Bool) :=
  (((if (a0.length : Int) > 0 then some ((decide ((a0.length : Int) ≤ 50))) else some false) : Option (Bool)).bind fun x1 => some x1)
set_option maxHeartbeats 4000000 in
set_option maxRecDepth 20000 in
theorem region_entry_ok {w0 w : World} {ps : List PF} {fs : List SF} {a0 : List Int} {A0_ : Option Addr} {c0_ : Nat} {r0 : Bool} (H : Hp w0 ps fs w) (h : region_entry_f a0 = some r0) :
    Calls Try.prog 41 [.slice A0_ a0.length c0_].toArray w fun e w' => ∃ v, e = .returned v ∧ v = .bool r0 ∧ Hp w0 ps fs w' := by
  refine enter [.slice A0_ a0.length c0_] 11 Try.func41 fun Q a NP RET NRM F => ?_
  replace NP : ∀ c a w, ¬ Q (.panic c) a w := fun c a w h => by rcases NP c a w h with h | ⟨w, v, h, _⟩ <;> cases h
  unfold region_entry_f at h
  refine rg ?_
  refine as_ F (v := .bool false) rfl fun a F => ?_
  refine rgend ?_
  refine wp_seq ?_
  obtain ⟨o_1, k_1, h⟩ := Option.bind_eq_some_iff.1 h
  refine cut (fun a w => ∃ (x1 : Bool), x1 = o_1 ∧ Fr 11 [] [(2, .bool x1)] a ∧ Hp w0 ps fs w) ?_ ?_
  · skip
    refine wp_region_lit ?_
    refine mv F rfl fun a F => ?_
    refine ls (qv F (r_len (F.ev (x := .tmp 3) rfl) Try.underlying23) fun a F => ?_)
    refine ls (qv F (r_gt (F.ev (x := .tmp 4) rfl) (F.ev (x := .const (.int .i64 0)) rfl)) fun a F => ?_)
    refine mv F rfl fun a F => ?_
    by_cases c3 : (a0.length : Int) > 0
    · rw [if_pos c3] at k_1
      rw [decide_eq_true c3] at F
      refine mv F rfl fun a F => ?_
      refine ls (qv F (r_len (F.ev (x := .tmp 7) rfl) Try.underlying23) fun a F => ?_)
      refine ls (qv F (r_le (F.ev (x := .tmp 8) rfl) (F.ev (x := .const (.int .i64 50)) rfl)) fun a F => ?_)
      refine ls (qv F (r_pickT (F.ev (x := .tmp 6) rfl) (F.ev (x := .tmp 9) rfl)) fun a F => ?_)
      refine as_ F rfl fun a F => ?_
      refine wpList_nil ?_
      replace F := F.only [2] (l' := [(2, .bool (decide ((a0.length : Int) ≤ 50)))]) rfl
      try dsimp only at k_1
      obtain rfl := Option.some.inj k_1
      exact ⟨_, rfl, F.only [2] rfl, H⟩
    · rw [if_neg c3] at k_1
      rw [decide_eq_false c3] at F
      refine ls (off F fun a F => ?_)
      refine ls (off F fun a F => ?_)
      refine ls (off F fun a F => ?_)
      refine ls (qv F (r_pickF (F.ev (x := .tmp 6) rfl) (F.ev (x := .const (.bool false)) rfl)) fun a F => ?_)
      refine as_ F rfl fun a F => ?_
      refine wpList_nil ?_
      replace F := F.only [2] (l' := [(2, .bool false)]) rfl
      try dsimp only at k_1
      obtain rfl := Option.some.inj k_1
      exact ⟨_, rfl, F.only [2] rfl, H⟩
  · rintro a w ⟨x1, rfl, F, H⟩
    try dsimp only at h F H
    refine wp_ret ?_
    try dsimp only at h
    obtain rfl := Option.some.inj h
    exact RET _ _ (ret1 F rfl rfl ⟨_, rfl, rfl, H⟩)
def region_parts_f (a0 : List Int) : Option (Int) :=
  some ((IntKind.i64.wrap ((IntKind.i64.wrap ((IntKind.i64.wrap ((a0.length : Int) - 1)).tdiv 50)) + 1)))
set_option maxHeartbeats 4000000 in
set_option maxRecDepth 20000 in
theorem region_parts_ok {w0 w : World} {ps : List PF} {fs : List SF} {a0 : List Int} {A0_ : Option Addr} {c0_ : Nat} {r0 : Int} (H : Hp w0 ps fs w) (h : region_parts_f a0 = some r0) :
    Calls Try.prog 42 [.slice A0_ a0.length c0_].toArray w fun e w' => ∃ v, e = .returned v ∧ v = .int .i64 r0 ∧ Hp w0 ps fs w' := by
  refine enter [.slice A0_ a0.length c0_] 8 Try.func42 fun Q a NP RET NRM F => ?_
  replace NP : ∀ c a w, ¬ Q (.panic c) a w := fun c a w h => by rcases NP c a w h with h | ⟨w, v, h, _⟩ <;> cases h
  unfold region_parts_f at h
  refine rg ?_
  refine as_ F (v := .int .i64 0) rfl fun a F => ?_
  refine rgend ?_
  refine rg ?_
  refine mv F rfl fun a F => ?_
  refine ls (qv F (r_len (F.ev (x := .tmp 3) rfl) Try.underlying23) fun a F => ?_)
  refine ls (qv F (r_sub (F.ev (x := .tmp 4) rfl) (F.ev (x := .const (.int .i64 1)) rfl)) fun a F => ?_)
  refine ls (qv F (r_quo (F.ev (x := .tmp 5) rfl) (F.ev (x := .const (.int .i64 50)) rfl) (by decide)) fun a F => ?_)
  refine ls (qv F (r_add (F.ev (x := .tmp 6) rfl) (F.ev (x := .const (.int .i64 1)) rfl)) fun a F => ?_)
  refine as_ F rfl fun a F => ?_
  refine rgend ?_
  replace F := F.only [2] (l' := [(2, .int .i64 (IntKind.i64.wrap ((IntKind.i64.wrap ((IntKind.i64.wrap ((a0.length : Int) - 1)).tdiv 50)) + 1)))]) rfl
  refine wp_ret ?_
  try dsimp only at h
  obtain rfl := Option.some.inj h
  exact RET _ _ (ret1 F rfl rfl ⟨_, rfl, rfl, H⟩)
end Go.Proofs.Ytdkdaggpfgajlaa
