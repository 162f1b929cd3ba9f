/- Sectors, plain: the document's Get. -/
import Derived.Test.YtpmkpiffbdcflaaSecG
import Derived.Test.YtpmkpiffbdcflaaSecR
import Derived.Test.YtpmkpiffbdcflaaGR0
set_option linter.unusedVariables false
set_option linter.unusedSimpArgs false
namespace Go.Proofs.Ytpmkpiffbdcflaa
open Go Go.RowKit
/-! ### The document's -/
theorem Read_run {b : List Int} (hb : Bytes b) (hl : b.length ≤ 8) (hn : num b < 9223372036854775808) : ref16_Read_f b = some (num b) := by
  unfold ref16_Read_f
  have key : lp (ref16_Read_b0 b) (0, 0) = some (num b) := by
   refine lp_eq (fun j q => q = (num (b.take j), (j : Int))) b.length (by omega) rfl ?_ ?_
   · rintro j q hj rfl
     unfold ref16_Read_b0
     simp only []
     have hg := getD_bytes hb j
     have ht := take_drop_snoc (l := b) (a := 0) (j := j) (by omega)
     rw [List.drop_zero, Nat.zero_add] at ht
     have h1 := num_nonneg (bytes_take hb j)
     have h2 := num_nonneg (bytes_take hb (j + 1))
     rw [ht, num_snoc] at h2
     have hmono : num (b.take j) * 256 + b.getD j 0 ≤ num b := by
       have : ∀ (l r : List Int), Bytes r → 0 ≤ num l → num l ≤ num (l ++ r) := by
         intro l r
         induction r generalizing l with
         | nil => intro _ _; rw [List.append_nil]; omega
         | cons x r ih =>
           intro hr hl
           have hx := hr x List.mem_cons_self
           have := ih (l ++ [x]) (fun y hy => hr y (List.mem_cons_of_mem _ hy)) (by rw [num_snoc]; omega)
           rw [num_snoc, List.append_assoc] at this
           simp only [List.singleton_append] at this
           omega
       have h3 := this (b.take (j + 1)) (b.drop (j + 1)) (bytes_drop hb _) (by rw [ht, num_snoc]; omega)
       rw [List.take_append_drop, ht, num_snoc] at h3
       exact h3
     rw [if_pos (by omega), if_pos (by omega), Int.toNat_natCast, w64 (x := num (b.take j) * 256) (by omega) (by omega), w64 (x := b.getD j 0) (by omega) (by omega), w64 (x := num (b.take j) * 256 + b.getD j 0) (by omega) (by omega), w64n (by omega)]
     exact ⟨_, rfl, by rw [ht, num_snoc]⟩
   · rintro q rfl
     unfold ref16_Read_b0
     simp only []
     rw [if_neg (by omega), List.take_length]
  rw [key]
  rfl
theorem tail_run {b : List Int} (hb : Bytes b) (a : Nat) (ha : a ≤ b.length) (hl : b.length < 4611686018427387904) : ∃ r, lp (ref16_Get_b0 b) (a : Int) = some r ∧ ((r = .inl () ∧ b.drop a = List.replicate (b.length - a) 0) ∨ (r = .inr (zSec, false) ∧ b.drop a ≠ List.replicate (b.length - a) 0)) := by
  refine lp_run (fun i s => s = ((a + i : Nat) : Int) ∧ (b.drop a).take i = List.replicate i 0) _ (b.length - a) (by omega) ⟨rfl, by simp⟩ ?_ ?_
  · rintro i s hi ⟨rfl, hI⟩
    unfold ref16_Get_b0
    simp only []
    rw [if_pos (by omega), if_pos (by omega), Int.toNat_natCast]
    by_cases c : b.getD (a + i) 0 ≠ 0
    · rw [if_pos c]
      refine .inr ⟨_, rfl, .inr ⟨rfl, fun he => c ?_⟩⟩
      have h1 : (b.drop a)[i]? = (List.replicate (b.length - a) (0 : Int))[i]? := by rw [he]
      rw [List.getElem?_drop, List.getElem?_replicate, if_pos (by omega)] at h1
      rw [List.getD_eq_getElem?_getD, h1]
      rfl
    · rw [if_neg c]
      refine .inl ⟨_, rfl, w64n (by omega), ?_⟩
      rw [take_drop_snoc (by omega), hI, show b.getD (a + i) 0 = 0 from by omega, List.replicate_succ']
  · rintro s ⟨rfl, hI⟩
    unfold ref16_Get_b0
    simp only []
    rw [if_neg (by omega)]
    refine ⟨_, rfl, .inl ⟨rfl, ?_⟩⟩
    rw [List.take_of_length_le (by rw [List.length_drop]; exact Nat.le_refl _)] at hI
    exact hI
theorem num_first {b : List Int} (hb : Bytes b) (hl : 8 ≤ b.length) (h : b.getD 0 0 = 0) : num (b.take 8) < 72057594037927936 := by
  have h1 : b.take 8 = [b.getD 0 0] ++ (b.drop 1).take 7 := by
    have e := take1 (b := b) (a := 0) (by omega)
    rw [List.drop_zero] at e
    have e2 : b = b.take 1 ++ b.drop 1 := (List.take_append_drop 1 b).symm
    conv => lhs; rw [e2]
    rw [List.take_append, e]
    simp
  have h2 : num (b.take 8) = num ((b.drop 1).take 7) := by
    rw [h1, h]
    simp [num]
  have h3 := num_nonneg (bytes_take (bytes_drop hb 1) 7)
  rw [List.length_take, List.length_drop, show min 7 (b.length - 1) = 7 from by omega] at h3
  rw [h2]
  exact h3.2
theorem num_first' {b : List Int} (hb : Bytes b) (hl : b.length = 64) (h : b.getD 0 0 ≠ 0) : ¬ RtP (parse b) := by
  intro hr
  have hg := gen_num hb hl hr.1.1
  have hle : num (b.take 8) ≤ 281474976710656 := by have := hr.1.2; rw [show (parse b).Gen = IntKind.i64.wrap (num (b.take 8)) from rfl, hg] at this; exact this
  have hbe : be 8 (num (b.take 8)) = b.take 8 := by
    have := be_num (bytes_take hb 8)
    rwa [List.length_take, hl] at this
  have h0 := be_get 8 (num (b.take 8)) 0 (by decide)
  have hn := num_nonneg (bytes_take hb 8)
  have h1 : (be 8 (num (b.take 8)))[0]'(by rw [be_len]; decide) = b.getD 0 0 := by
    simp only [hbe]
    rw [List.getElem_take, List.getD_eq_getElem?_getD, List.getElem?_eq_getElem (by omega)]
    rfl
  rw [h1] at h0
  apply h
  rw [h0]
  have : num (b.take 8) / 256 ^ (8 - 1 - 0) = 0 := Int.ediv_eq_zero_of_lt hn.1 (by omega)
  rw [this]
  rfl
theorem ref_Get_run {b : List Int} (hb : Bytes b) : ref16_Get_f b = some (dec b) := by
  unfold ref16_Get_f
  by_cases hlen : b.length = 64
  · have g0 := getD_bytes hb 0
    have g10 := getD_bytes hb 10
    have g13 := getD_bytes hb 13
    rw [if_neg (by omega), if_pos (by omega), show ((0 : Int)).toNat = 0 from rfl, show ((13 : Int)).toNat = 13 from rfl, show ((10 : Int)).toNat = 10 from rfl, show ((8 : Int)).toNat = 8 from rfl, show ((11 : Int)).toNat = 11 from rfl, show ((14 : Int)).toNat = 14 from rfl]
    by_cases c0 : b.getD 0 0 ≠ 0
    · rw [if_pos c0]
      unfold dec
      rw [if_neg (fun h => num_first' hb hlen c0 h.2.1)]
      rfl
    · have c0' : b.getD 0 0 = 0 := by omega
      have e13 : IntKind.i64.wrap (b.getD 13 0) = b.getD 13 0 := w64 (by omega) (by omega)
      have e10 : IntKind.i64.wrap (b.getD 10 0) = b.getD 10 0 := w64 (by omega) (by omega)
      rw [if_neg c0, if_pos (by omega), e13, e10]
      by_cases c13 : b.getD 13 0 > 50
      · rw [if_pos c13]
        unfold dec
        rw [if_neg (fun h => by
          have := ((ok_iff hb hlen h.2.1).1 h.2.2).1
          omega)]
        rfl
      · have hmin : min (b.getD 13 0) 50 = b.getD 13 0 := by omega
        have e14 : IntKind.i64.wrap (14 + b.getD 13 0) = ((14 + (b.getD 13 0).toNat : Nat) : Int) := by rw [w64 (by omega) (by omega)]; omega
        have n8 := num2 hb 8
        have n11 := num2 hb 11
        have nf := num_first hb (by omega) c0'
        have hn0 := num_nonneg (bytes_take hb 8)
        have r1 := Read_run (b := (b.take 8).drop 0) (by rw [List.drop_zero]; exact bytes_take hb 8) (by rw [List.drop_zero, List.length_take]; omega) (by rw [List.drop_zero]; omega)
        have d2 : (b.take 10).drop 8 = (b.drop 8).take 2 := by rw [List.drop_take]
        have d3 : (b.take 13).drop 11 = (b.drop 11).take 2 := by rw [List.drop_take]
        have r2 := Read_run (b := (b.take 10).drop 8) (by rw [d2]; exact bytes_take (bytes_drop hb 8) 2) (by rw [d2, List.length_take]; omega) (by rw [d2]; omega)
        have r3 := Read_run (b := (b.take 13).drop 11) (by rw [d3]; exact bytes_take (bytes_drop hb 11) 2) (by rw [d3, List.length_take]; omega) (by rw [d3]; omega)
        have eb : ((b.take (14 + (b.getD 13 0).toNat)).drop 14) = (parse b).Body := by
          rw [List.drop_take]
          show _ = (b.drop 14).take (min (b.getD 13 0) 50).toNat
          rw [hmin]
          congr 1
          omega
        have hbl : (parse b).Body.length ≤ 50 := by show ((b.drop 14).take _).length ≤ 50; rw [List.length_take]; omega
        rw [if_neg c13, e14, if_pos (by omega), if_pos (by omega), if_pos (by omega), if_pos (by omega), if_pos (by omega), Int.toNat_natCast, r1, r2, r3]
        simp only [Option.bind_some]
        rw [eb, if_pos (by omega)]
        simp only [Option.bind_some]
        obtain ⟨r, k1, k2⟩ := tail_run hb (14 + (b.getD 13 0).toNat) (by omega) (by omega)
        rw [k1]
        simp only [Option.bind_some]
        have hlen2 : b.length - (14 + (b.getD 13 0).toNat) = 50 - (b.getD 13 0).toNat := by omega
        rw [hlen2] at k2
        have hs : (⟨num ((b.take 8).drop 0), num ((b.take 10).drop 8), b.getD 10 0, num ((b.take 13).drop 11), (parse b).Body⟩ : api_Sector) = parse b := by
          rw [List.drop_zero, d2, d3]
          show _ = (⟨IntKind.i64.wrap (num (b.take 8)), num ((b.drop 8).take 2), b.getD 10 0, num ((b.drop 11).take 2), (parse b).Body⟩ : api_Sector)
          rw [w64 (by omega) (by omega)]
        rcases k2 with ⟨rfl, k2⟩ | ⟨rfl, k2⟩
        · simp only []
          rw [hs, ref_Right_run]
          simp only [Option.bind_some]
          unfold dec
          by_cases hr : RtP (parse b)
          · rw [if_pos (by simpa using hr), if_pos ⟨hlen, hr, (ok_iff hb hlen hr).2 ⟨by omega, k2⟩⟩]
          · rw [if_neg (by simpa using hr), if_neg (fun h => hr h.2.1)]
            rfl
        · simp only []
          unfold dec
          rw [if_neg (fun h => k2 ((ok_iff hb hlen h.2.1).1 h.2.2).2)]
  · rw [if_pos (by omega)]
    unfold dec
    rw [if_neg (fun h => hlen h.1)]; rfl
end Go.Proofs.Ytpmkpiffbdcflaa
