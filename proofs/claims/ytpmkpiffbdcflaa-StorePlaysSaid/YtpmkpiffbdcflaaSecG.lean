/- Sectors: Get, of the program and of the document: plain Lean. -/
import Derived.Test.YtpmkpiffbdcflaaSec
set_option linter.unusedVariables false
set_option linter.unusedSimpArgs false
namespace Go.Proofs.Ytpmkpiffbdcflaa
open Go Go.RowKit
def parse (b : List Int) : api_Sector := ⟨IntKind.i64.wrap (num (b.take 8)), num ((b.drop 8).take 2), b.getD 10 0, num ((b.drop 11).take 2), (b.drop 14).take (min (b.getD 13 0) 50).toNat⟩
def OkP (b : List Int) : Prop := b.length = 64 ∧ RtP (parse b) ∧ enc (parse b) = b
instance (b : List Int) : Decidable (OkP b) := by unfold OkP; infer_instance
def dec (b : List Int) : api_Sector × Bool := if OkP b then (parse b, true) else (zSec, false)
theorem next_run {b : List Int} (hb : Bytes b) (hl : b.length < 4611686018427387904) (at0 many : Nat) (h : at0 + many ≤ b.length) (f : Int × Int × Int → Option (Int × Int × Int ⊕ Int × Int))
    (hf : ∀ x c a, f (x, c, a) = if c < (many : Int) then (if 0 ≤ a ∧ a < (b.length : Int) then some (.inl (orI .i64 (IntKind.i64.wrap (x * 2 ^ (8))) (IntKind.i64.wrap (b.getD a.toNat 0)), IntKind.i64.wrap (c + 1), IntKind.i64.wrap (a + 1))) else none) else some (.inr (x, a))) :
    lp f (0, 0, (at0 : Int)) = some (IntKind.i64.wrap (num ((b.drop at0).take many)), ((at0 + many : Nat) : Int)) := by
  refine lp_eq (fun j q => q = (IntKind.i64.wrap (num ((b.drop at0).take j)), (j : Int), ((at0 + j : Nat) : Int))) many (by omega) (by simp [num]; decide) ?_ ?_
  · rintro j q hj rfl
    rw [hf, if_pos (by omega), if_pos (by omega), Int.toNat_natCast]
    have hg := getD_bytes hb (at0 + j)
    refine ⟨_, rfl, ?_⟩
    rw [or_step hg.1 hg.2, take_drop_snoc (by omega), num_snoc, w64n (by omega), w64n (by omega)]
    rfl
  · rintro q rfl
    rw [hf, if_neg (by omega)]
theorem next0_run {b : List Int} (hb : Bytes b) (hl : b.length < 4611686018427387904) (h : 8 ≤ b.length) : lp (sector_Get_b0 b) (0, 0) = some (IntKind.i64.wrap (num (b.take 8)), 8) := by
  refine lp_eq (fun j q => q = (IntKind.i64.wrap (num (b.take j)), (j : Int))) 8 (by omega) (by simp [num]; decide) ?_ ?_
  · rintro j q hj rfl
    unfold sector_Get_b0
    simp only []
    rw [if_pos (by omega), if_pos (by omega), Int.toNat_natCast]
    have hg := getD_bytes hb j
    refine ⟨_, rfl, ?_⟩
    have ht := take_drop_snoc (l := b) (a := 0) (j := j) (by omega)
    rw [List.drop_zero, Nat.zero_add] at ht
    rw [or_step hg.1 hg.2, ht, num_snoc, w64n (by omega)]
  · rintro q rfl
    unfold sector_Get_b0
    simp only []
    rw [if_neg (by omega)]
    rfl
theorem num2 {b : List Int} (hb : Bytes b) (a : Nat) : 0 ≤ num ((b.drop a).take 2) ∧ num ((b.drop a).take 2) < 65536 := by
  have h := num_nonneg (bytes_take (bytes_drop hb a) 2)
  have hl : ((b.drop a).take 2).length ≤ 2 := by rw [List.length_take]; omega
  have : (256 : Int) ^ ((b.drop a).take 2).length ≤ 65536 := by
    match ((b.drop a).take 2).length, hl with
    | 0, _ => decide
    | 1, _ => decide
    | 2, _ => decide
    | _ + 3, h => omega
  omega
theorem take1 {b : List Int} {a : Nat} (h : a < b.length) : (b.drop a).take 1 = [b.getD a 0] := by
  have := take_drop_snoc (l := b) (a := a) (j := 0) (by omega)
  simpa using this
theorem Get_run {b : List Int} (hb : Bytes b) : sector_Get_f b = some (dec b) := by
  unfold sector_Get_f
  by_cases hlen : b.length = 64
  · have g13 := getD_bytes hb 13
    rw [if_neg (by omega), next0_run hb (by omega) (by omega)]
    simp only [Option.bind_some]
    have h1 := next_run hb (by omega) 8 2 (by omega) (sector_Get_b1 b) (fun _ _ _ => rfl)
    rw [show ((8 : Nat) : Int) = 8 from rfl, show ((8 + 2 : Nat) : Int) = 10 from rfl] at h1
    rw [h1]
    simp only [Option.bind_some]
    have h2 := next_run hb (by omega) 10 1 (by omega) (sector_Get_b2 b) (fun _ _ _ => rfl)
    rw [show ((10 : Nat) : Int) = 10 from rfl, show ((10 + 1 : Nat) : Int) = 11 from rfl] at h2
    rw [h2]
    simp only [Option.bind_some]
    have h3 := next_run hb (by omega) 11 2 (by omega) (sector_Get_b3 b) (fun _ _ _ => rfl)
    rw [show ((11 : Nat) : Int) = 11 from rfl, show ((11 + 2 : Nat) : Int) = 13 from rfl] at h3
    rw [h3]
    simp only [Option.bind_some]
    have h4 := next_run hb (by omega) 13 1 (by omega) (sector_Get_b4 b) (fun _ _ _ => rfl)
    rw [show ((13 : Nat) : Int) = 13 from rfl, show ((13 + 1 : Nat) : Int) = 14 from rfl] at h4
    rw [h4]
    simp only [Option.bind_some]
    have n8 := num2 hb 8
    have n11 := num2 hb 11
    have g10 := getD_bytes hb 10
    have e10 : IntKind.i64.wrap (num ((b.drop 10).take 1)) = b.getD 10 0 := by rw [take1 (by omega), num_one, w64 (by omega) (by omega)]
    have e13 : IntKind.i64.wrap (num ((b.drop 13).take 1)) = b.getD 13 0 := by rw [take1 (by omega), num_one, w64 (by omega) (by omega)]
    have e14 : IntKind.i64.wrap (14 + (min (b.getD 13 0) 50)) = 14 + min (b.getD 13 0) 50 := w64 (by omega) (by omega)
    have eb : ((b.take (14 + min (b.getD 13 0) 50).toNat).drop ((14 : Int)).toNat) = (b.drop 14).take (min (b.getD 13 0) 50).toNat := by
      rw [show ((14 : Int)).toNat = 14 from rfl, List.drop_take]
      congr 1
      omega
    rw [e13, e10, e14, eb, w64 (x := num ((b.drop 8).take 2)) (by omega) (by omega), w64 (x := num ((b.drop 11).take 2)) (by omega) (by omega)]
    have hs : (⟨IntKind.i64.wrap (num (b.take 8)), num ((b.drop 8).take 2), b.getD 10 0, num ((b.drop 11).take 2), (b.drop 14).take (min (b.getD 13 0) 50).toNat⟩ : api_Sector) = parse b := rfl
    rw [hs]
    have hbl : ((b.drop 14).take (min (b.getD 13 0) 50).toNat).length ≤ 50 := by rw [List.length_take]; omega
    rw [if_pos (by omega), if_pos (by omega), Right_run]
    simp only [Option.bind_some]
    unfold dec
    by_cases hr : RtP (parse b)
    · obtain ⟨x, k1, k2⟩ := bytes_run (parse b) (bytes_take (bytes_drop hb 14) _) hbl
      have ha : (Arr.of 64 (b.take 64)).l = b := by rw [List.take_of_length_le (by omega)]; exact Arr.of_l hlen hb
      rw [if_pos (by simpa using hr), if_pos (by omega), k1]
      simp only [Option.bind_some]
      rw [ha, k2]
      by_cases he : enc (parse b) = b
      · rw [if_neg (by simpa using he), if_pos ⟨hlen, hr, he⟩]
      · rw [if_pos (by simpa using he), if_neg (fun h => he h.2.2)]; rfl
    · rw [if_neg (by simpa using hr)]
      simp only [Option.bind_some]
      rw [if_pos trivial, if_neg (fun h => hr h.2.1)]; rfl
  · rw [if_pos (by omega)]
    unfold dec
    rw [if_neg (fun h => hlen h.1)]; rfl
/-! ### What stands where -/
theorem split64 {b : List Int} (h : b.length = 64) : b = b.take 8 ++ ((b.drop 8).take 2 ++ ([b.getD 10 0] ++ ((b.drop 11).take 2 ++ ([b.getD 13 0] ++ b.drop 14)))) := by
  have d13 : b.drop 13 = [b.getD 13 0] ++ b.drop 14 := by rw [← take1 (by omega), ← List.drop_drop (i := 1) (j := 13), List.take_append_drop]
  have d11 : b.drop 11 = (b.drop 11).take 2 ++ b.drop 13 := by rw [← List.drop_drop (i := 2) (j := 11), List.take_append_drop]
  have d10 : b.drop 10 = [b.getD 10 0] ++ b.drop 11 := by rw [← take1 (by omega), ← List.drop_drop (i := 1) (j := 10), List.take_append_drop]
  have d8 : b.drop 8 = (b.drop 8).take 2 ++ b.drop 10 := by rw [← List.drop_drop (i := 2) (j := 8), List.take_append_drop]
  rw [← d13, ← d11, ← d10, ← d8, List.take_append_drop]
theorem gen_num {b : List Int} (hb : Bytes b) (hl : b.length = 64) (h : 1 ≤ IntKind.i64.wrap (num (b.take 8))) : IntKind.i64.wrap (num (b.take 8)) = num (b.take 8) := by
  have h2 := num_nonneg (bytes_take hb 8)
  rw [List.length_take, hl] at h2
  have h3 : num (b.take 8) < 18446744073709551616 := h2.2
  rw [IntKind.wrap_i64] at h ⊢
  omega
/-- What Get takes. -/
theorem ok_iff {b : List Int} (hb : Bytes b) (hl : b.length = 64) (hr : RtP (parse b)) : enc (parse b) = b ↔ b.getD 13 0 ≤ 50 ∧ b.drop (14 + (b.getD 13 0).toNat) = List.replicate (50 - (b.getD 13 0).toNat) 0 := by
  have g10 := getD_bytes hb 10
  have g13 := getD_bytes hb 13
  have hg := gen_num hb hl hr.1.1
  have t8 : be 8 (parse b).Gen = b.take 8 := by
    show be 8 (IntKind.i64.wrap (num (b.take 8))) = _
    rw [hg]
    have := be_num (bytes_take hb 8)
    rwa [List.length_take, hl] at this
  have t2 : be 2 (parse b).Place = (b.drop 8).take 2 := by
    have := be_num (bytes_take (bytes_drop hb 8) 2)
    rwa [List.length_take, List.length_drop, hl] at this
  have t3 : be 2 (parse b).Kept = (b.drop 11).take 2 := by
    have := be_num (bytes_take (bytes_drop hb 11) 2)
    rwa [List.length_take, List.length_drop, hl] at this
  have t1 : be 1 (parse b).Parts = [b.getD 10 0] := be_one g10.1 g10.2
  have hbl : (parse b).Body.length = (min (b.getD 13 0) 50).toNat := by
    show ((b.drop 14).take _).length = _
    rw [List.length_take, List.length_drop, hl]; omega
  have tl : be 1 ((parse b).Body.length : Int) = [min (b.getD 13 0) 50] := by
    rw [hbl, be_one (by omega) (by omega)]
    congr 1
    omega
  have hd14 : ∀ n : Nat, (b.drop 14).take n ++ b.drop (14 + n) = b.drop 14 := fun n => by rw [← List.drop_drop (i := n) (j := 14), List.take_append_drop]
  have hs := split64 hl
  constructor
  · intro he
    have he2 : enc (parse b) = b.take 8 ++ ((b.drop 8).take 2 ++ ([b.getD 10 0] ++ ((b.drop 11).take 2 ++ ([b.getD 13 0] ++ b.drop 14)))) := he.trans hs
    unfold enc at he2
    rw [t8, t2, t1, t3, tl] at he2
    have he3 := List.append_cancel_left (List.append_cancel_left (List.append_cancel_left (List.append_cancel_left he2)))
    simp only [List.cons_append, List.nil_append, List.cons.injEq] at he3
    obtain ⟨h13, htail⟩ := he3
    have hmin : min (b.getD 13 0) 50 = b.getD 13 0 := h13
    refine ⟨by omega, ?_⟩
    rw [hbl, hmin] at htail
    have hB : (parse b).Body = (b.drop 14).take (b.getD 13 0).toNat := by show (b.drop 14).take _ = _; rw [hmin]
    rw [hB] at htail
    have htail2 : (b.drop 14).take (b.getD 13 0).toNat ++ List.replicate (50 - (b.getD 13 0).toNat) 0 = (b.drop 14).take (b.getD 13 0).toNat ++ b.drop (14 + (b.getD 13 0).toNat) := by
      rw [hd14]
      exact htail
    exact (List.append_cancel_left htail2).symm
  · rintro ⟨h50, htail⟩
    have hmin : min (b.getD 13 0) 50 = b.getD 13 0 := by omega
    have hB : (parse b).Body = (b.drop 14).take (b.getD 13 0).toNat := by show (b.drop 14).take _ = _; rw [hmin]
    conv => rhs; rw [hs]
    unfold enc
    rw [t8, t2, t1, t3, tl, hmin, hbl, hmin, hB, ← htail, hd14]
theorem dec_true {b : List Int} (h : (dec b).2 = true) : OkP b ∧ (dec b).1 = parse b := by
  unfold dec at h ⊢
  by_cases c : OkP b
  · rw [if_pos c]; exact ⟨c, rfl⟩
  · rw [if_neg c] at h; cases h
theorem dec_false {b : List Int} (h : (dec b).2 = false) : ¬ OkP b ∧ (dec b).1 = zSec := by
  unfold dec at h ⊢
  by_cases c : OkP b
  · rw [if_pos c] at h; cases h
  · rw [if_neg c]; exact ⟨c, rfl⟩
theorem parse_bytes {b : List Int} (hb : Bytes b) : Bytes (parse b).Body := bytes_take (bytes_drop hb 14) _
end Go.Proofs.Ytpmkpiffbdcflaa
