/- The statement SectorSorts: plain Lean. -/
import Derived.Test.YtpijdclonniibaaSecH
import Derived.Test.YtpijdclonniibaaGSectorSorts
set_option linter.unusedVariables false
set_option linter.unusedSimpArgs false
namespace Go.Proofs.Ytpijdclonniibaa
open Go Go.RowKit
def lexLt : List Int → List Int → Bool
  | _, [] => false
  | [], _ :: _ => true
  | a :: x, b :: y => decide (a < b) || (decide (a = b) && lexLt x y)
theorem bytesLess_lex : ∀ {xs ys : List Int}, Bytes xs → Bytes ys → Op.bytesLess (xs.map fun x => UInt8.ofNat x.toNat) (ys.map fun x => UInt8.ofNat x.toNat) = lexLt xs ys
  | [], [], _, _ => by simp [Op.bytesLess, lexLt]
  | [], _ :: _, _, _ => by simp [Op.bytesLess, lexLt]
  | _ :: _, [], _, _ => by simp [Op.bytesLess, lexLt]
  | a :: x, b :: y, hx, hy => by
    have ha := hx a List.mem_cons_self
    have hb := hy b List.mem_cons_self
    have ih := bytesLess_lex (xs := x) (ys := y) (fun z hz => hx z (List.mem_cons_of_mem _ hz)) (fun z hz => hy z (List.mem_cons_of_mem _ hz))
    simp only [List.map_cons, Op.bytesLess, lexLt, ih]
    have e1 : decide (UInt8.ofNat a.toNat < UInt8.ofNat b.toNat) = decide (a < b) := by
      apply decide_eq_decide.2
      rw [UInt8.lt_iff_toNat_lt]
      simp only [UInt8.toNat_ofNat']
      omega
    have e2 : (UInt8.ofNat a.toNat == UInt8.ofNat b.toNat) = decide (a = b) := by
      rw [Bool.eq_iff_iff, beq_iff_eq, decide_eq_true_iff]
      constructor
      · intro h
        exact ofNat_inj ha hb h
      · rintro rfl; rfl
    rw [e1, e2]
theorem strOf_list (xs : List Int) : (strOf xs).toList = xs.map fun x => UInt8.ofNat x.toNat := by
  rw [ByteArray.toList_eq]
  simp [strOf]
theorem sLt_lex {xs ys : List Int} (hx : Bytes xs) (hy : Bytes ys) : sLt xs ys = lexLt xs ys := by
  unfold sLt
  rw [strOf_list, strOf_list, bytesLess_lex hx hy]
theorem lexLt_irr : ∀ l : List Int, lexLt l l = false
  | [] => rfl
  | a :: l => by simp [lexLt, lexLt_irr l]
theorem lexLt_app : ∀ {a b : List Int} (r s : List Int), a.length = b.length → lexLt (a ++ r) (b ++ s) = (lexLt a b || (decide (a = b) && lexLt r s))
  | [], [], r, s, _ => by simp [lexLt]
  | [], _ :: _, _, _, h => by simp at h
  | _ :: _, [], _, _, h => by simp at h
  | a :: x, b :: y, r, s, h => by
    have ih := lexLt_app (a := x) (b := y) r s (by simpa using h)
    simp only [List.cons_append, lexLt, ih]
    by_cases c1 : a = b
    · subst c1
      simp
    · simp [c1]
theorem lexLt_be : ∀ (k : Nat) {m n : Int}, 0 ≤ m → 0 ≤ n → m < 256 ^ k → n < 256 ^ k → lexLt (be k m) (be k n) = decide (m < n)
  | 0, m, n, h0, h1, h2, h3 => by
    simp at h2 h3
    rw [show m = 0 by omega, show n = 0 by omega]
    rfl
  | k + 1, m, n, h0, h1, h2, h3 => by
    rw [Int.pow_succ] at h2 h3
    have ih := lexLt_be k (m := m / 256) (n := n / 256) (by omega) (by omega) (by omega) (by omega)
    rw [be, be, lexLt_app _ _ (by rw [be_len, be_len]), ih]
    have he : decide (be k (m / 256) = be k (n / 256)) = decide (m / 256 = n / 256) := by
      apply decide_eq_decide.2
      constructor
      · intro h
        have := congrArg num h
        rwa [num_be k _ (by omega) (by omega), num_be k _ (by omega) (by omega)] at this
      · intro h; rw [h]
    rw [he]
    simp only [lexLt, Bool.and_false, Bool.or_false]
    rw [Bool.eq_iff_iff]
    simp only [Bool.or_eq_true, Bool.and_eq_true, decide_eq_true_eq]
    omega
theorem be_inj {k : Nat} {m n : Int} (h0 : 0 ≤ m) (h1 : 0 ≤ n) (h2 : m < 256 ^ k) (h3 : n < 256 ^ k) (h : be k m = be k n) : m = n := by
  have := congrArg num h
  rwa [num_be k _ h0 h2, num_be k _ h1 h3] at this
theorem lex_gen {a b : api_Sector} (ha : RtP a) (hb : RtP b) (h : a.Gen ≠ b.Gen) : lexLt (enc a) (enc b) = decide (a.Gen < b.Gen) := by
  have h1 := ha.1; have h2 := hb.1
  unfold enc
  rw [lexLt_app _ _ (by rw [be_len, be_len]), lexLt_be 8 (by omega) (by omega) (by omega) (by omega), decide_eq_false (p := be 8 a.Gen = be 8 b.Gen) (fun he => h (be_inj (by omega) (by omega) (by omega) (by omega) he))]
  simp
theorem lex_place {a b : api_Sector} (ha : RtP a) (hb : RtP b) (h0 : a.Gen = b.Gen) (h : a.Place ≠ b.Place) : lexLt (enc a) (enc b) = decide (a.Place < b.Place) := by
  have h1 := ha.2.1; have h2 := hb.2.1
  unfold enc
  rw [h0, lexLt_app _ _ rfl, lexLt_irr, decide_eq_true rfl, lexLt_app _ _ (by rw [be_len, be_len]), lexLt_be 2 (by omega) (by omega) (by omega) (by omega), decide_eq_false (p := be 2 a.Place = be 2 b.Place) (fun he => h (be_inj (by omega) (by omega) (by omega) (by omega) he))]
  simp
theorem pure_SectorSorts (a0 a1 : api_Sector) (g0 : good_api_Sector a0) (g1 : good_api_Sector a1) : law16_SectorSorts_f a0 a1 = some true := by
  unfold law16_SectorSorts_f
  have hb0 : Bytes a0.Body := g0.2.2.2.2.2
  have hb1 : Bytes a1.Body := g1.2.2.2.2.2
  simp only [head16, Option.bind_some, Right_run, Put_run a0 hb0, Put_run a1 hb1, Put_run (⟨a0.Gen, a1.Place, a1.Parts, a1.Kept, a1.Body⟩ : api_Sector) hb1, if_true]
  split
  · rfl
  split
  · rfl
  by_cases h0 : RtP a0
  · by_cases h1 : RtP a1
    · rw [decide_eq_true h0, decide_eq_true h1, if_pos rfl, if_pos rfl]
      have h2 : RtP (⟨a0.Gen, a1.Place, a1.Parts, a1.Kept, a1.Body⟩ : api_Sector) := ⟨h0.1, h1.2⟩
      have p0 : putOf a0 = enc a0 := if_pos h0
      have p1 : putOf a1 = enc a1 := if_pos h1
      have p2 : putOf (⟨a0.Gen, a1.Place, a1.Parts, a1.Kept, a1.Body⟩ : api_Sector) = enc (⟨a0.Gen, a1.Place, a1.Parts, a1.Kept, a1.Body⟩ : api_Sector) := if_pos h2
      rw [p0, p1, p2, sLt_lex (enc_bytes hb0) (enc_bytes hb1), sLt_lex (enc_bytes hb0) (enc_bytes (s := ⟨a0.Gen, a1.Place, a1.Parts, a1.Kept, a1.Body⟩) hb1)]
      by_cases c1 : a0.Gen = a1.Gen
      · by_cases c2 : a0.Place = a1.Place
        · simp [c1, c2]
        · simp only [if_pos c1, if_neg c2, lex_place h0 h2 rfl c2, beq_self_eq_true, Option.bind_some]
      · rw [if_neg c1, lex_gen h0 h1 c1]
        by_cases c2 : a0.Place = a1.Place
        · simp [c2]
        · simp only [if_neg c2, lex_place h0 h2 rfl c2, beq_self_eq_true, Option.bind_some, if_true]
    · rw [decide_eq_true h0, decide_eq_false h1]; rfl
  · rw [decide_eq_false h0]; rfl
end Go.Proofs.Ytpijdclonniibaa
