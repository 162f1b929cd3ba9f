/- The statement SectorNoughts: plain Lean. -/
import Derived.Test.YtpijdclonniibaaSecH
import Derived.Test.YtpijdclonniibaaGSectorNoughts
set_option linter.unusedVariables false
set_option linter.unusedSimpArgs false
namespace Go.Proofs.Ytpijdclonniibaa
open Go Go.RowKit
theorem num_rep (n : Nat) : num (List.replicate n 0) = 0 := by
  induction n with
  | zero => rfl
  | succ n ih => rw [List.replicate_succ', num_snoc, ih]; rfl
theorem dec_zeros (n : Nat) : dec (List.replicate n 0) = (zSec, false) := by
  unfold dec
  rw [if_neg]
  rintro ⟨h1, h2, _⟩
  have h3 := h2.1.1
  have : (parse (List.replicate n 0)).Gen = 0 := by
    show IntKind.i64.wrap (num ((List.replicate n (0 : Int)).take 8)) = 0
    rw [List.take_replicate, num_rep]
    decide
  omega
theorem dec_len {b : List Int} (h : b.length ≠ 64) : dec b = (zSec, false) := by
  unfold dec
  rw [if_neg fun k => h k.1]
theorem enc_13 {s : api_Sector} (hr : RtP s) : (enc s).getD 13 0 = (s.Body.length : Int) ∧ (enc s).drop (14 + s.Body.length) = List.replicate (50 - s.Body.length) 0 := by
  obtain ⟨h1, h2, h3, h4, h5⟩ := id hr
  have d8 : (enc s).drop 8 = be 2 s.Place ++ (be 1 s.Parts ++ (be 2 s.Kept ++ (be 1 s.Body.length ++ (s.Body ++ List.replicate (50 - s.Body.length) 0)))) := List.drop_left' (be_len 8 _)
  have d10 : (enc s).drop 10 = be 1 s.Parts ++ (be 2 s.Kept ++ (be 1 s.Body.length ++ (s.Body ++ List.replicate (50 - s.Body.length) 0))) := by rw [← List.drop_drop (i := 2) (j := 8), d8]; exact List.drop_left' (be_len 2 _)
  have d11 : (enc s).drop 11 = be 2 s.Kept ++ (be 1 s.Body.length ++ (s.Body ++ List.replicate (50 - s.Body.length) 0)) := by rw [← List.drop_drop (i := 1) (j := 10), d10]; exact List.drop_left' (be_len 1 _)
  have d13 : (enc s).drop 13 = be 1 s.Body.length ++ (s.Body ++ List.replicate (50 - s.Body.length) 0) := by rw [← List.drop_drop (i := 2) (j := 11), d11]; exact List.drop_left' (be_len 2 _)
  have d14 : (enc s).drop 14 = s.Body ++ List.replicate (50 - s.Body.length) 0 := by rw [← List.drop_drop (i := 1) (j := 13), d13]; exact List.drop_left' (be_len 1 _)
  constructor
  · have := take1 (b := enc s) (a := 13) (by rw [enc_len h5.2]; decide)
    rw [d13, List.take_left' (be_len 1 _), be_one (by omega) (by omega)] at this
    simpa using this.symm
  · rw [← List.drop_drop (i := s.Body.length) (j := 14), d14]
    exact List.drop_left' rfl
/-- Another one than a nought behind the body. -/
theorem dec_set {s : api_Sector} (hr : RtP s) (hb : Bytes s.Body) {k : Nat} {c : Int} (h0 : 14 + s.Body.length ≤ k) (h1 : k < 64) (hc : 0 ≤ c ∧ c < 256) : dec ((enc s).set k c) = if c = 0 then (s, true) else (zSec, false) := by
  obtain ⟨e13, etail⟩ := enc_13 hr
  have hl := enc_len hr.2.2.2.2.2
  have hget : (enc s)[k]? = some 0 := by
    have : ((enc s).drop (14 + s.Body.length))[k - (14 + s.Body.length)]? = (List.replicate (50 - s.Body.length) (0 : Int))[k - (14 + s.Body.length)]? := by rw [etail]
    rw [List.getElem?_drop, List.getElem?_replicate, if_pos (by omega), show 14 + s.Body.length + (k - (14 + s.Body.length)) = k from by omega] at this
    exact this
  by_cases c0 : c = 0
  · subst c0
    rw [if_pos rfl]
    have : (enc s).set k 0 = enc s := by
      apply List.ext_getElem?
      intro i
      rw [List.getElem?_set]
      by_cases hik : k = i
      · subst hik; rw [if_pos rfl, if_pos (by omega), hget]
      · rw [if_neg hik]
    rw [this, dec_enc hr hb]
  · rw [if_neg c0]
    unfold dec
    rw [if_neg]
    rintro ⟨k1, k2, k3⟩
    have hb2 : Bytes ((enc s).set k c) := bytes_set (enc_bytes hb) hc k
    have g13 : ((enc s).set k c).getD 13 0 = (s.Body.length : Int) := by
      rw [List.getD_eq_getElem?_getD, List.getElem?_set, if_neg (by omega), ← List.getD_eq_getElem?_getD, e13]
    have h2 := ((ok_iff hb2 k1 k2).1 k3).2
    rw [g13, Int.toNat_natCast] at h2
    have h3 : (((enc s).set k c).drop (14 + s.Body.length))[k - (14 + s.Body.length)]? = (List.replicate (50 - s.Body.length) (0 : Int))[k - (14 + s.Body.length)]? := by rw [h2]
    have hlen := hr.2.2.2.2
    rw [List.getElem?_drop, List.getElem?_replicate, if_pos (by omega), show 14 + s.Body.length + (k - (14 + s.Body.length)) = k from by omega, List.getElem?_set, if_pos rfl, if_pos (by omega)] at h3
    injection h3 with h3
    exact c0 h3
theorem pure_SectorNoughts (a0 : api_Sector) (a1 a2 : Int) (g0 : good_api_Sector a0) (g1 : 0 ≤ a1 ∧ a1 < 256) (g2 : 0 ≤ a2 ∧ a2 < 256) : law16_SectorNoughts_f a0 a1 a2 = some true := by
  unfold law16_SectorNoughts_f
  have hb0 : Bytes a0.Body := g0.2.2.2.2.2
  have w1 : IntKind.i64.wrap a1 = a1 := w64 (by omega) (by omega)
  simp only [head16, Option.bind_some, Put_run a0 hb0, w1, Get_run (bytes_rep _), dec_zeros, Bool.false_eq_true, if_false, if_true]
  by_cases hbl : (a0.Body.length : Int) > 900
  · rw [if_pos hbl]
  rw [if_neg hbl]
  rw [if_pos (by omega)]
  by_cases h : RtP a0
  · have hl : (putOf a0).length = 64 := by rw [putOf_len, if_pos h]
    have hp : putOf a0 = enc a0 := if_pos h
    have hen := enc_bytes hb0
    have h5 := h.2.2.2.2
    have t1 : a1.tmod 64 = a1 % 64 := Int.tmod_eq_emod_of_nonneg g1.1
    have w5 : IntKind.i64.wrap (50 - (a0.Body.length : Int)) = 50 - (a0.Body.length : Int) := w64 (by omega) (by omega)
    have w4 : IntKind.i64.wrap (14 + (a0.Body.length : Int)) = 14 + (a0.Body.length : Int) := w64 (by omega) (by omega)
    have t2 : a1.tmod (max (50 - (a0.Body.length : Int)) 1) = a1 % (max (50 - (a0.Body.length : Int)) 1) := Int.tmod_eq_emod_of_nonneg g1.1
    have t3 : 0 ≤ a1 % (max (50 - (a0.Body.length : Int)) 1) ∧ a1 % (max (50 - (a0.Body.length : Int)) 1) < max (50 - (a0.Body.length : Int)) 1 := ⟨Int.emod_nonneg _ (by omega), Int.emod_lt_of_pos _ (by omega)⟩
    generalize hr : a1 % (max (50 - (a0.Body.length : Int)) 1) = r at *
    have w6 : IntKind.i64.wrap (14 + (a0.Body.length : Int) + r) = ((14 + a0.Body.length + r.toNat : Nat) : Int) := by rw [w64 (by omega) (by omega)]; omega
    have hd1 : dec (((enc a0).take (a1 % 64).toNat).drop (0 : Int).toNat) = (zSec, false) := dec_len (by rw [List.length_drop, List.length_take]; omega)
    have hd2 : dec (enc a0 ++ [a2]) = (zSec, false) := dec_len (by rw [List.length_append, ← hp, hl, List.length_singleton]; decide)
    have hb3 : Bytes (enc a0 ++ [a2]) := bytes_app hen (fun x hx => by rw [List.mem_singleton.1 hx]; exact g2)
    have hl' : (enc a0).length = 64 := by rw [← hp]; exact hl
    simp only [hp, t1, w5, w4, t2, w6, Get_run (bytes_drop (bytes_take hen _) _), hd1, Get_run hb3, hd2, Option.bind_some, Bool.false_eq_true, if_false, Bool.not_false, hl']
    rw [if_neg (by decide), if_pos (by omega), if_pos (by decide), if_pos (by decide), if_pos (by omega)]
    by_cases hk : ((14 + a0.Body.length + r.toNat : Nat) : Int) ≥ 64
    · rw [if_pos hk]
    · rw [if_neg hk, if_pos (by omega), if_pos (by omega), Int.toNat_natCast, Get_run (bytes_set hen g2 _), dec_set h hb0 (by omega) (by omega) g2]
      simp only [Option.bind_some]
      by_cases c0 : a2 = 0
      · simp [c0]
      · simp [c0, Same_run, zSec]
  · have hl : (putOf a0).length = 0 := by rw [putOf_len, if_neg h]
    rw [if_pos (by omega)]
end Go.Proofs.Ytpijdclonniibaa
