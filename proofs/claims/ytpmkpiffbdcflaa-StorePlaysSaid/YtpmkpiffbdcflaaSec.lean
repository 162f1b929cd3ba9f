/- Sectors: what Right, Put and Get compute, and the document's: plain Lean. -/
import Derived.Test.YtpmkpiffbdcflaaG0
import Derived.Test.YtpmkpiffbdcflaaNum
set_option linter.unusedVariables false
set_option linter.unusedSimpArgs false
namespace Go.Proofs.Ytpmkpiffbdcflaa
open Go Go.RowKit
def RtP (s : api_Sector) : Prop := (1 ≤ s.Gen ∧ s.Gen ≤ 281474976710656) ∧ (0 ≤ s.Place ∧ s.Place ≤ 4096) ∧ (1 ≤ s.Parts ∧ s.Parts ≤ 32) ∧ (0 ≤ s.Kept ∧ s.Kept ≤ 1000) ∧ (1 ≤ s.Body.length ∧ s.Body.length ≤ 50)
instance (s : api_Sector) : Decidable (RtP s) := by unfold RtP; infer_instance
def zSec : api_Sector := ⟨0, 0, 0, 0, []⟩
def enc (s : api_Sector) : List Int := be 8 s.Gen ++ (be 2 s.Place ++ (be 1 s.Parts ++ (be 2 s.Kept ++ (be 1 s.Body.length ++ (s.Body ++ List.replicate (50 - s.Body.length) 0)))))
/-! ### Right -/
theorem right_run (l : List sector_field) (hl : l.length < 9223372036854775807) : sector_right_f l = some (l.all fun f => decide (f.least ≤ f.n) && decide (f.n ≤ f.most)) := by
  unfold sector_right_f
  have key : ∃ r, lp (sector_right_b0 l) (0 : Int) = some r ∧ (match r with | Sum.inl _ => true | Sum.inr b => b) = l.all fun f => decide (f.least ≤ f.n) && decide (f.n ≤ f.most) := by
    refine lp_run (f := sector_right_b0 l) (s := (0 : Int)) (fun i (s : Int) => s = (i : Int) ∧ (l.take i).all (fun f => decide (f.least ≤ f.n) && decide (f.n ≤ f.most)) = true) (fun r => (match r with | Sum.inl _ => true | Sum.inr b => b) = l.all fun f => decide (f.least ≤ f.n) && decide (f.n ≤ f.most)) l.length (by omega) ⟨rfl, by simp⟩ ?_ ?_
    · rintro i s hi ⟨rfl, hI⟩
      have hg : l.getD i (⟨0, 0, 0, 0⟩ : sector_field) = l[i] := by rw [List.getD_eq_getElem?_getD, List.getElem?_eq_getElem hi]; rfl
      have hmem : l[i] ∈ l := List.getElem_mem hi
      unfold sector_right_b0
      rw [if_pos (by omega), if_pos (by omega), Int.toNat_natCast, hg]
      by_cases c1 : l[i].n < l[i].least
      · refine .inr ⟨_, if_pos c1, ?_⟩
        exact (List.all_eq_false.2 ⟨_, hmem, by simp; omega⟩).symm
      · rw [if_neg c1]
        by_cases c2 : l[i].n > l[i].most
        · refine .inr ⟨_, if_pos c2, ?_⟩
          exact (List.all_eq_false.2 ⟨_, hmem, by simp; omega⟩).symm
        · rw [if_neg c2]
          refine .inl ⟨_, rfl, by rw [w64n (by omega)], ?_⟩
          rw [List.take_succ_eq_append_getElem hi, List.all_append, hI]
          simp
          omega
    · rintro s ⟨rfl, hI⟩
      unfold sector_right_b0
      rw [if_neg (by omega)]
      rw [List.take_length] at hI
      exact ⟨_, rfl, hI.symm⟩
  obtain ⟨r, h1, h2⟩ := key
  rw [h1, ← h2]
  cases r <;> rfl
theorem Right_run (s : api_Sector) : sector_Right_f s = some (decide (RtP s)) := by
  unfold sector_Right_f sector_fields_f
  rw [Option.bind_some, right_run _ (by simp), Option.bind_some]
  congr 1
  simp only [List.all_cons, List.all_nil, Bool.and_true]
  rw [Bool.eq_iff_iff, decide_eq_true_iff]
  simp only [Bool.and_eq_true, decide_eq_true_eq]
  constructor
  · rintro ⟨h1, h2, h3, h4, h5⟩
    exact ⟨h1, h2, h3, h4, by omega, by omega⟩
  · rintro ⟨h1, h2, h3, h4, h5⟩
    exact ⟨h1, h2, h3, h4, by omega, by omega⟩
/-! ### Put -/
theorem fdiv_pow {n : Int} {k : Nat} : n.fdiv (2 ^ (8 * k)) = n / 256 ^ k := by
  rw [Int.fdiv_eq_ediv_of_nonneg _ (Int.pow_nonneg (by decide)), Int.pow_mul]
  rfl
theorem u8_wrap (x : Int) : IntKind.u8.wrap x = x % 256 := by simp [IntKind.wrap, IntKind.bits, IntKind.signed]
theorem set_mid {a : List Int} {r : Nat} {v : Int} : (a ++ List.replicate (r + 1) 0).set a.length v = (a ++ [v]) ++ List.replicate r 0 := by
  rw [List.set_append_right _ _ (Nat.le_refl _), Nat.sub_self, List.replicate_succ, List.set_cons_zero, List.append_assoc]
  rfl
/-- One field's bytes. -/
theorem field_run {l : List sector_field} {i : Nat} {n : Int} {many : Nat} (hn : (l.getD i (⟨0, 0, 0, 0⟩ : sector_field)).n = n) {a : List Int} (ha : Bytes a) (hm : many ≤ 8) (hle : a.length + many ≤ 64) (x : Arr 64) (hx : x.l = a ++ List.replicate (64 - a.length) 0) :
    ∃ y : Arr 64, lp (sector_bytes_b1 l (i : Int)) ((a.length : Int), (many : Int) - 1, x) = some (((a.length + many : Nat) : Int), y) ∧ y.l = (a ++ be many n) ++ List.replicate (64 - (a.length + many)) 0 := by
  have key : ∀ (j : Nat) (x : Arr 64), j ≤ many → x.l = (a ++ (be many n).take j) ++ List.replicate (64 - (a.length + j)) 0 → ∃ y : Arr 64, lpn (sector_bytes_b1 l (i : Int)) (many - j + 1) (((a.length + j : Nat) : Int), (many : Int) - 1 - j, x) = some (((a.length + many : Nat) : Int), y) ∧ y.l = (a ++ be many n) ++ List.replicate (64 - (a.length + many)) 0 := by
    intro j
    induction h : many - j generalizing j with
    | zero =>
      intro x hj hx
      obtain rfl : j = many := by omega
      refine ⟨x, ?_, by rw [hx, List.take_of_length_le (by rw [be_len]; exact Nat.le_refl _)]⟩
      simp only [lpn, sector_bytes_b1]
      rw [if_neg (by omega)]
    | succ q ih =>
      intro x hj hx
      have hjm : j < many := by omega
      have hk : ((many : Int) - 1 - j) = ((many - 1 - j : Nat) : Int) := by omega
      have h8 : IntKind.i64.wrap (8 * ((many : Int) - 1 - j)) = ((8 * (many - 1 - j) : Nat) : Int) := by rw [w64 (by omega) (by omega)]; omega
      have hv : IntKind.u8.wrap (n.fdiv (2 ^ (min (IntKind.i64.wrap (8 * ((many : Int) - 1 - j))).toNat 64))) = n / 256 ^ (many - 1 - j) % 256 := by
        rw [h8, Int.toNat_natCast, Nat.min_eq_left (by omega), fdiv_pow, u8_wrap]
      have hput : (x.put ((a.length + j : Nat) : Int) (n / 256 ^ (many - 1 - j) % 256)).l = (a ++ (be many n).take (j + 1)) ++ List.replicate (64 - (a.length + (j + 1))) 0 := by
        rw [Arr.put_l (by omega), hx, Int.toNat_natCast]
        have e1 : 64 - (a.length + j) = (64 - (a.length + (j + 1))) + 1 := by omega
        have e2 : a.length + j = (a ++ (be many n).take j).length := by rw [List.length_append, List.length_take, be_len]; omega
        have e3 := set_mid (a := a ++ (be many n).take j) (r := 64 - (a.length + (j + 1))) (v := n / 256 ^ (many - 1 - j) % 256)
        rw [← e2] at e3
        rw [e1, e3, be_take hjm, List.append_assoc a]
      obtain ⟨y, h1, h2⟩ := ih (j + 1) (by omega) _ (by omega) hput
      refine ⟨y, ?_, h2⟩
      have hstep : sector_bytes_b1 l (i : Int) (((a.length + j : Nat) : Int), (many : Int) - 1 - j, x) = some (.inl (((a.length + (j + 1) : Nat) : Int), (many : Int) - 1 - (j + 1 : Nat), x.put ((a.length + j : Nat) : Int) (n / 256 ^ (many - 1 - j) % 256))) := by
        unfold sector_bytes_b1
        simp only []
        rw [if_pos (by omega), if_pos (by rw [h8]; omega), if_pos (by omega), Int.toNat_natCast, hn, hv, w64 (by omega) (by omega), w64 (by omega) (by omega)]
        simp only [Option.some.injEq, Sum.inl.injEq, Prod.mk.injEq, and_true]
        omega
      show lpn _ (q + 1 + 1) _ = _
      simp only [lpn, hstep]
      exact h1
  obtain ⟨y, h1, h2⟩ := key 0 x (Nat.zero_le _) (by rw [hx]; simp)
  refine ⟨y, ?_, h2⟩
  unfold lp
  refine lpn_more (n := many - 0 + 1) ?_ (by omega)
  simpa using h1
def flds (s : api_Sector) : List (Int × Nat) := [(s.Gen, 8), (s.Place, 2), (s.Parts, 1), (s.Kept, 2), ((s.Body.length : Int), 1)]
def hdOf (s : api_Sector) (i : Nat) : List Int := ((flds s).take i).flatMap fun p => be p.2 p.1
theorem bytes_run (s : api_Sector) (hb : Bytes s.Body) (hl : s.Body.length ≤ 50) : ∃ x : Arr 64, sector_bytes_f s = some x ∧ x.l = enc s := by
  unfold sector_bytes_f sector_fields_f
  rw [Option.bind_some]
  obtain ⟨l, hdl⟩ : ∃ l, l = ([(⟨s.Gen, 8, 1, 281474976710656⟩ : sector_field), (⟨s.Place, 2, 0, 4096⟩ : sector_field), (⟨s.Parts, 1, 1, 32⟩ : sector_field), (⟨s.Kept, 2, 0, 1000⟩ : sector_field), (⟨(s.Body.length : Int), 1, 1, 50⟩ : sector_field)]) := ⟨_, rfl⟩
  rw [← hdl]
  have hll : l.length = 5 := by rw [hdl]; rfl
  have hbytes : ∀ i, Bytes (hdOf s i) := fun i x hx => by
    obtain ⟨p, _, hp⟩ := List.mem_flatMap.1 hx
    exact be_bytes _ _ x hp
  have key : ∃ r, lp (sector_bytes_b0 l) ((0 : Int), (0 : Int), Arr.zero 64) = some r ∧ r.l = hdOf s 5 ++ List.replicate 50 0 := by
    refine lp_all (f := sector_bytes_b0 l) (s := ((0 : Int), (0 : Int), Arr.zero 64)) (fun i (q : Int × Int × Arr 64) => q.1 = ((hdOf s i).length : Int) ∧ q.2.1 = (i : Int) ∧ q.2.2.l = hdOf s i ++ List.replicate (64 - (hdOf s i).length) 0) (fun r => r.l = hdOf s 5 ++ List.replicate 50 0) 5 (by decide) ⟨rfl, rfl, rfl⟩ ?_ ?_
    · rintro i ⟨at_, ii, x⟩ hi ⟨h1, h2, h3⟩
      simp only at h1 h2 h3
      subst h1 h2
      have hstep : ∀ (n : Int) (many : Nat), (l.getD i (⟨0, 0, 0, 0⟩ : sector_field)).n = n → (l.getD i (⟨0, 0, 0, 0⟩ : sector_field)).many = (many : Int) → 1 ≤ many → many ≤ 8 → (hdOf s i).length + many ≤ 64 → hdOf s (i + 1) = hdOf s i ++ be many n → ∃ s', sector_bytes_b0 l (((hdOf s i).length : Int), (i : Int), x) = some (.inl s') ∧ s'.1 = ((hdOf s (i + 1)).length : Int) ∧ s'.2.1 = ((i + 1 : Nat) : Int) ∧ s'.2.2.l = hdOf s (i + 1) ++ List.replicate (64 - (hdOf s (i + 1)).length) 0 := by
        intro n many g1 g2 g3 g4 g5 g6
        obtain ⟨y, k1, k2⟩ := field_run (l := l) (i := i) g1 (hbytes i) g4 g5 x h3
        unfold sector_bytes_b0
        simp only []
        rw [if_pos (by omega), if_pos (by omega), Int.toNat_natCast, g2, w64 (by omega) (by omega), k1]
        have hlen : (hdOf s (i + 1)).length = (hdOf s i).length + many := by rw [g6, List.length_append, be_len]
        refine ⟨_, rfl, by rw [hlen], by rw [w64n (by omega)], ?_⟩
        rw [hlen, g6]
        exact k2
      match i, hi with
      | 0, _ => exact hstep s.Gen 8 (by rw [hdl]; rfl) (by rw [hdl]; rfl) (by decide) (by decide) (by simp [hdOf, flds, be_len]) (by simp [hdOf, flds])
      | 1, _ => exact hstep s.Place 2 (by rw [hdl]; rfl) (by rw [hdl]; rfl) (by decide) (by decide) (by simp [hdOf, flds, be_len]) (by simp [hdOf, flds])
      | 2, _ => exact hstep s.Parts 1 (by rw [hdl]; rfl) (by rw [hdl]; rfl) (by decide) (by decide) (by simp [hdOf, flds, be_len]) (by simp [hdOf, flds])
      | 3, _ => exact hstep s.Kept 2 (by rw [hdl]; rfl) (by rw [hdl]; rfl) (by decide) (by decide) (by simp [hdOf, flds, be_len]) (by simp [hdOf, flds])
      | 4, _ => exact hstep s.Body.length 1 (by rw [hdl]; rfl) (by rw [hdl]; rfl) (by decide) (by decide) (by simp [hdOf, flds, be_len]) (by simp [hdOf, flds])
      | _ + 5, h => omega
    · rintro ⟨at_, ii, x⟩ ⟨h1, h2, h3⟩
      simp only at h1 h2 h3
      subst h1 h2
      unfold sector_bytes_b0
      simp only []
      rw [if_neg (by omega)]
      refine ⟨_, rfl, ?_⟩
      have h14 : (hdOf s 5).length = 14 := by simp [hdOf, flds, be_len]
      rw [h14] at h3
      exact h3
  obtain ⟨r, h1, h2⟩ := key
  rw [h1, Option.bind_some]
  refine ⟨_, rfl, ?_⟩
  have h14 : (hdOf s 5).length = 14 := by simp [hdOf, flds, be_len]
  rw [Arr.cpy_l (by decide) hb, h2]
  have e1 : (hdOf s 5 ++ List.replicate 50 0).take 14 = hdOf s 5 := by rw [List.take_append_of_le_length (by omega), List.take_of_length_le (by omega)]
  rw [e1, Nat.min_eq_left (by omega), List.take_of_length_le (Nat.le_refl _), List.drop_append, List.drop_eq_nil_of_le (by omega), h14, List.drop_replicate]
  simp only [enc, hdOf, flds, List.take_succ_cons, List.take_zero, List.flatMap_cons, List.flatMap_nil, List.append_nil, List.append_assoc, List.nil_append]
  rw [show 50 - (14 + s.Body.length - 14) = 50 - s.Body.length from by omega]
theorem enc_len {s : api_Sector} (hl : s.Body.length ≤ 50) : (enc s).length = 64 := by simp only [enc, List.length_append, be_len, List.length_replicate]; omega
theorem enc_bytes {s : api_Sector} (hb : Bytes s.Body) : Bytes (enc s) :=
  bytes_app (be_bytes _ _) (bytes_app (be_bytes _ _) (bytes_app (be_bytes _ _) (bytes_app (be_bytes _ _) (bytes_app (be_bytes _ _) (bytes_app hb (bytes_rep _))))))
def putOf (s : api_Sector) : List Int := if RtP s then enc s else []
theorem putOf_bytes {s : api_Sector} (hb : Bytes s.Body) : Bytes (putOf s) := by
  unfold putOf
  split
  · exact enc_bytes hb
  · intro x hx; cases hx
theorem Put_run (s : api_Sector) (hb : Bytes s.Body) : sector_Put_f s = some (putOf s) := by
  unfold sector_Put_f putOf
  rw [Right_run, Option.bind_some]
  by_cases h : RtP s
  · obtain ⟨x, h1, h2⟩ := bytes_run s hb h.2.2.2.2.2
    rw [if_pos h, if_pos (by simpa using h), h1, Option.bind_some, h2]
  · rw [if_neg h, if_neg (by simpa using h)]
end Go.Proofs.Ytpmkpiffbdcflaa
