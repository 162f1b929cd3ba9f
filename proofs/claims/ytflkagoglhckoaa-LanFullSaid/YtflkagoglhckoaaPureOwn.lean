/- LanOwn and LanFull in plain Lean. -/
import Derived.Test.YtflkagoglhckoaaPureLan
import Derived.Test.YtflkagoglhckoaaGLanOwn
import Derived.Test.YtflkagoglhckoaaGLanFull
set_option linter.unusedVariables false
set_option linter.unusedSimpArgs false
namespace Go.Proofs.Ytflkagoglhckoaa
open Go Go.RowKit
theorem putb (S : lan_Lan) (t : Int) (b : List Int) : lan_Lan_Put_bor_f S t b = lan_Lan_Put_f S t b := rfl
theorem own_true (a0 a1 : Int) : law22_LanOwn_f a0 a1 = some true := by
  unfold law22_LanOwn_f
  have e : (⟨(⟨[]⟩, ⟨[]⟩)⟩ : lan_Lan) = L [] [] := rfl
  have s : Sm [[a0, a1]] := by intro x hx; simp at hx; subst hx; simp [M]
  have p1 : putOn [] [a0, a1] = [[a0, a1]] := rfl
  rw [head_ok, Option.bind_some, e, putb, put1 (by simp [M]) (by simp)]
  simp only [Option.bind_some, p1]
  rw [if_pos (by simp)]
  simp only [copy_arr, take_arr]
  rw [arr1 (by simp) s]
  simp only [show inB [[a0, a1]] 0 from by unfold inB; simp, if_true, Option.bind_some, Bool.false_eq_true, if_false]
  obtain ⟨r, hr, _⟩ := lp_all (f := law22_LanOwn_b0 a1) (s := ([[a0, a1]].getD (0 : Int).toNat [], 0)) (fun i s => s.2 = (i : Int) ∧ s.1.length = 2) (fun _ => True) 2 (by decide) ⟨rfl, rfl⟩ (by
    rintro i ⟨x, j⟩ hi ⟨h1, h2⟩
    simp only at h1 h2
    subst h1
    refine ⟨_, by dsimp only [law22_LanOwn_b0]; rw [if_pos (by omega), if_pos (by omega)], ?_, ?_⟩
    · exact w64n (by omega)
    · simp [h2]) (by
    rintro ⟨x, j⟩ ⟨h1, h2⟩
    simp only at h1 h2
    subst h1
    exact ⟨(), by dsimp only [law22_LanOwn_b0]; rw [if_neg (by omega)], trivial⟩)
  rw [hr, Option.bind_some, arr1 (by simp) s]
  simp only [show inB [[a0, a1]] 0 from by unfold inB; simp, if_true, Option.bind_some]
  simp
theorem fullp (i : Nat) (b : Int) (h : i < 2048) : putOn (List.replicate i [b]) [b] = List.replicate (i + 1) [b] := by
  unfold putOn
  rw [if_pos (by simpa using h), List.replicate_succ']
theorem fullq (b : Int) : putOn (List.replicate 2048 [b]) [b] = List.replicate 2048 [b] := by
  unfold putOn
  rw [if_neg (by rw [List.length_replicate]; omega)]
theorem sm_rep (n : Nat) (b : Int) : Sm (List.replicate n [b]) := by
  intro x hx
  rw [(List.mem_replicate.1 hx).2]
  simp [M]
theorem full_true (a0 : Bool) (a1 : Int) : law22_LanFull_f a0 a1 = some true := by
  unfold law22_LanFull_f
  have e : (⟨(⟨[]⟩, ⟨[]⟩)⟩ : lan_Lan) = L [] [] := rfl
  have hb : ([a1] : List Int).length ≤ M := by simp [M]
  have w1 : IntKind.i64.wrap (1 - 1) = 0 := by decide
  have w0 : IntKind.i64.wrap (1 - 0) = 1 := by decide
  have one : putOn [] [a1] = [[a1]] := rfl
  obtain ⟨F, G, hF, s1, hl, hl', hin, her, fq, fg⟩ : ∃ F G : List (List Int), List.replicate 2048 [a1] = F ∧ Sm F ∧ F.length = 2048 ∧ G.length = 2047 ∧ inB F 5 ∧ F.eraseIdx (5 : Int).toNat = G ∧ putOn F [a1] = F ∧ putOn G [a1] = F := by
    refine ⟨_, List.replicate 2047 [a1], rfl, sm_rep 2048 a1, List.length_replicate, List.length_replicate, ?_, ?_, fullq a1, fullp 2047 a1 (by decide)⟩
    · unfold inB; rw [List.length_replicate]; omega
    · rw [List.eraseIdx_replicate, if_pos (by decide)]
  rw [head_ok, Option.bind_some, e]
  cases a0
  · simp only [Bool.false_eq_true, if_false, Option.bind_some, w0]
    obtain ⟨r, hr, rfl⟩ := lp_all (f := law22_LanFull_b0 a1 0) (s := (0, L [] [])) (fun i s => s = ((i : Int), L (List.replicate i [a1]) [])) (fun r => r = .inl (L F [])) 2048 (by decide) rfl (by
      rintro i _ hi rfl
      refine ⟨_, ?_, rfl⟩
      dsimp only [law22_LanFull_b0]
      rw [if_pos (by omega), put0 hb (by simp; omega), Option.bind_some]
      simp only [fullp i a1 hi, List.length_replicate]
      rw [if_pos (by simpa using hi), w64n (by omega)]) (by
      rintro _ rfl
      exact ⟨_, by rw [hF]; dsimp only [law22_LanFull_b0]; rw [if_neg (by omega)], rfl⟩)
    rw [hr, Option.bind_some]
    simp only
    rw [put0 hb (by rw [hl]; omega)]
    simp only [Option.bind_some, fq]
    rw [put1 hb (by simp)]
    simp only [Option.bind_some, one, take_arr]
    rw [arr0 (by rw [hl]; omega) s1]
    simp only [if_pos hin, her, if_true, Option.bind_some]
    rw [put0 hb (by rw [hl']; omega)]
    simp only [Option.bind_some, many0, many1, fg, hl, hl', List.length_nil, List.length_cons]
    rfl
  · simp only [if_true, Option.bind_some, w1]
    obtain ⟨r, hr, rfl⟩ := lp_all (f := law22_LanFull_b0 a1 1) (s := (0, L [] [])) (fun i s => s = ((i : Int), L [] (List.replicate i [a1]))) (fun r => r = .inl (L [] F)) 2048 (by decide) rfl (by
      rintro i _ hi rfl
      refine ⟨_, ?_, rfl⟩
      dsimp only [law22_LanFull_b0]
      rw [if_pos (by omega), put1 hb (by simp; omega), Option.bind_some]
      simp only [fullp i a1 hi, List.length_replicate]
      rw [if_pos (by simpa using hi), w64n (by omega)]) (by
      rintro _ rfl
      exact ⟨_, by rw [hF]; dsimp only [law22_LanFull_b0]; rw [if_neg (by omega)], rfl⟩)
    rw [hr, Option.bind_some]
    simp only
    rw [put1 hb (by rw [hl]; omega)]
    simp only [Option.bind_some, fq]
    rw [put0 hb (by simp)]
    simp only [Option.bind_some, one, take_arr]
    rw [arr1 (by rw [hl]; omega) s1]
    simp only [if_pos hin, her, if_true, Option.bind_some]
    rw [put1 hb (by rw [hl']; omega)]
    simp only [Option.bind_some, many0, many1, fg, hl, hl', List.length_nil, List.length_cons]
    rfl
theorem pure_LanOwn (a0 a1 : Int) (_ : 0 ≤ a0 ∧ a0 < 256) (_ : 0 ≤ a1 ∧ a1 < 256) : law22_LanOwn_f a0 a1 = some true := own_true a0 a1
theorem pure_LanFull (a0 : Bool) (a1 : Int) (_ : 0 ≤ a1 ∧ a1 < 256) : law22_LanFull_f a0 a1 = some true := full_true a0 a1
end Go.Proofs.Ytflkagoglhckoaa
