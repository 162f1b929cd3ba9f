/- Loops that count, and what they leave: plain Lean. -/
import Derived.Test.YtpmkpiffbdcflaaCelB
set_option linter.unusedVariables false
set_option linter.unusedSimpArgs false
namespace Go.Proofs.Ytpmkpiffbdcflaa
open Go Go.RowKit
theorem w64 {x : Int} (h0 : -9223372036854775808 ≤ x) (h1 : x < 9223372036854775808) : IntKind.i64.wrap x = x := by
  rw [IntKind.wrap_i64]
  omega
theorem w64n {n : Nat} (h1 : n < 9223372036854775807) : IntKind.i64.wrap ((n : Int) + 1) = ((n + 1 : Nat) : Int) := by rw [w64 (by omega) (by omega)]; rfl
/-- A loop that counts to N, or leaves before. -/
theorem lpn_run {σ ρ : Type} {f : σ → Option (σ ⊕ ρ)} (I : Nat → σ → Prop) (Q : ρ → Prop) (N : Nat) (step : ∀ i s, i < N → I i s → (∃ s', f s = some (.inl s') ∧ I (i + 1) s') ∨ ∃ r, f s = some (.inr r) ∧ Q r) (fin : ∀ s, I N s → ∃ r, f s = some (.inr r) ∧ Q r) :
    ∀ (m i : Nat) (s : σ), N - i + 1 ≤ m → i ≤ N → I i s → ∃ r, lpn f m s = some r ∧ Q r
  | 0, i, s, h, _, _ => by omega
  | m + 1, i, s, h, hi, hI => by
    rcases Nat.lt_or_ge i N with hlt | hge
    · rcases step i s hlt hI with ⟨s', h1, h2⟩ | ⟨r, h1, h2⟩
      · obtain ⟨r, h3, h4⟩ := lpn_run I Q N step fin m (i + 1) s' (by omega) (by omega) h2
        exact ⟨r, by simp only [lpn, h1, h3], h4⟩
      · exact ⟨r, by simp only [lpn, h1], h2⟩
    · obtain rfl : i = N := by omega
      obtain ⟨r, h1, h2⟩ := fin s hI
      exact ⟨r, by simp only [lpn, h1], h2⟩
theorem lp_run {σ ρ : Type} {f : σ → Option (σ ⊕ ρ)} {s : σ} (I : Nat → σ → Prop) (Q : ρ → Prop) (N : Nat) (hN : N < 18446744073709551616) (h0 : I 0 s) (step : ∀ i s, i < N → I i s → (∃ s', f s = some (.inl s') ∧ I (i + 1) s') ∨ ∃ r, f s = some (.inr r) ∧ Q r) (fin : ∀ s, I N s → ∃ r, f s = some (.inr r) ∧ Q r) : ∃ r, lp f s = some r ∧ Q r :=
  lpn_run I Q N step fin _ 0 s (by omega) (by omega) h0
/-- The same, with no way out before the end. -/
theorem lp_all {σ ρ : Type} {f : σ → Option (σ ⊕ ρ)} {s : σ} (I : Nat → σ → Prop) (Q : ρ → Prop) (N : Nat) (hN : N < 18446744073709551616) (h0 : I 0 s) (step : ∀ i s, i < N → I i s → ∃ s', f s = some (.inl s') ∧ I (i + 1) s') (fin : ∀ s, I N s → ∃ r, f s = some (.inr r) ∧ Q r) : ∃ r, lp f s = some r ∧ Q r :=
  lp_run I Q N hN h0 (fun i s h1 h2 => .inl (step i s h1 h2)) fin
end Go.Proofs.Ytpmkpiffbdcflaa
