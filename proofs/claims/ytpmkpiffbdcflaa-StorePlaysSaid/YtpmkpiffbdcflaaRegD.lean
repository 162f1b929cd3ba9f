/- Regions, plain: the reference reads the same. -/
import Derived.Test.YtpmkpiffbdcflaaRegS
import Derived.Test.YtpmkpiffbdcflaaDiskR
import Derived.Test.YtpmkpiffbdcflaaSecGR
import Derived.Test.YtpmkpiffbdcflaaGRL
import Derived.Test.YtpmkpiffbdcflaaGRL
set_option linter.unusedVariables false
set_option linter.unusedSimpArgs false
namespace Go.Proofs.Ytpmkpiffbdcflaa
open Go Go.RowKit
def opS : Option api_Sector → api_Sector × Bool
  | none => (zSec, false)
  | some s => (s, true)
theorem rsector_eq {n : Nat} {d : disk_Disk} {r : ref15_Disk} (R : Rf n d r) (W : WFd n d) (hm : d.pending.length ≤ 1000000) (hn : n ≤ 4096) {a lim p : Int} (hp : 0 ≤ p) : ref17_sector_f r a lim p = some (opS (sa (rdv d) a lim p)) := by
  unfold ref17_sector_f sa
  by_cases c1 : a < 0
  · rw [if_pos c1, if_neg (by omega)]; rfl
  · rw [if_neg c1]
    by_cases c2 : a > 4096
    · rw [if_pos c2]
      by_cases c3 : p < lim ∧ 0 ≤ a
      · rw [if_pos c3, rdv_out W (by omega), if_neg (by rintro ⟨h, _⟩; cases h)]; rfl
      · rw [if_neg c3]; rfl
    · rw [if_neg c2]
      by_cases c3 : p ≥ lim
      · rw [if_pos c3, if_neg (by omega)]; rfl
      · rw [if_neg c3, if_pos (by omega : p < lim ∧ 0 ≤ a)]
        by_cases c4 : p > 4096
        · rw [if_pos c4, rdv_out W (by omega), if_neg (by rintro ⟨h, _⟩; cases h)]; rfl
        · rw [if_neg c4, w64 (by omega) (by omega), rread_eq R W hm, read_eq W]
          dsimp only [Option.bind_some]
          by_cases c5 : (rdv d (a + p)).2 = 0
          · rw [if_neg (not_not_intro c5), ref_Get_run (rdv_bytes d _)]
            dsimp only [Option.bind_some]
            by_cases c6 : (dec (rdv d (a + p)).1).2 = true
            · rw [if_pos ⟨c5, c6⟩, c6]; rfl
            · rw [if_neg fun h => c6 h.2]
              have c7 : (dec (rdv d (a + p)).1).2 = false := by simpa using c6
              rw [c7, (dec_false c7).2]; rfl
          · rw [if_pos c5, if_neg fun h => c5 h.1]; rfl
theorem rgreatest_eq {n : Nat} {d : disk_Disk} {r : ref15_Disk} (R : Rf n d r) (W : WFd n d) (hm : d.pending.length ≤ 1000000) (hn : n ≤ 4096) {a lim : Int} : ref17_Greatest_f r a lim = some (gr (fa (rdv d) a lim) 5000) := by
  unfold ref17_Greatest_f
  obtain ⟨N, hN⟩ : ∃ N : Nat, (N : Int) = max (min lim 4097) 0 := ⟨(max (min lim 4097) 0).toNat, by omega⟩
  have key : ∃ q, lp (ref17_Greatest_b0 r a lim) (0, 0) = some q ∧ q = gr (fa (rdv d) a lim) N := by
    refine lp_all (fun k (s : Int × Int) => s = (gr (fa (rdv d) a lim) k, (k : Int))) _ N (by omega) rfl ?_ ?_
    · rintro k s hk rfl
      refine ⟨(gr (fa (rdv d) a lim) (k + 1), ((k + 1 : Nat) : Int)), ?_, rfl⟩
      unfold ref17_Greatest_b0
      dsimp only
      rw [if_pos (by omega)]
      dsimp only [Option.bind_some]
      rw [if_pos (decide_eq_true (by omega)), rsector_eq R W hm hn (by omega)]
      dsimp only [Option.bind_some]
      rw [show gr (fa (rdv d) a lim) (k + 1) = match fa (rdv d) a lim k with | some s => max (gr (fa (rdv d) a lim) k) s.Gen | none => gr (fa (rdv d) a lim) k from rfl]
      rw [← w64n (n := k) (by omega)]
      show _ = some (Sum.inl ((match sa (rdv d) a lim (k : Int) with | some s => max (gr (fa (rdv d) a lim) k) s.Gen | none => gr (fa (rdv d) a lim) k), IntKind.i64.wrap ((k : Int) + 1)))
      cases sa (rdv d) a lim (k : Int) with
      | none => rfl
      | some s => rfl
    · rintro s rfl
      refine ⟨gr (fa (rdv d) a lim) N, ?_, rfl⟩
      unfold ref17_Greatest_b0
      dsimp only
      by_cases c : (N : Int) < lim
      · rw [if_pos c]
        dsimp only [Option.bind_some]
        rw [if_neg (by simp; omega)]
      · rw [if_neg c]
        dsimp only [Option.bind_some]
        rw [if_neg (by simp)]
  obtain ⟨q, h1, rfl⟩ := key
  rw [h1]
  dsimp only [Option.bind_some]
  rw [gr_eq (K := N) (j := 5000) (fun k hk => fa_end W (by omega)) (by omega)]
end Go.Proofs.Ytpmkpiffbdcflaa
