/- Proved: moved by months twice is moved by both, of days up to 28; there and back, too. No condition. -/
import Derived.Test.YtkfbmplhcigopaaPCivF7
import Derived.Test.YtkfbmplhcigopaaCivP
set_option linter.unusedSimpArgs false
set_option linter.unusedVariables false
namespace Go.Proofs.Ytkfbmplhcigopaa.Pure
open Go.RowKit Go.Proofs.Ytkfbmplhcigopaa Go.Proofs.Ytkfbmplhcigopaa.PCiv Go.Proofs.YtkfbmplhcigopaaW.PrintWords Go.Proofs.YtkfbmplhcigopaaW.PrintLast Go.Proofs.YtkfbmplhcigopaaW.PrintMore

namespace CivilStepsPf
theorem date_f (n : Int) : civil_Date.f n = some (Civ.date n) := rfl
theorem move_f (k : Nat) (_hk : 3 ≤ k) (n b : Int) : civil_Move.f k n b = some (Civ.move n b) := rfl

theorem awake_f (k : Nat) (hk : 3 ≤ k) : quitrentlaw03_awake.f k = some true := by
  unfold quitrentlaw03_awake.f
  rw [days_f k (by omega), date_f, move_f k hk, days_f k (by omega), date_f]
  simp only [Option.bind_some, weekday_f _ (show (719163 : Int) ≤ 9223372036854775807 by omega), leap_f, long_f k (show 2 ≤ k by omega)]
  decide +kernel

theorem proved : quitrentlaw03_CivilSteps.Pure := by
  intro n s t _ _ _
  refine ⟨8, ?_⟩
  unfold quitrentlaw03_CivilSteps.f
  rw [awake_f 8 (by omega)]
  simp only [Option.bind_some]
  rw [if_pos trivial]
  by_cases h1 : s < -40000
  · rw [if_pos h1]; simp only [quitrentlaw03_CivilSteps.j0]; rfl
  rw [if_neg h1]
  by_cases h2 : s > 40000
  · rw [if_pos h2]; simp only [quitrentlaw03_CivilSteps.j0]; rfl
  rw [if_neg h2]
  by_cases h3 : t < -40000
  · rw [if_pos h3]; simp only [quitrentlaw03_CivilSteps.j0]; rfl
  rw [if_neg h3]
  by_cases h4 : t > 40000
  · rw [decide_eq_true h4]; simp only [quitrentlaw03_CivilSteps.j0]; rfl
  rw [decide_eq_false h4]
  simp only [quitrentlaw03_CivilSteps.j0]
  rw [if_neg (by decide), date_f]
  simp only [Option.bind_some]
  by_cases h : 1 ≤ n ∧ n ≤ 999668
  · obtain ⟨y, m, d, hv, hnum, hy, _⟩ := Civ.date_of n h.1 h.2
    rw [← hnum, Civ.date_num y m d hv hy]
    simp only
    rw [if_pos trivial]
    by_cases hd : d > 28
    · rw [decide_eq_true hd]; simp only [quitrentlaw03_CivilSteps.j1]; rfl
    rw [decide_eq_false hd]
    simp only [quitrentlaw03_CivilSteps.j1]
    rw [if_neg (by decide), move_f 6 (by omega), Civ.move_small y m d s hv hy (by omega)]
    simp only [Option.bind_some]
    obtain ⟨v0, v1, v2, v3, v4⟩ := hv
    have hv : Civ.valid y m d := ⟨v0, v1, v2, v3, v4⟩
    by_cases ha : 12 * y + m - 1 + s < 12 ∨ 32856 ≤ 12 * y + m - 1 + s
    · rw [if_pos ha]; simp
    rw [if_neg ha]
    simp only
    have hva := Civ.month_of (12 * y + m - 1 + s) (by omega) d v3 (by omega)
    have hya : (12 * y + m - 1 + s) / 12 ≤ 2737 := by omega
    rw [if_pos trivial, move_f 6 (by omega), move_f 6 (by omega), move_f 6 (by omega), date_f, w64 (n := s + t) (by omega) (by omega), w64 (n := -s) (by omega) (by omega),
      Civ.move_small _ _ d t hva hya (by omega), Civ.move_small _ _ d (-s) hva hya (by omega), Civ.move_small y m d (s + t) hv hy (by omega), Civ.date_num _ _ d hva hya]
    simp only [Option.bind_some]
    have e : ∀ b, 12 * ((12 * y + m - 1 + s) / 12) + ((12 * y + m - 1 + s) % 12 + 1) - 1 + b = 12 * y + m - 1 + s + b := fun b => by omega
    rw [e, e, show 12 * y + m - 1 + (s + t) = 12 * y + m - 1 + s + t from by omega, show 12 * y + m - 1 + s + -s = 12 * y + m - 1 from by omega]
    rw [if_neg (show ¬ (12 * y + m - 1 < 12 ∨ 32856 ≤ 12 * y + m - 1) by omega), show (12 * y + m - 1) / 12 = y from by omega, show (12 * y + m - 1) % 12 + 1 = m from by omega]
    simp only [if_true]
    congr 1
    rw [w64 (n := 12 * ((12 * y + m - 1 + s) / 12)) (by omega) (by omega), w64 (n := 12 * y) (by omega) (by omega), w64 (n := 12 * y + m) (by omega) (by omega), w64 (n := 12 * y + m + s) (by omega) (by omega), w64 (by omega) (by omega)]
    rw [beq_iff_eq]; omega
  · rw [Civ.date_no n h]
    simp only
    rw [if_neg (by decide)]; simp only [quitrentlaw03_CivilSteps.j1]; rfl

end CivilStepsPf

theorem CivilSteps : quitrentlaw03_CivilSteps.Pure := CivilStepsPf.proved

end Go.Proofs.Ytkfbmplhcigopaa.Pure
