/- Proved: in 400 years all comes again, 146097 days on. No condition. -/
import Derived.Test.YtkfbmplhcigopaaPCivF6
import Derived.Test.YtkfbmplhcigopaaCivP
set_option linter.unusedSimpArgs false
set_option linter.unusedVariables false
namespace Go.Proofs.Ytkfbmplhcigopaa.Pure
open Go.RowKit Go.Proofs.Ytkfbmplhcigopaa Go.Proofs.Ytkfbmplhcigopaa.PCiv Go.Proofs.YtkfbmplhcigopaaW.PrintWords Go.Proofs.YtkfbmplhcigopaaW.PrintLast Go.Proofs.YtkfbmplhcigopaaW.PrintMore

namespace CivilAgainPf
theorem date_f (n : Int) : civil_Date.f n = some (Civ.date n) := rfl
theorem move_f (k : Nat) (_hk : 3 ≤ k) (n b : Int) : civil_Move.f k n b = some (Civ.move n b) := rfl

theorem awake_f (k : Nat) (hk : 3 ≤ k) : quitrentlaw03_awake.f k = some true := by
  unfold quitrentlaw03_awake.f
  rw [days_f k (by omega), date_f, move_f k hk, days_f k (by omega), date_f]
  simp only [Option.bind_some, weekday_f _ (show (719163 : Int) ≤ 9223372036854775807 by omega), leap_f, long_f k (show 2 ≤ k by omega)]
  decide +kernel

theorem proved : quitrentlaw03_CivilAgain.Pure := by
  intro y m d _ _ _
  refine ⟨8, ?_⟩
  unfold quitrentlaw03_CivilAgain.f
  rw [awake_f 8 (by omega)]
  simp only [Option.bind_some]
  rw [if_pos trivial]
  by_cases h1 : y < 1
  · rw [if_pos h1]; simp only [quitrentlaw03_CivilAgain.j0]; rfl
  rw [if_neg h1]
  by_cases h2 : y > 2337
  · rw [decide_eq_true h2]; simp only [quitrentlaw03_CivilAgain.j0]; rfl
  rw [decide_eq_false h2]
  simp only [quitrentlaw03_CivilAgain.j0]
  rw [if_neg (by decide), w64 (n := y + 400) (by omega) (by omega), days_f 7 (by omega), days_f 7 (by omega)]
  simp only [Option.bind_some]
  by_cases hv : Civ.valid y m d
  · have hv' : Civ.valid (y + 400) m d := (Civ.valid_400 y m d (by omega)).2 hv
    have hp := Civ.num_pos y m d hv
    have ht := (Civ.year_top y m d hv).1 (by omega)
    rw [Civ.days_pos y m d hv (by omega), Civ.days_pos (y + 400) m d hv' (by omega), move_f 7 (by omega), Civ.move_num y m d 4800 hv (by omega)]
    obtain ⟨v0, v1, v2, v3, v4⟩ := hv
    rw [if_neg (show ¬ (12 * y + m - 1 + 4800 < 12 ∨ 32856 ≤ 12 * y + m - 1 + 4800) by omega), show (12 * y + m - 1 + 4800) / 12 = y + 400 from by omega, show (12 * y + m - 1 + 4800) % 12 + 1 = m from by omega,
      if_neg (show ¬ Civ.lg (y + 400) m < d by have := hv'.2.2.2.2; omega)]
    simp only [Option.bind_some]
    rw [Civ.num_400, w64 (n := Civ.num y m d + 146097) (by omega) (by omega), weekday_f _ (by omega), weekday_f _ (by omega), leap_f, leap_f]
    simp only [Option.bind_some, if_true]
    rw [if_neg (show ¬ Civ.num y m d < 1 by omega), if_neg (show ¬ Civ.num y m d + 146097 < 1 by omega), if_pos (show (Civ.num y m d - 1) % 7 = (Civ.num y m d + 146097 - 1) % 7 by omega)]
    congr 1
    have e : (1 ≤ y ∧ Civ.lp y) ↔ (1 ≤ y + 400 ∧ Civ.lp (y + 400)) := by rw [Civ.lp_400]; exact ⟨fun h => ⟨by omega, h.2⟩, fun h => ⟨by omega, h.2⟩⟩
    simp [e]
  · have hv' : ¬ Civ.valid (y + 400) m d := fun h => hv ((Civ.valid_400 y m d (by omega)).1 h)
    rw [Civ.days_neg y m d (fun h => hv h.1), Civ.days_neg (y + 400) m d (fun h => hv' h.1)]
    simp

end CivilAgainPf

theorem CivilAgain : quitrentlaw03_CivilAgain.Pure := CivilAgainPf.proved

end Go.Proofs.Ytkfbmplhcigopaa.Pure
