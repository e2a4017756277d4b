/- Proved: of any year, month, day and number what package civil tells is what the document tells (Leap, Long, Days, Date, Weekday). No condition. -/
import Derived.Test.YtkfbmplhcigopaaPCivF3
import Derived.Test.YtkfbmplhcigopaaCivR
set_option linter.unusedSimpArgs false
set_option linter.unusedVariables false
namespace Go.Proofs.Ytkfbmplhcigopaa.Pure
open Go.RowKit Go.Proofs.Ytkfbmplhcigopaa Go.Proofs.Ytkfbmplhcigopaa.PCiv Go.Proofs.YtkfbmplhcigopaaW.PrintWords Go.Proofs.YtkfbmplhcigopaaW.PrintLast Go.Proofs.YtkfbmplhcigopaaW.PrintMore

namespace CivilTellsPf
theorem date_f (n : Int) : civil_Date.f n = some (Civ.date n) := rfl
theorem move_f (k : Nat) (_hk : 3 ≤ k) (n b : Int) : civil_Move.f k n b = some (Civ.move n b) := rfl

theorem awake_f (k : Nat) (hk : 3 ≤ k) : quitrentlaw03_awake.f k = some true := by
  unfold quitrentlaw03_awake.f
  rw [days_f k (by omega), date_f, move_f k hk, days_f k (by omega), date_f]
  simp only [Option.bind_some, weekday_f _ (show (719163 : Int) ≤ 9223372036854775807 by omega), leap_f, long_f k (show 2 ≤ k by omega)]
  decide +kernel

theorem proved : quitrentlaw03_CivilTells.Pure := by
  intro y m d n _ _ _ hn
  have hn := wf_bd hn
  refine ⟨2800, ?_⟩
  unfold quitrentlaw03_CivilTells.f
  rw [awake_f 2800 (by omega)]
  simp only [Option.bind_some]
  rw [if_pos trivial, days_f 2800 (by omega), rdays_f 2800 (by omega), date_f, rdate_f 2800 (by omega), leap_f, rleap_f, long_f 2800 (by omega), rlong_f 2800 (by omega), weekday_f n (by omega)]
  have e : quitrentref03_Weekday.f n = some (if n < 1 then -1 else (n - 1) % 7) := by
    unfold quitrentref03_Weekday.f
    by_cases h1 : n < 1
    · rw [if_pos h1, if_pos h1]
    · rw [if_neg h1, if_neg h1, w64 (by omega) (by omega), tm (by omega)]
  rw [e]
  simp

end CivilTellsPf

theorem CivilTells : quitrentlaw03_CivilTells.Pure := CivilTellsPf.proved

end Go.Proofs.Ytkfbmplhcigopaa.Pure
