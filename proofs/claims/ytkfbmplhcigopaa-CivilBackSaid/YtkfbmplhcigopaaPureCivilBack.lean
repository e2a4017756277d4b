/- Proved: dates and numbers tell one another, and a next day is the next date. No condition. -/
import Derived.Test.YtkfbmplhcigopaaPCivF5
import Derived.Test.YtkfbmplhcigopaaCivP
set_option linter.unusedSimpArgs false
set_option linter.unusedVariables false
namespace Go.Proofs.Ytkfbmplhcigopaa.Pure
open Go.RowKit Go.Proofs.Ytkfbmplhcigopaa Go.Proofs.Ytkfbmplhcigopaa.PCiv Go.Proofs.YtkfbmplhcigopaaW.PrintWords Go.Proofs.YtkfbmplhcigopaaW.PrintLast Go.Proofs.YtkfbmplhcigopaaW.PrintMore

namespace CivilBackPf
theorem date_f (n : Int) : civil_Date.f n = some (Civ.date n) := rfl
theorem move_f (k : Nat) (_hk : 3 ≤ k) (n b : Int) : civil_Move.f k n b = some (Civ.move n b) := rfl

theorem awake_f (k : Nat) (hk : 3 ≤ k) : quitrentlaw03_awake.f k = some true := by
  unfold quitrentlaw03_awake.f
  rw [days_f k (by omega), date_f, move_f k hk, days_f k (by omega), date_f]
  simp only [Option.bind_some, weekday_f _ (show (719163 : Int) ≤ 9223372036854775807 by omega), leap_f, long_f k (show 2 ≤ k by omega)]
  decide +kernel

theorem j1_true (k : Nat) (hk : 3 ≤ k) (y m d : Int) : quitrentlaw03_CivilBack.j1 k y m d = some true := by
  obtain ⟨k, rfl⟩ : ∃ j, k = j + 1 := ⟨k - 1, by omega⟩
  simp only [quitrentlaw03_CivilBack.j1]
  rw [days_f k (by omega)]
  simp only [Option.bind_some]
  by_cases h : Civ.valid y m d ∧ y ≤ 2737
  · rw [Civ.days_pos y m d h.1 h.2]
    simp only
    rw [if_pos trivial, date_f, Civ.date_num y m d h.1 h.2]
    simp
  · rw [Civ.days_neg y m d h]
    simp

theorem j0_true (k : Nat) (hk : 4 ≤ k) (n a1 a2 a3 y m d : Int) (hn : n ≤ 999668) (hv : Civ.valid y m d) (hy : y ≤ 2737) (hnum : Civ.num y m d = n) :
    quitrentlaw03_CivilBack.j0 k n a1 a2 a3 y m d false = some true := by
  obtain ⟨k, rfl⟩ : ∃ j, k = j + 1 := ⟨k - 1, by omega⟩
  simp only [quitrentlaw03_CivilBack.j0]
  have hl := Civ.lg_bd y m
  have h1 := Civ.num_pos y m d hv
  have hL : Civ.Lg y m = Civ.lg y m := Civ.Lg_eq y m hv.1 hv.2.1 hv.2.2.1
  rw [if_neg (by decide), w64 (n := n + 1) (by omega) (by omega), date_f]
  simp only [Option.bind_some]
  by_cases h : n + 1 ≤ 999668
  · obtain ⟨y', m', d', hv', e', hc⟩ := Civ.next y m d hv
    have hy' : y' ≤ 2737 := (Civ.year_top y' m' d' hv').2 (by omega)
    rw [show n + 1 = Civ.num y' m' d' from by omega, Civ.date_num y' m' d' hv' hy']
    simp only [long_f k (show 2 ≤ k by omega), Option.bind_some, j1_true k (show 3 ≤ k by omega), hL]
    obtain ⟨v0, v1, v2, v3, v4⟩ := hv
    rw [w64 (n := y + 1) (by omega) (by omega), w64 (n := m + 1) (by omega) (by omega), w64 (n := d + 1) (by omega) (by omega)]
    rcases hc with ⟨c1, c2, c3⟩ | ⟨hd, c3, ⟨c1, c2⟩ | ⟨c1, hm, c2⟩⟩
    · have hdl : d ≠ Civ.lg y m := by have := hv'.2.2.2.2; rw [c1, c2] at this; omega
      simp [c1, c2, c3, hdl]
    · simp [c1, c2, c3, hd]
    · simp [c1, c2, c3, hd, hm]
  · rw [Civ.date_no _ (by omega)]
    simp [j1_true k (show 3 ≤ k by omega)]

theorem proved : quitrentlaw03_CivilBack.Pure := by
  intro n a1 a2 a3 _ _ _ _
  refine ⟨8, ?_⟩
  unfold quitrentlaw03_CivilBack.f
  rw [awake_f 8 (by omega)]
  simp only [Option.bind_some]
  rw [if_pos trivial, date_f]
  simp only [Option.bind_some]
  by_cases h : 1 ≤ n ∧ n ≤ 999668
  · obtain ⟨y, m, d, hv, hnum, hy, e⟩ := Civ.date_of n h.1 h.2
    rw [← hnum, Civ.date_num y m d hv hy]
    simp only
    rw [if_pos trivial, days_f 8 (by omega), Civ.days_pos y m d hv hy]
    simp only [Option.bind_some]
    rw [if_pos trivial, if_pos trivial, long_f 8 (by omega), if_neg (by have := hv.2.2.2.1; omega)]
    simp only [Option.bind_some]
    rw [decide_eq_false (by have := ((Civ.valid_iff y m d).1 hv).2; omega)]
    exact j0_true 8 (by omega) _ a1 a2 a3 y m d (by omega) hv hy rfl
  · rw [Civ.date_no n h]
    simp only
    rw [if_neg (by decide)]
    exact j1_true 8 (by omega) a1 a2 a3

end CivilBackPf

theorem CivilBack : quitrentlaw03_CivilBack.Pure := CivilBackPf.proved

end Go.Proofs.Ytkfbmplhcigopaa.Pure
