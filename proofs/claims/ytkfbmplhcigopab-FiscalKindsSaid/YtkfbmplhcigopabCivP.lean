/- What the printed functions of package civil tell, as plain arithmetic. -/
import Derived.Test.YtkfbmplhcigopabPFisF41
import Derived.Test.YtkfbmplhcigopabPFisF42
import Derived.Test.YtkfbmplhcigopabPFisF39
import Derived.Test.YtkfbmplhcigopabPFisF32
import Derived.Test.YtkfbmplhcigopabCiv
set_option linter.unusedSimpArgs false
set_option linter.unusedVariables false
namespace Go.Proofs.Ytkfbmplhcigopab.PFis
open Go.RowKit Go.Proofs.Ytkfbmplhcigopab Go.Proofs.Ytkfbmplhcigopab.PFis Go.Proofs.YtkfbmplhcigopabW.PrintWords Go.Proofs.YtkfbmplhcigopabW.PrintLast Go.Proofs.YtkfbmplhcigopabW.PrintMore

theorem w64 {n : Int} (h : -9223372036854775808 ≤ n) (h' : n ≤ 9223372036854775807) : wrap64 n = n := by unfold wrap64; omega
theorem td {a b : Int} (h : 0 ≤ a) : Int.tdiv a b = a / b := Int.tdiv_eq_ediv_of_nonneg h
theorem tm {a b : Int} (h : 0 ≤ a) : Int.tmod a b = a % b := Int.tmod_eq_emod_of_nonneg h
theorem wf_bd {n : Int} (h : (Lit.int .i64 n).wf = true) : -9223372036854775808 ≤ n ∧ n ≤ 9223372036854775807 := by
  simp [Lit.wf] at h; exact h

theorem leap_f (y : Int) : civil_Leap.f y = some (decide (1 ≤ y ∧ Civ.lp y)) := by
  unfold civil_Leap.f Civ.lp
  by_cases h : y ≥ 1
  · rw [if_pos h, tm (by omega), tm (by omega), tm (by omega)]
    by_cases h4 : y % 4 = 0
    · by_cases h100 : y % 100 = 0
      · by_cases h400 : y % 400 = 0 <;> simp [h4, h100, h400] <;> omega
      · simp [h4, h100]; omega
    · simp [h4]
  · rw [if_neg h]; simp; omega

theorem long_f (k : Nat) (hk : 2 ≤ k) (y m : Int) : civil_Long.f k y m = some (Civ.Lg y m) := by
  obtain ⟨k, rfl⟩ : ∃ j, k = j + 2 := ⟨k - 2, by omega⟩
  unfold civil_Long.f
  by_cases h1 : y < 1
  · rw [if_pos h1]; unfold Civ.Lg; rw [if_pos (by omega)]; simp only [civil_Long.j0]; rfl
  rw [if_neg h1]
  by_cases h2 : m < 1
  · rw [if_pos h2]; unfold Civ.Lg; rw [if_pos (by omega)]; simp only [civil_Long.j0]; rfl
  rw [if_neg h2]
  by_cases h3 : m > 12
  · rw [decide_eq_true h3]; unfold Civ.Lg; rw [if_pos (by omega)]; simp only [civil_Long.j0]; rfl
  rw [decide_eq_false h3, Civ.Lg_eq y m (by omega) (by omega) (by omega)]
  simp only [civil_Long.j0, leap_f, Option.bind_some]
  unfold Civ.lg
  by_cases e2 : m = 2
  · by_cases hl : Civ.lp y
    · rw [decide_eq_true (show 1 ≤ y ∧ Civ.lp y from ⟨by omega, hl⟩)]; simp [e2, hl, civil_Long.j1]
    · rw [decide_eq_false (show ¬ (1 ≤ y ∧ Civ.lp y) from fun h => hl h.2)]; simp [e2, hl, civil_Long.j1]
  · by_cases e4 : m = 4
    · simp [e4, civil_Long.j1]
    by_cases e6 : m = 6
    · simp [e6, civil_Long.j1]
    by_cases e9 : m = 9
    · simp [e9, civil_Long.j1]
    by_cases e11 : m = 11
    · simp [e11, civil_Long.j1]
    simp [e2, e4, e6, e9, e11, civil_Long.j1]

theorem number_f (y m d : Int) (hv : Civ.valid y m d) (hy : y ≤ 2737) : civil_date_number.f y m d = some (Civ.num y m d) := by
  have hl := Civ.lg_bd y m
  obtain ⟨h0, h1, h2, h3, h4⟩ := hv
  have E := Civ.num_eq y m d h1 h2 _ _ rfl rfl
  unfold civil_date_number.f
  rw [w64 (n := m - 3) (by omega) (by omega)]
  by_cases hm : m < 3
  · rw [if_pos (by omega)]
    rw [if_pos hm, if_pos hm] at E
    rw [w64 (n := y - 1) (by omega) (by omega), w64 (n := m - 3 + 12) (by omega) (by omega), w64 (n := 153 * (m - 3 + 12)) (by omega) (by omega), w64 (n := 153 * (m - 3 + 12) + 2) (by omega) (by omega),
      td (a := 153 * (m - 3 + 12) + 2) (by omega), td (a := y - 1) (by omega), tm (a := y - 1) (by omega), td (a := (y - 1) % 400) (by omega), td (a := (y - 1) % 400) (by omega)]
    rw [← E, show m - 3 + 12 = m + 9 from by omega]
    congr 1
    simp (disch := omega) only [w64]
  · rw [if_neg (by omega)]
    rw [if_neg hm, if_neg hm] at E
    rw [w64 (n := 153 * (m - 3)) (by omega) (by omega), w64 (n := 153 * (m - 3) + 2) (by omega) (by omega),
      td (a := 153 * (m - 3) + 2) (by omega), td (a := y) (by omega), tm (a := y) (by omega), td (a := y % 400) (by omega), td (a := y % 400) (by omega)]
    rw [← E]
    congr 1
    simp (disch := omega) only [w64]

theorem days_f (k : Nat) (hk : 2 ≤ k) (y m d : Int) : civil_Days.f k y m d = some (Civ.days y m d) := by
  unfold civil_Days.f Civ.days
  by_cases h1 : y > 2737
  · rw [if_pos h1, if_neg (by omega)]
  rw [if_neg h1]
  by_cases h2 : d < 1
  · rw [if_pos h2, if_neg (fun h => by have := h.1.2.2.2.1; omega)]
  rw [if_neg h2, long_f k hk]
  simp only [Option.bind_some]
  by_cases h3 : d > Civ.Lg y m
  · rw [if_pos h3, if_neg (fun h => by have := ((Civ.valid_iff y m d).1 h.1).2; omega)]
  have hv : Civ.valid y m d := (Civ.valid_iff y m d).2 ⟨by omega, by omega⟩
  rw [if_neg h3, if_pos ⟨hv, by omega⟩, number_f y m d hv (by omega)]
  rfl

theorem known_f (n : Int) : civil_known.f n = some (decide (1 ≤ n ∧ n ≤ 999668)) := by
  unfold civil_known.f
  by_cases h : n ≥ 1
  · rw [if_pos h]; congr 1; by_cases h' : n ≤ 999668
    · rw [decide_eq_true h', decide_eq_true ⟨h, h'⟩]
    · rw [decide_eq_false h', decide_eq_false (fun h => h' h.2)]
  · rw [if_neg h]; congr 1; rw [decide_eq_false]; omega

theorem weekday_f (n : Int) (h : n ≤ 9223372036854775807) : civil_Weekday.f n = some (if n < 1 then -1 else (n - 1) % 7) := by
  unfold civil_Weekday.f
  by_cases h1 : n < 1
  · rw [if_pos h1, if_pos h1]
  · rw [if_neg h1, if_neg h1, w64 (by omega) (by omega), tm (by omega)]


end Go.Proofs.Ytkfbmplhcigopab.PFis
