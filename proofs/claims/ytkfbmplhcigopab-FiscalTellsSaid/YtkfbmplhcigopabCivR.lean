/- What the printed functions of the reference (layer 3) tell, as plain arithmetic. -/
import Derived.Test.YtkfbmplhcigopabPFisF36
import Derived.Test.YtkfbmplhcigopabPFisF38
import Derived.Test.YtkfbmplhcigopabPFisF43
import Derived.Test.YtkfbmplhcigopabCivP
set_option linter.unusedSimpArgs false
set_option linter.unusedVariables false
namespace Go.Proofs.Ytkfbmplhcigopab.PFis
open Go.RowKit Go.Proofs.Ytkfbmplhcigopab Go.Proofs.YtkfbmplhcigopabW.PrintWords Go.Proofs.YtkfbmplhcigopabW.PrintLast Go.Proofs.YtkfbmplhcigopabW.PrintMore

theorem rleap_f (y : Int) : quitrentref03_Leap.f y = some (decide (1 ≤ y ∧ Civ.lp y)) := by
  unfold quitrentref03_Leap.f Civ.lp
  by_cases h : y < 1
  · rw [if_pos h]; simp; omega
  · rw [if_neg h, tm (by omega), tm (by omega), tm (by omega)]
    by_cases h4 : y % 4 = 0
    · by_cases h100 : y % 100 = 0
      · by_cases h400 : y % 400 = 0 <;> simp [h4, h100, h400] <;> omega
      · simp [h4, h100]; omega
    · simp [h4]

theorem rlong_f (k : Nat) (hk : 1 ≤ k) (y m : Int) : quitrentref03_Long.f k y m = some (Civ.Lg y m) := by
  obtain ⟨k, rfl⟩ : ∃ j, k = j + 1 := ⟨k - 1, by omega⟩
  unfold quitrentref03_Long.f
  by_cases h1 : y < 1
  · rw [if_pos h1]; unfold Civ.Lg; rw [if_pos (by omega)]; simp only [quitrentref03_Long.j0]; rfl
  rw [if_neg h1]
  by_cases h2 : m < 1
  · rw [if_pos h2]; unfold Civ.Lg; rw [if_pos (by omega)]; simp only [quitrentref03_Long.j0]; rfl
  rw [if_neg h2]
  by_cases h3 : m > 12
  · rw [decide_eq_true h3]; unfold Civ.Lg; rw [if_pos (by omega)]; simp only [quitrentref03_Long.j0]; rfl
  rw [decide_eq_false h3, Civ.Lg_eq y m (by omega) (by omega) (by omega)]
  simp only [quitrentref03_Long.j0, rleap_f, Option.bind_some]
  rw [if_neg (by decide), w64 (n := m - 1) (by omega) (by omega)]
  by_cases hl : Civ.lp y
  · rw [decide_eq_true (show 1 ≤ y ∧ Civ.lp y from ⟨by omega, hl⟩)]
    have e29 : wrap64 29 = 29 := w64 (by omega) (by omega)
    rcases Civ.months (show 1 ≤ m by omega) (show m ≤ 12 by omega) with rfl | rfl | rfl | rfl | rfl | rfl | rfl | rfl | rfl | rfl | rfl | rfl <;> simp [rd, Civ.lg, hl, e29]
  · rw [decide_eq_false (show ¬ (1 ≤ y ∧ Civ.lp y) from fun h => hl h.2)]
    rcases Civ.months (show 1 ≤ m by omega) (show m ≤ 12 by omega) with rfl | rfl | rfl | rfl | rfl | rfl | rfl | rfl | rfl | rfl | rfl | rfl <;> simp [rd, Civ.lg, hl]

theorem rdate_l1 (n y : Int) (hn : n ≤ 999668) (h1 : 1 ≤ y) (hy : y ≤ 2737) (ht : n ≤ Civ.ah (y + 1)) (c : Nat) : ∀ (k : Nat) (m : Int), 1 ≤ m → m ≤ 12 → 13 - m = c → c + 1 < k → 1 ≤ n - Civ.ah y - Civ.cum y m →
    quitrentref03_Date.l1 k y (n - Civ.ah y - Civ.cum y m) m = some (Civ.date n) := by
  have hs := Civ.ah_succ y h1
  have hb := Civ.ah_bd y h1
  induction c with
  | zero => intro k m h1 h2 hd; omega
  | succ c ih =>
    intro k m h1 h2 hd hk hl
    obtain ⟨k, rfl⟩ : ∃ j, k = j + 1 := ⟨k - 1, by omega⟩
    have hc := Civ.cum_bd y m h1 (by omega)
    have hcs := Civ.cum_succ y m h1 (by omega)
    have hg := Civ.lg_bd y m
    have hc2 : Civ.cum y m ≤ 366 := by have := hc.2; split at this <;> omega
    simp only [quitrentref03_Date.l1]
    rw [rlong_f k (by omega), Civ.Lg_eq y m (by omega) h1 (by omega)]
    simp only [Option.bind_some]
    by_cases hgt : n - Civ.ah y - Civ.cum y m > Civ.lg y m
    · rw [if_pos hgt, w64 (n := m + 1) (by omega) (by omega), w64 (by omega) (by omega), show n - Civ.ah y - Civ.cum y m - Civ.lg y m = n - Civ.ah y - Civ.cum y (m + 1) from by omega]
      have hm : m ≠ 12 := by
        intro e
        subst e
        have c13 := Civ.cum_thirteen y
        have hcs' : Civ.cum y 13 = Civ.cum y 12 + Civ.lg y 12 := hcs
        split at hs
        · rename_i hp; rw [if_pos hp] at c13; omega
        · rename_i hp; rw [if_neg hp] at c13; omega
      exact ih k (m + 1) (by omega) (by omega) (by omega) (by omega) (by omega)
    · rw [if_neg hgt]
      have hv : Civ.valid y m (n - Civ.ah y - Civ.cum y m) := ⟨by omega, h1, h2, hl, by omega⟩
      have e := Civ.date_num y m _ hv hy
      rw [show Civ.num y m (n - Civ.ah y - Civ.cum y m) = n from by unfold Civ.num; omega] at e
      rw [e]

theorem rdate_l0 (n : Int) (h1 : 1 ≤ n) (hn : n ≤ 999668) (c : Nat) : ∀ (k : Nat) (y : Int), 1 ≤ y → y ≤ 2737 → 2738 - y = c → c + 40 < k → 1 ≤ n - Civ.ah y →
    quitrentref03_Date.l0 k y (n - Civ.ah y) = some (Civ.date n) := by
  induction c with
  | zero => intro k y h1 h2 hd; omega
  | succ c ih =>
    intro k y h1 h2 hd hk hl
    obtain ⟨k, rfl⟩ : ∃ j, k = j + 1 := ⟨k - 1, by omega⟩
    have hs := Civ.ah_succ y h1
    have hb := Civ.ah_bd y h1
    have fin : n ≤ Civ.ah (y + 1) → quitrentref03_Date.j2 k y (n - Civ.ah y) = some (Civ.date n) := by
      intro h
      obtain ⟨k, rfl⟩ : ∃ j, k = j + 1 := ⟨k - 1, by omega⟩
      simp only [quitrentref03_Date.j2]
      have := rdate_l1 n y hn h1 h2 h 12 k 1 (by omega) (by omega) (by omega) (by omega) (by rw [Civ.cum_one]; omega)
      rw [Civ.cum_one, show n - Civ.ah y - 0 = n - Civ.ah y from by omega] at this
      exact this
    have more : Civ.ah (y + 1) < n → quitrentref03_Date.l0 k (y + 1) (n - Civ.ah (y + 1)) = some (Civ.date n) := by
      intro h
      have : y ≠ 2737 := by
        intro e; subst e
        have : Civ.ah (2737 + 1) = 999668 := by unfold Civ.ah; omega
        omega
      exact ih k (y + 1) (by omega) (by omega) (by omega) (by omega) (by omega)
    simp only [quitrentref03_Date.l0]
    rw [rleap_f]
    simp only [Option.bind_some]
    rw [w64 (n := y + 1) (by omega) (by omega), w64 (n := n - Civ.ah y - 366) (by omega) (by omega), w64 (n := n - Civ.ah y - 365) (by omega) (by omega)]
    by_cases hlp : Civ.lp y
    · rw [decide_eq_true ⟨h1, hlp⟩, if_pos rfl]
      rw [if_pos hlp] at hs
      by_cases h : n - Civ.ah y ≤ 366
      · rw [if_pos h]; exact fin (by omega)
      · rw [if_neg h, show n - Civ.ah y - 366 = n - Civ.ah (y + 1) from by omega]; exact more (by omega)
    · rw [decide_eq_false (fun h => hlp h.2), if_neg (by decide)]
      rw [if_neg hlp] at hs
      by_cases h : n - Civ.ah y ≤ 365
      · rw [if_pos h]; exact fin (by omega)
      · rw [if_neg h, show n - Civ.ah y - 365 = n - Civ.ah (y + 1) from by omega]; exact more (by omega)

theorem rdate_f (k : Nat) (hk : 2800 ≤ k) (n : Int) : quitrentref03_Date.f k n = some (Civ.date n) := by
  obtain ⟨k, rfl⟩ : ∃ j, k = j + 1 := ⟨k - 1, by omega⟩
  unfold quitrentref03_Date.f
  by_cases h1 : n < 1
  · rw [if_pos h1, Civ.date_no n (by omega)]; simp only [quitrentref03_Date.j0]; rfl
  rw [if_neg h1]
  by_cases h2 : n > 999668
  · rw [decide_eq_true h2, Civ.date_no n (by omega)]; simp only [quitrentref03_Date.j0]; rfl
  rw [decide_eq_false h2]
  simp only [quitrentref03_Date.j0]
  rw [if_neg (by decide)]
  have e : Civ.ah 1 = 0 := by unfold Civ.ah; omega
  have := rdate_l0 n (by omega) (by omega) 2737 k 1 (by omega) (by omega) (by omega) (by omega) (by omega)
  rw [e, show n - 0 = n from by omega] at this
  exact this

end Go.Proofs.Ytkfbmplhcigopab.PFis
