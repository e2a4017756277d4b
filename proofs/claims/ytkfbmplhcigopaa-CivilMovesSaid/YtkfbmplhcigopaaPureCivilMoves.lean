/- Proved: the day any number of months behind or ahead of any day is what the document tells. No condition. -/
import Derived.Test.YtkfbmplhcigopaaPCivF4
import Derived.Test.YtkfbmplhcigopaaCivR
set_option linter.unusedSimpArgs false
set_option linter.unusedVariables false
namespace Go.Proofs.Ytkfbmplhcigopaa.Pure
open Go.RowKit Go.Proofs.Ytkfbmplhcigopaa Go.Proofs.Ytkfbmplhcigopaa.PCiv Go.Proofs.YtkfbmplhcigopaaW.PrintWords Go.Proofs.YtkfbmplhcigopaaW.PrintLast Go.Proofs.YtkfbmplhcigopaaW.PrintMore

namespace CivilMovesPf
theorem date_f (n : Int) : civil_Date.f n = some (Civ.date n) := rfl
theorem move_f (k : Nat) (_hk : 3 ≤ k) (n b : Int) : civil_Move.f k n b = some (Civ.move n b) := rfl

theorem awake_f (k : Nat) (hk : 3 ≤ k) : quitrentlaw03_awake.f k = some true := by
  unfold quitrentlaw03_awake.f
  rw [days_f k (by omega), date_f, move_f k hk, days_f k (by omega), date_f]
  simp only [Option.bind_some, weekday_f _ (show (719163 : Int) ≤ 9223372036854775807 by omega), leap_f, long_f k (show 2 ≤ k by omega)]
  decide +kernel

theorem rm_l1 (by_ : Int) (hb : -40000 ≤ by_) (d A : Int) (r : Int × Int)
    (hr : ∀ y m : Int, 12 * y + m - 1 = A + min 0 by_ → 1 ≤ m → m ≤ 12 → ∀ k : Nat, 2900 ≤ k → (if y < 1 then (quitrentref03_Move.j3 k y m d true) else (quitrentref03_Move.j3 k y m d (decide (y > 2737)))) = some r)
    (hA0 : -100000 ≤ A) (hA1 : A ≤ 100000) (c : Nat) :
    ∀ (k : Nat) (y m i : Int), 12 * y + m - 1 = A + i → 1 ≤ m → m ≤ 12 → min 0 by_ ≤ i → i ≤ 0 → i - min 0 by_ = c → c + 2900 < k → quitrentref03_Move.l1 k by_ y m d i = some r := by
  induction c with
  | zero =>
    intro k y m i hy h1 h2 hi hi2 hc hk
    obtain ⟨k, rfl⟩ : ∃ j, k = j + 1 := ⟨k - 1, by omega⟩
    simp only [quitrentref03_Move.l1]
    rw [if_neg (show ¬ i > by_ by omega)]
    exact hr y m (by omega) h1 h2 k (by omega)
  | succ c ih =>
    intro k y m i hy h1 h2 hi hi2 hc hk
    obtain ⟨k, rfl⟩ : ∃ j, k = j + 1 := ⟨k - 1, by omega⟩
    simp only [quitrentref03_Move.l1]
    rw [if_pos (show i > by_ by omega), w64 (n := m - 1) (by omega) (by omega), w64 (n := y - 1) (by omega) (by omega), w64 (n := i - 1) (by omega) (by omega)]
    by_cases hm : m - 1 < 1
    · rw [if_pos hm]; exact ih k (y - 1) 12 (i - 1) (by omega) (by omega) (by omega) (by omega) (by omega) (by omega) (by omega)
    · rw [if_neg hm]; exact ih k y (m - 1) (i - 1) (by omega) (by omega) (by omega) (by omega) (by omega) (by omega) (by omega)

theorem rm_l0 (by_ : Int) (hb : by_ ≤ 40000) (d A : Int) (r : Int × Int)
    (hr : ∀ y m : Int, 12 * y + m - 1 = A + max 0 by_ → 1 ≤ m → m ≤ 12 → ∀ k : Nat, 44000 ≤ k → quitrentref03_Move.l1 k by_ y m d 0 = some r)
    (hA0 : -100000 ≤ A) (hA1 : A ≤ 100000) (c : Nat) :
    ∀ (k : Nat) (y m i : Int), 12 * y + m - 1 = A + i → 1 ≤ m → m ≤ 12 → 0 ≤ i → i ≤ max 0 by_ → max 0 by_ - i = c → c + 44000 < k → quitrentref03_Move.l0 k by_ y m d i = some r := by
  induction c with
  | zero =>
    intro k y m i hy h1 h2 hi hi2 hc hk
    obtain ⟨k, rfl⟩ : ∃ j, k = j + 1 := ⟨k - 1, by omega⟩
    simp only [quitrentref03_Move.l0]
    rw [if_neg (show ¬ i < by_ by omega)]
    exact hr y m (by omega) h1 h2 k (by omega)
  | succ c ih =>
    intro k y m i hy h1 h2 hi hi2 hc hk
    obtain ⟨k, rfl⟩ : ∃ j, k = j + 1 := ⟨k - 1, by omega⟩
    simp only [quitrentref03_Move.l0]
    rw [if_pos (show i < by_ by omega), w64 (n := m + 1) (by omega) (by omega), w64 (n := y + 1) (by omega) (by omega), w64 (n := i + 1) (by omega) (by omega)]
    by_cases hm : m + 1 > 12
    · rw [if_pos hm]; exact ih k (y + 1) 1 (i + 1) (by omega) (by omega) (by omega) (by omega) (by omega) (by omega) (by omega)
    · rw [if_neg hm]; exact ih k y (m + 1) (i + 1) (by omega) (by omega) (by omega) (by omega) (by omega) (by omega) (by omega)

theorem rm_end (n b y m d A : Int) (hm : Civ.move n b = if A < 12 then (0, 1) else Civ.days (A / 12) (A % 12 + 1) (if Civ.Lg (A / 12) (A % 12 + 1) < d then Civ.Lg (A / 12) (A % 12 + 1) else d))
    (e : 12 * y + m - 1 = A) (h1 : 1 ≤ m) (h2 : m ≤ 12) (hA : A ≤ 100000) (k : Nat) (hk : 2900 ≤ k) :
    (if y < 1 then (quitrentref03_Move.j3 k y m d true) else (quitrentref03_Move.j3 k y m d (decide (y > 2737)))) = some (Civ.move n b) := by
  obtain ⟨k, rfl⟩ : ∃ j, k = j + 1 := ⟨k - 1, by omega⟩
  rw [hm]
  by_cases hy : y < 1
  · rw [if_pos hy, if_pos (show A < 12 by omega)]; simp only [quitrentref03_Move.j3]; rfl
  rw [if_neg hy, if_neg (show ¬ A < 12 by omega), show A / 12 = y from by omega, show A % 12 + 1 = m from by omega]
  by_cases hy2 : y > 2737
  · rw [decide_eq_true hy2, Civ.days_neg _ _ _ (fun h => by have := h.2; omega)]; simp only [quitrentref03_Move.j3]; rfl
  · rw [decide_eq_false hy2]
    simp only [quitrentref03_Move.j3]
    rw [if_neg (by decide), rlong_f k (by omega)]
    simp only [Option.bind_some]
    rw [rdays_f k (by omega)]
    simp only [Option.bind_some, mn]

theorem rmove_f (k : Nat) (hk : 90000 ≤ k) (n b : Int) : quitrentref03_Move.f k n b = some (Civ.move n b) := by
  obtain ⟨k, rfl⟩ : ∃ j, k = j + 1 := ⟨k - 1, by omega⟩
  unfold quitrentref03_Move.f
  rw [rdate_f (k + 1) (by omega)]
  simp only [Option.bind_some]
  by_cases h : 1 ≤ n ∧ n ≤ 999668
  · obtain ⟨y, m, d, hv, hn, hy, e⟩ := Civ.date_of n h.1 h.2
    have ed : Civ.date n = (y, m, d, 0) := by rw [← hn, Civ.date_num y m d hv hy]
    rw [ed]
    simp only
    rw [if_pos trivial]
    have hmv := Civ.move_of n b y m d h.1 h.2 e
    obtain ⟨v0, v1, v2, v3, v4⟩ := hv
    have hlg := Civ.lg_bd y m
    by_cases hb : b > 40000
    · rw [if_pos hb, Civ.move_far n b (by omega)]; simp only [quitrentref03_Move.j0]; rfl
    rw [if_neg hb]
    by_cases hb' : b < -40000
    · rw [decide_eq_true hb', Civ.move_far n b (by omega)]; simp only [quitrentref03_Move.j0]; rfl
    rw [decide_eq_false hb']
    simp only [quitrentref03_Move.j0]
    rw [if_neg (by decide)]
    refine rm_l0 b (by omega) d (12 * y + m - 1) _ ?_ (by omega) (by omega) (max 0 b).toNat k y m 0 (by omega) v1 v2 (by omega) (by omega) (by omega) (by omega)
    intro y1 m1 e1 h11 h12 k1 hk1
    refine rm_l1 b (by omega) d (12 * y1 + m1 - 1) _ ?_ (by omega) (by omega) (0 - min 0 b).toNat k1 y1 m1 0 (by omega) h11 h12 (by omega) (by omega) (by omega) (by omega)
    intro y2 m2 e2 h21 h22 k2 hk2
    refine rm_end n b y2 m2 d (y * 12 + m - 1 + b) hmv (by omega) h21 h22 (by omega) k2 hk2
  · rw [Civ.date_no n h, Civ.move_no n b h]
    simp only
    rw [if_neg (by decide)]

theorem proved : quitrentlaw03_CivilMoves.Pure := by
  intro n b _ _
  refine ⟨90000, ?_⟩
  unfold quitrentlaw03_CivilMoves.f
  rw [awake_f 90000 (by omega), move_f 90000 (by omega), rmove_f 90000 (by omega)]
  simp

end CivilMovesPf

theorem CivilMoves : quitrentlaw03_CivilMoves.Pure := CivilMovesPf.proved

end Go.Proofs.Ytkfbmplhcigopaa.Pure
