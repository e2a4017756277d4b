import Derived.Test.YtkfbmplhcigopaaPloP
import Derived.Test.YtkfbmplhcigopaaPPloF27
set_option linter.unusedSimpArgs false
set_option linter.unusedVariables false
namespace Go.Proofs.Ytkfbmplhcigopaa.PPlo
open Go.RowKit Go.Proofs.YtkfbmplhcigopaaW.PrintWords Go.Proofs.YtkfbmplhcigopaaW.PrintLast Go.Proofs.YtkfbmplhcigopaaW.PrintMore

/- stairs -/
def st : Int → Int → List Int → List S38
  | _, _, [] => []
  | i, s, n :: r => ⟨i, s + n⟩ :: ⟨i + 1, s + n⟩ :: st (i + 1) (s + n) r
/-- every sum may be -/
def okS : Int → List Int → Bool
  | _, [] => true
  | s, n :: r => decide (-1048576 ≤ s + n ∧ s + n ≤ 1048576) && okS (s + n) r

theorem rd_cons (l : List Int) (i : Nat) (h : i < l.length) : l.drop i = rd l (i : Int) :: l.drop (i + 1) := by
  rw [List.drop_eq_getElem_cons h]; congr 1
  unfold rd; simp [List.getD_eq_getElem?_getD, h]

theorem add_is (a b : Int) (ha : -1048576 ≤ a ∧ a ≤ 1048576) (hb : -9223372036854775808 ≤ b ∧ b ≤ 9223372036854775807) :
    ∃ r e, cents_Add.f a b = some (r, e) ∧ ((-1048576 ≤ a + b ∧ a + b ≤ 1048576) → r = a + b ∧ e = 0) ∧ (¬ (-1048576 ≤ a + b ∧ a + b ≤ 1048576) → e = 0 → ¬ (-1048576 ≤ r ∧ r ≤ 1048576)) := by
  unfold cents_Add.f
  by_cases h : -9223372036854775808 ≤ a + b ∧ a + b ≤ 9223372036854775807
  · rw [w64 h.1 h.2]
    have : ((decide (a + b < a)) != (decide (b < 0))) = false := by
      by_cases hb0 : b < 0
      · simp [hb0]; omega
      · simp [hb0]; omega
    rw [if_neg (by rw [this]; simp)]
    exact ⟨_, _, rfl, fun _ => ⟨rfl, rfl⟩, fun hn _ => hn⟩
  · have : ((decide (wrap64 (a + b) < a)) != (decide (b < 0))) = true := by
      unfold wrap64
      by_cases hb0 : b < 0
      · simp [hb0]; omega
      · simp [hb0]; omega
    rw [if_pos this]
    exact ⟨_, _, rfl, fun hn => absurd hn (by omega), fun _ h3 => absurd h3 (by decide)⟩

theorem stairs_l (l : List Int) (hl : l.length ≤ 240) (hwf : ∀ n ∈ l, -9223372036854775808 ≤ n ∧ n ≤ 9223372036854775807) :
    ∀ (m i k : Nat) (acc : List S38) (s : Int), m = l.length - i → i ≤ l.length → m < k → acc.length = 2 * i + 1 → (-1048576 ≤ s ∧ s ≤ 1048576) →
      plot_Stairs.l0 k acc s l (l.length : Int) (i : Int) = some (if okS s (l.drop i) = true then (acc ++ st i s (l.drop i), 0) else ([], 3)) := by
  intro m
  induction m with
  | zero =>
    intro i k acc s hm hi hk ha hs
    obtain ⟨k, rfl⟩ : ∃ k', k = k' + 1 := ⟨k - 1, by omega⟩
    unfold plot_Stairs.l0
    rw [if_neg (by omega), List.drop_eq_nil_of_le (by omega)]; simp [st, okS]
  | succ m ih =>
    intro i k acc s hm hi hk ha hs
    obtain ⟨k, rfl⟩ : ∃ k', k = k' + 1 := ⟨k - 1, by omega⟩
    have hlt : i < l.length := by omega
    have hmem : rd l (i : Int) ∈ l := by
      have := rd_cons l i hlt
      exact List.mem_of_mem_drop (i := i) (this ▸ List.mem_cons_self)
    obtain ⟨r, e, h1, h2, h3⟩ := add_is s (rd l (i : Int)) hs (hwf _ hmem)
    unfold plot_Stairs.l0
    rw [if_pos (show (i : Int) < l.length by omega), if_pos (show (0 : Int) ≤ i by omega), if_pos (show (i : Int) < l.length by omega), h1, Option.bind_some, rd_cons l i hlt]
    by_cases hc : -1048576 ≤ s + rd l (i : Int) ∧ s + rd l (i : Int) ≤ 1048576
    · obtain ⟨rfl, rfl⟩ := h2 hc
      have hok : okS s (rd l (i : Int) :: l.drop (i + 1)) = okS (s + rd l (i : Int)) (l.drop (i + 1)) := by
        show (decide _ && _) = _
        rw [decide_eq_true hc, Bool.true_and]
      rw [if_pos rfl, within_is, Option.bind_some, decide_eq_true hc, if_pos rfl, Option.bind_some, w64 (by omega) (by omega), hok]
      rw [if_pos (by simp [ha]; omega)]
      have := ih (i + 1) k (acc ++ [⟨i, s + rd l (i : Int)⟩, ⟨(i : Int) + 1, s + rd l (i : Int)⟩]) (s + rd l (i : Int)) (by omega) (by omega) (by omega) (by simp [ha]; omega) hc
      rw [show ((i + 1 : Nat) : Int) = (i : Int) + 1 by omega] at this
      rw [this, List.append_assoc]; rfl
    · have hok : okS s (rd l (i : Int) :: l.drop (i + 1)) = false := by
        show (decide _ && _) = _
        rw [decide_eq_false hc, Bool.false_and]
      rw [hok]
      by_cases he : e = 0
      · subst he
        rw [if_pos rfl, within_is, Option.bind_some, decide_eq_false (h3 hc rfl)]; rfl
      · rw [if_neg he]; rfl

/-- The stairs of columns. -/
def STAIRS (l : List Int) : List S38 × Int := if l.length > 240 then ([], 4) else if okS 0 l = true then (⟨0, 0⟩ :: st 0 0 l, 0) else ([], 3)
theorem stairs_is (l : List Int) (hwf : ∀ n ∈ l, -9223372036854775808 ≤ n ∧ n ≤ 9223372036854775807) (k : Nat) (hk : 241 ≤ k) : plot_Stairs.f k l = some (STAIRS l) := by
  unfold plot_Stairs.f STAIRS
  by_cases h : l.length > 240
  · rw [if_pos (by omega), if_pos h]
  · rw [if_neg (by omega), if_neg h]
    have := stairs_l l (by omega) hwf l.length 0 k [⟨0, 0⟩] 0 (by omega) (by omega) (by omega) rfl (by omega)
    rw [show ((0 : Nat) : Int) = 0 from rfl, List.drop_zero] at this
    rw [this]; rfl

theorem awake_is (k : Nat) (hk : 1001 ≤ k) : quitrentlaw21_awake.f k = some true := by
  unfold quitrentlaw21_awake.f
  have e1 : STAIRS [5, -2] = ([⟨0, 0⟩, ⟨0, 5⟩, ⟨1, 5⟩, ⟨1, 3⟩, ⟨2, 3⟩], 0) := by rfl
  have e2 : EACH (mulP ⟨0, 1⟩) [⟨2, 3⟩] 0 1 = ([⟨-3, 2⟩], 0) := by rfl
  have e3 : EACH (addP ⟨1, -1⟩) [⟨2, 3⟩] 1 (-1) = ([⟨3, 2⟩], 0) := by rfl
  have e4 : EACH mirP [⟨2, 3⟩] 0 0 = ([⟨2, -3⟩], 0) := by rfl
  have e5 : AREA [⟨0, 0⟩, ⟨4, 0⟩, ⟨4, 3⟩] = (12, 0) := by rfl
  have e6 : EACH (mulP ⟨2, 0⟩) [⟨1048576, 0⟩] 2 0 = ([], 3) := by rfl
  have e7 : AREA [⟨1048577, 0⟩] = (0, 1) := by rfl
  rw [stairs_is _ (by intro n hn; simp at hn; omega) k (by omega), Option.bind_some, times_is _ _ _ k hk, Option.bind_some, moved_is _ _ _ k hk, Option.bind_some,
    mirror_is _ k hk, Option.bind_some, area_is _ k hk, Option.bind_some, times_is _ _ _ k hk, Option.bind_some, area_is _ k hk, Option.bind_some]
  rw [e1, e2, e3, e4, e5, e6, e7]
  rw [same_refl _ (by decide) k (by simp; omega), Option.bind_some, if_pos rfl, if_pos rfl, same_refl _ (by decide) k (by simp; omega), Option.bind_some, if_pos rfl, if_pos rfl,
    same_refl _ (by decide) k (by simp; omega), Option.bind_some, if_pos rfl, if_pos rfl, same_refl _ (by decide) k (by simp; omega), Option.bind_some, if_pos rfl, if_pos rfl, if_pos rfl, if_pos rfl, if_pos rfl]
  rfl

end Go.Proofs.Ytkfbmplhcigopaa.PPlo
