/- The plain law FiscalTells. -/
import Derived.Test.YtkfbmplhcigopabPFisF5
import Derived.Test.YtkfbmplhcigopabFisP
import Derived.Test.YtkfbmplhcigopabCivR
set_option linter.unusedSimpArgs false
set_option linter.unusedVariables false
namespace Go.Proofs.Ytkfbmplhcigopab.PFis
open Go.RowKit Go.Proofs.Ytkfbmplhcigopab Go.Proofs.YtkfbmplhcigopabW.PrintWords Go.Proofs.YtkfbmplhcigopabW.PrintLast Go.Proofs.YtkfbmplhcigopabW.PrintMore

/- the reference -/
theorem rdays_f (k : Nat) (hk : 2900 ≤ k) (kind first p : Int) (h : okC kind first) : quitrentref04_Days.f k kind first p = some (if 0 ≤ p ∧ p < 240 then dys kind first p else 0) := by
  obtain ⟨k, rfl⟩ : ∃ j, k = j + 1 := ⟨k - 1, by omega⟩
  have bad : quitrentref04_Days.j0 (k + 1) p true kind first = some 0 := by simp only [quitrentref04_Days.j0]; rfl
  unfold quitrentref04_Days.f
  by_cases h1 : p < 0
  · rw [if_pos h1, bad, if_neg (by omega)]
  rw [if_neg h1]
  by_cases h2 : p ≥ 240
  · rw [decide_eq_true h2, bad, if_neg (by omega)]
  rw [decide_eq_false h2, if_pos (by omega)]
  simp only [quitrentref04_Days.j0]
  rw [if_neg (by decide)]
  obtain ⟨f1, f2, h3⟩ := h
  by_cases hk0 : kind = 0
  · rw [if_pos hk0]
    obtain ⟨y, m, d, hv, hn, hy, e⟩ := Civ.date_of first f1 f2
    obtain ⟨v0, v1, v2, v3, v4⟩ := hv
    have ed : Civ.date first = (y, m, d, 0) := by rw [← hn, Civ.date_num y m d ⟨v0, v1, v2, v3, v4⟩ hy]
    rw [rdate_f k (by omega), ed, Option.bind_some]
    simp only
    rw [w64 (n := 12 * y) (by omega) (by omega), w64 (n := 12 * y + m) (by omega) (by omega), w64 (n := 12 * y + m - 1) (by omega) (by omega), w64 (n := 12 * y + m - 1 + p) (by omega) (by omega), td (by omega), tm (by omega), w64 (n := (12 * y + m - 1 + p) / 12) (by omega) (by omega), w64 (n := (12 * y + m - 1 + p) % 12 + 1) (by omega) (by omega),
      rlong_f k (by omega), Option.bind_some, Civ.Lg_eq _ _ (by omega) (by omega) (by omega)]
    unfold dys
    rw [if_pos hk0, e]; rfl
  · rw [if_neg hk0]
    unfold dys
    rw [if_neg hk0, tm (a := p) (by omega), tm (a := p) (by omega), td (a := p) (by omega), w64 (n := p / 12) (by omega) (by omega), w64 (n := p / 12 + 1) (by omega) (by omega), w64 (n := 71 * (p / 12 + 1)) (by omega) (by omega), w64 (n := 71 * (p / 12)) (by omega) (by omega), td (a := 71 * (p / 12 + 1)) (by omega), td (a := 71 * (p / 12)) (by omega), w64 (n := 71 * (p / 12 + 1) / 400) (by omega) (by omega), w64 (n := 71 * (p / 12) / 400) (by omega) (by omega)]
    unfold dysW
    repeat' split
    all_goals first | rfl | omega

/-- days of a period where it isn't known yet whether the calendar may be: the sum of all -/
theorem rcheck_l (kind first : Int) (f1 : 1 ≤ first) (f2 : first ≤ 999668) (B D : Int → Int) (hB : ∀ p, 0 ≤ p → p < 240 → B (p + 1) = B p + D p) (hD : ∀ p, 0 ≤ D p ∧ D p ≤ 42) (h0 : B 0 = first)
    (hdf : ∀ k p, 2900 ≤ k → 0 ≤ p → p < 240 → quitrentref04_Days.f k kind first p = some (D p)) (n : Nat) : ∀ (k : Nat) (i : Int), 0 ≤ i → i ≤ 240 → 240 - i = n → first ≤ B i → B i ≤ first + 42 * i → n + 2900 < k →
    quitrentref04_Check.l0 k (B i) i kind first = some (if B 240 - 1 ≤ 999668 then 0 else 1) := by
  induction n with
  | zero =>
    intro k i i0 i1 hn hb1 hb2 hk
    obtain ⟨k, rfl⟩ : ∃ j, k = j + 1 := ⟨k - 1, by omega⟩
    have : i = 240 := by omega
    subst this
    simp only [quitrentref04_Check.l0]
    rw [if_neg (by omega), w64 (n := B 240 - 1) (by omega) (by omega)]
    by_cases h : B 240 - 1 > 999668
    · rw [if_pos h, if_neg (by omega)]
    · rw [if_neg h, if_pos (by omega)]
  | succ n ih =>
    intro k i i0 i1 hn hb1 hb2 hk
    obtain ⟨k, rfl⟩ : ∃ j, k = j + 1 := ⟨k - 1, by omega⟩
    have hs := hB i i0 (by omega)
    have hd := hD i
    simp only [quitrentref04_Check.l0]
    rw [if_pos (by omega), hdf k i (by omega) i0 (by omega), Option.bind_some, w64 (n := B i + D i) (by omega) (by omega), w64 (n := i + 1) (by omega) (by omega), ← hs]
    exact ih k (i + 1) (by omega) (by omega) (by omega) (by omega) (by omega) (by omega)

theorem rdaysM_f (k : Nat) (hk : 2900 ≤ k) (first y m d p : Int) (hv : Civ.valid y m d) (hy : y ≤ 2737) (hn : Civ.num y m d = first) (h0 : 0 ≤ p) (h1 : p < 240) : quitrentref04_Days.f k 0 first p = some (dysM (12 * y + m - 1) p) := by
  obtain ⟨k, rfl⟩ : ∃ j, k = j + 1 := ⟨k - 1, by omega⟩
  have ed : Civ.date first = (y, m, d, 0) := by rw [← hn, Civ.date_num y m d hv hy]
  obtain ⟨v0, v1, v2, v3, v4⟩ := hv
  unfold quitrentref04_Days.f
  rw [if_neg (by omega), decide_eq_false (show ¬ p ≥ 240 by omega)]
  simp only [quitrentref04_Days.j0]
  rw [if_neg (by decide), if_pos trivial, rdate_f k (by omega), ed, Option.bind_some]
  simp only
  rw [w64 (n := 12 * y) (by omega) (by omega), w64 (n := 12 * y + m) (by omega) (by omega), w64 (n := 12 * y + m - 1) (by omega) (by omega), w64 (n := 12 * y + m - 1 + p) (by omega) (by omega), td (by omega), tm (by omega), w64 (n := (12 * y + m - 1 + p) / 12) (by omega) (by omega), w64 (n := (12 * y + m - 1 + p) % 12 + 1) (by omega) (by omega),
    rlong_f k (by omega), Option.bind_some, Civ.Lg_eq _ _ (by omega) (by omega) (by omega)]
  rfl

theorem rdaysW_f (k : Nat) (hk : 1 ≤ k) (kind first p : Int) (hkind : kind ≠ 0) (h0 : 0 ≤ p) (h1 : p < 240) : quitrentref04_Days.f k kind first p = some (dysW p) := by
  obtain ⟨k, rfl⟩ : ∃ j, k = j + 1 := ⟨k - 1, by omega⟩
  unfold quitrentref04_Days.f
  rw [if_neg (by omega), decide_eq_false (show ¬ p ≥ 240 by omega)]
  simp only [quitrentref04_Days.j0]
  rw [if_neg (by decide), if_neg hkind]
  rw [tm (a := p) (by omega), tm (a := p) (by omega), td (a := p) (by omega), w64 (n := p / 12) (by omega) (by omega), w64 (n := p / 12 + 1) (by omega) (by omega), w64 (n := 71 * (p / 12 + 1)) (by omega) (by omega), w64 (n := 71 * (p / 12)) (by omega) (by omega), td (a := 71 * (p / 12 + 1)) (by omega), td (a := 71 * (p / 12)) (by omega), w64 (n := 71 * (p / 12 + 1) / 400) (by omega) (by omega), w64 (n := 71 * (p / 12) / 400) (by omega) (by omega)]
  unfold dysW
  repeat' split
  all_goals first | rfl | omega

theorem rcheck_f (k : Nat) (hk : 4000 ≤ k) (kind first : Int) : quitrentref04_Check.f k kind first = some (if okC kind first then 0 else 1) := by
  obtain ⟨k, rfl⟩ : ∃ j, k = j + 1 := ⟨k - 1, by omega⟩
  have bad : quitrentref04_Check.j0 (k + 1) true kind first = some 1 := by simp only [quitrentref04_Check.j0]; rfl
  unfold quitrentref04_Check.f
  rw [rdate_f (k + 1) (by omega), Option.bind_some]
  by_cases h : 1 ≤ first ∧ first ≤ 999668
  · obtain ⟨y, m, d, hv, hn, hy, e⟩ := Civ.date_of first h.1 h.2
    have ed : Civ.date first = (y, m, d, 0) := by rw [← hn, Civ.date_num y m d hv hy]
    obtain ⟨v0, v1, v2, v3, v4⟩ := hv
    have hv : Civ.valid y m d := ⟨v0, v1, v2, v3, v4⟩
    rw [ed]
    simp only
    rw [if_pos trivial]
    by_cases k1 : kind < 0
    · rw [if_pos k1, bad, if_neg]
      intro ⟨_, _, c⟩
      rcases c with ⟨c, _⟩ | ⟨c, _⟩ <;> omega
    rw [if_neg k1]
    by_cases k2 : kind > 1
    · rw [if_pos k2, bad, if_neg]
      intro ⟨_, _, c⟩
      rcases c with ⟨c, _⟩ | ⟨c, _⟩ <;> omega
    rw [if_neg k2]
    by_cases hk0 : kind = 0
    · rw [if_pos hk0]
      subst hk0
      by_cases hd : d = 1
      · subst hd
        rw [show ((1 : Int) != 1) = false from rfl]
        simp only [quitrentref04_Check.j0]
        rw [if_neg (by decide)]
        have e0 : bgM (12 * y + m - 1) 0 = first := by unfold bgM; rw [show (12 * y + m - 1 + 0) / 12 = y from by omega, show (12 * y + m - 1 + 0) % 12 + 1 = m from by omega, hn]
        have := rcheck_l 0 first h.1 h.2 (bgM (12 * y + m - 1)) (dysM (12 * y + m - 1)) (fun p p0 p1 => bgM_succ _ p (by omega)) (fun p => by have := dysM_bd (12 * y + m - 1) p; omega) e0 (fun k p hk p0 p1 => rdaysM_f k hk first y m 1 p hv hy hn p0 p1) 240 k 0 (by omega) (by omega) (by omega) (by omega) (by omega) (by omega)
        rw [e0] at this
        rw [this]
        have hend := bgM_end (12 * y + m - 1) 239 (by omega)
        rw [show (239 : Int) + 1 = 240 from rfl] at hend
        by_cases hf : bgM (12 * y + m - 1) 240 - 1 ≤ 999668
        · rw [if_pos hf, if_pos]
          exact ⟨h.1, h.2, Or.inl ⟨rfl, by rw [e], by rw [e]; simp only; omega⟩⟩
        · rw [if_neg hf, if_neg]
          intro ⟨_, _, c⟩
          rcases c with ⟨_, _, c⟩ | ⟨c, _⟩
          · rw [e] at c; simp only at c; omega
          · exact absurd c (by decide)
      · rw [show (d != 1) = true from by simp [hd], bad, if_neg]
        intro ⟨_, _, c⟩
        rcases c with ⟨_, c, _⟩ | ⟨c, _⟩
        · rw [e] at c; exact hd c
        · exact absurd c (by decide)
    · rw [if_neg hk0]
      have : kind = 1 := by omega
      subst this
      simp only [quitrentref04_Check.j0]
      rw [if_neg (by decide)]
      have e0 : bgW first 0 = first := by unfold bgW; omega
      have := rcheck_l 1 first h.1 h.2 (bgW first) dysW (fun p p0 p1 => bgW_succ first p p0 p1) (fun p => by have := dysW_bd p; omega) e0 (fun k p hk p0 p1 => rdaysW_f k (by omega) 1 first p (by decide) p0 p1) 240 k 0 (by omega) (by omega) (by omega) (by omega) (by omega) (by omega)
      rw [e0] at this
      rw [this]
      by_cases hf : bgW first 240 - 1 ≤ 999668
      · rw [if_pos hf, if_pos]
        exact ⟨h.1, h.2, Or.inr ⟨rfl, hf⟩⟩
      · rw [if_neg hf, if_neg]
        intro ⟨_, _, c⟩
        rcases c with ⟨c, _⟩ | ⟨_, c⟩
        · exact absurd c (by decide)
        · exact hf c
  · rw [Civ.date_no first h]
    simp only
    rw [if_neg (by decide), bad, if_neg (fun c => h ⟨c.1, c.2.1⟩)]

section
variable {kind first : Int}
theorem rfirst_l (hok : okC kind first) (p : Int) (h1 : p < 240) (n : Nat) : ∀ (k : Nat) (i : Int), 0 ≤ i → i ≤ p → p - i = n → n + 2900 < k → quitrentref04_First.l0 k p (bg kind first i) i kind first = some (bg kind first p, 0) := by
  have C := (cal_of kind first hok).2
  induction n with
  | zero =>
    intro k i i0 i1 hn hk
    obtain ⟨k, rfl⟩ : ∃ j, k = j + 1 := ⟨k - 1, by omega⟩
    have : i = p := by omega
    subst this
    simp only [quitrentref04_First.l0]; rw [if_neg (by omega)]
  | succ n ih =>
    intro k i i0 i1 hn hk
    obtain ⟨k, rfl⟩ : ∃ j, k = j + 1 := ⟨k - 1, by omega⟩
    have hs := C.succ i i0 (by omega)
    have b1 := C.bd (i + 1) (by omega) (by omega)
    simp only [quitrentref04_First.l0]
    rw [if_pos (by omega), rdays_f k (by omega) kind first i hok, Option.bind_some, if_pos (show 0 ≤ i ∧ i < 240 from ⟨i0, by omega⟩), w64 (n := bg kind first i + dys kind first i) (by omega) (by omega), w64 (n := i + 1) (by omega) (by omega), ← hs]
    exact ih k (i + 1) (by omega) (by omega) (by omega) (by omega)
theorem rfirst_f (hok : okC kind first) (k : Nat) (hk : 4000 ≤ k) (p : Int) : quitrentref04_First.f k kind first p = some (if 0 ≤ p ∧ p < 240 then (bg kind first p, 0) else (0, 1)) := by
  obtain ⟨k, rfl⟩ : ∃ j, k = j + 1 := ⟨k - 1, by omega⟩
  have C := (cal_of kind first hok).2
  have bad : quitrentref04_First.j0 (k + 1) p true kind first = some (0, 1) := by simp only [quitrentref04_First.j0]; rfl
  unfold quitrentref04_First.f
  by_cases h1 : p < 0
  · rw [if_pos h1, bad, if_neg (by omega)]
  rw [if_neg h1]
  by_cases h2 : p ≥ 240
  · rw [decide_eq_true h2, bad, if_neg (by omega)]
  rw [decide_eq_false h2, if_pos (by omega)]
  simp only [quitrentref04_First.j0]
  rw [if_neg (by decide)]
  have := rfirst_l hok p (by omega) p.toNat k 0 (by omega) (by omega) (by omega) (by omega)
  rw [C.zero] at this
  exact this
theorem rlast_f (hok : okC kind first) (k : Nat) (hk : 4000 ≤ k) (p : Int) : quitrentref04_Last.f k kind first p = some (if 0 ≤ p ∧ p < 240 then (bg kind first (p + 1) - 1, 0) else (0, 1)) := by
  have C := (cal_of kind first hok).2
  unfold quitrentref04_Last.f
  rw [rfirst_f hok k hk, Option.bind_some]
  by_cases c : 0 ≤ p ∧ p < 240
  · have hs := C.succ p c.1 c.2
    have b1 := C.bd (p + 1) (by omega) (by omega)
    rw [if_pos c, if_pos c]
    simp only
    rw [if_pos trivial, rdays_f k (by omega) kind first p hok, Option.bind_some, if_pos c, w64 (n := bg kind first p + dys kind first p) (by omega) (by omega), ← hs, w64 (by omega) (by omega)]
  · rw [if_neg c, if_neg c]
    simp only
    rw [if_neg (by decide)]
theorem rof_out (hok : okC kind first) (day : Int) (hd : day < first ∨ bg kind first 240 ≤ day) (n : Nat) : ∀ (k : Nat) (i : Int), 0 ≤ i → i ≤ 240 → 240 - i = n → 2 * n + 2900 < k → quitrentref04_Of.l0 k day (bg kind first i) i kind first = some (0, 1) := by
  have C := (cal_of kind first hok).2
  induction n with
  | zero =>
    intro k i i0 i1 hn hk
    obtain ⟨k, rfl⟩ : ∃ j, k = j + 2 := ⟨k - 2, by omega⟩
    simp only [quitrentref04_Of.l0]
    rw [if_neg (by omega)]
    simp only [quitrentref04_Of.j1]; rfl
  | succ n ih =>
    intro k i i0 i1 hn hk
    obtain ⟨k, rfl⟩ : ∃ j, k = j + 2 := ⟨k - 2, by omega⟩
    have hs := C.succ i i0 (by omega)
    have b1 := C.bd (i + 1) (by omega) (by omega)
    have a := C.le 0 i (by omega) i0 (by omega)
    have b := C.le (i + 1) 240 (by omega) (by omega) (by omega)
    have hz := C.zero
    simp only [quitrentref04_Of.l0]
    rw [if_pos (by omega)]
    by_cases h : day ≥ bg kind first i
    · rw [decide_eq_true h]
      simp only [quitrentref04_Of.j1]
      rw [if_pos trivial, rdays_f k (by omega) kind first i hok, Option.bind_some, if_pos (show 0 ≤ i ∧ i < 240 from ⟨i0, by omega⟩), w64 (n := bg kind first i + dys kind first i) (by omega) (by omega), w64 (n := i + 1) (by omega) (by omega), ← hs, if_neg (by omega)]
      exact ih k (i + 1) (by omega) (by omega) (by omega) (by omega)
    · rw [decide_eq_false h]
      simp only [quitrentref04_Of.j1]; rfl
theorem rof_in (hok : okC kind first) (day q : Int) (q1 : q < 240) (qa : bg kind first q ≤ day) (qb : day < bg kind first (q + 1)) (n : Nat) : ∀ (k : Nat) (i : Int), 0 ≤ i → i ≤ q → q - i = n → 2 * n + 2910 < k → quitrentref04_Of.l0 k day (bg kind first i) i kind first = some (q, 0) := by
  have C := (cal_of kind first hok).2
  induction n with
  | zero =>
    intro k i i0 i1 hn hk
    obtain ⟨k, rfl⟩ : ∃ j, k = j + 2 := ⟨k - 2, by omega⟩
    have : i = q := by omega
    subst this
    have hs := C.succ i i0 (by omega)
    have b1 := C.bd (i + 1) (by omega) (by omega)
    simp only [quitrentref04_Of.l0]
    rw [if_pos (by omega), decide_eq_true (show day ≥ bg kind first i by omega)]
    simp only [quitrentref04_Of.j1]
    rw [if_pos trivial, rdays_f k (by omega) kind first i hok, Option.bind_some, if_pos (show 0 ≤ i ∧ i < 240 from ⟨i0, by omega⟩), w64 (n := bg kind first i + dys kind first i) (by omega) (by omega), ← hs, if_pos qb]
  | succ n ih =>
    intro k i i0 i1 hn hk
    obtain ⟨k, rfl⟩ : ∃ j, k = j + 2 := ⟨k - 2, by omega⟩
    have hs := C.succ i i0 (by omega)
    have b1 := C.bd (i + 1) (by omega) (by omega)
    have a := C.le (i + 1) q (by omega) (by omega) (by omega)
    have hl := C.len i
    simp only [quitrentref04_Of.l0]
    rw [if_pos (by omega), decide_eq_true (show day ≥ bg kind first i by omega)]
    simp only [quitrentref04_Of.j1]
    rw [if_pos trivial, rdays_f k (by omega) kind first i hok, Option.bind_some, if_pos (show 0 ≤ i ∧ i < 240 from ⟨i0, by omega⟩), w64 (n := bg kind first i + dys kind first i) (by omega) (by omega), w64 (n := i + 1) (by omega) (by omega), ← hs, if_neg (by omega)]
    exact ih k (i + 1) (by omega) (by omega) (by omega) (by omega)
theorem rof_f (hok : okC kind first) (k : Nat) (hk : 5000 ≤ k) (day : Int) : quitrentref04_Of.f k kind first day = fiscal_Of.f k kind first day := by
  have C := (cal_of kind first hok).2
  unfold quitrentref04_Of.f
  have hz := C.zero
  rcases C.of_f k (by omega) day with ⟨hout, e⟩ | ⟨q, q0, q1, qa, qb, e⟩
  · rw [e]
    have := rof_out hok day hout 240 k 0 (by omega) (by omega) (by omega) (by omega)
    rw [hz] at this; exact this
  · rw [e]
    have := rof_in hok day q q1 qa qb q.toNat k 0 (by omega) q0 (by omega) (by omega)
    rw [hz] at this; exact this
end

theorem tells (kind first p day : Int) : quitrentlaw04_FiscalTells.f 6000 kind first p day = some true := by
  unfold quitrentlaw04_FiscalTells.f
  rw [awake_f 6000 (by omega), Option.bind_some, if_pos rfl, check_f 6000 (by omega), Option.bind_some, rcheck_f 6000 (by omega), Option.bind_some, if_pos rfl, Option.bind_some]
  by_cases hok : okC kind first
  · rw [if_pos hok, if_pos rfl]
    have C := (cal_of kind first hok).2
    have hof : ∃ r, fiscal_Of.f 6000 kind first day = some r := by
      rcases C.of_f 6000 (by omega) day with ⟨_, e⟩ | ⟨q, _, _, _, _, e⟩
      · exact ⟨_, e⟩
      · exact ⟨_, e⟩
    obtain ⟨r, hr⟩ := hof
    rw [C.first_f 6000 (by omega), Option.bind_some, rfirst_f hok 6000 (by omega), Option.bind_some, C.last_f 6000 (by omega), Option.bind_some, rlast_f hok 6000 (by omega), Option.bind_some, rof_f hok 6000 (by omega), hr, Option.bind_some, Option.bind_some,
      if_pos rfl, if_pos rfl, if_pos rfl, if_pos rfl, if_pos rfl, if_pos rfl, C.days_f 6000 (by omega), Option.bind_some, rdays_f 6000 (by omega) kind first p hok, Option.bind_some]
    by_cases c : 0 ≤ p ∧ p < 240
    · have hs := C.succ p c.1 c.2
      rw [if_pos c, if_pos c]
      congr 1; rw [beq_iff_eq]; omega
    · rw [if_neg c, if_neg c]; rfl
  · rw [if_neg hok, if_neg (by decide)]

end Go.Proofs.Ytkfbmplhcigopab.PFis
