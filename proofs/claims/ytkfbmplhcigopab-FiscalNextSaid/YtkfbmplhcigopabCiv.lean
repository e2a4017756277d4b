/- The calendar as plain arithmetic of integers: no Go in it. -/
namespace Go.Proofs.Ytkfbmplhcigopab.Civ
/-- Gregorian leap -/
def lp (y : Int) : Prop := y % 4 = 0 ∧ (y % 100 ≠ 0 ∨ y % 400 = 0)
instance (y : Int) : Decidable (lp y) := by unfold lp; infer_instance
def lg (y m : Int) : Int := if m = 2 then (if lp y then 29 else 28) else if m = 4 ∨ m = 6 ∨ m = 9 ∨ m = 11 then 30 else 31
def valid (y m d : Int) : Prop := 1 ≤ y ∧ 1 ≤ m ∧ m ≤ 12 ∧ 1 ≤ d ∧ d ≤ lg y m
/-- days before a year -/
def ah (y : Int) : Int := 365 * (y - 1) + (y - 1) / 4 - (y - 1) / 100 + (y - 1) / 400
/-- days before a month within the year -/
def cum (y m : Int) : Int :=
  let l := if lp y then 1 else 0
  if m ≤ 1 then 0 else if m = 2 then 31 else if m = 3 then 59 + l else if m = 4 then 90 + l else if m = 5 then 120 + l else if m = 6 then 151 + l
  else if m = 7 then 181 + l else if m = 8 then 212 + l else if m = 9 then 243 + l else if m = 10 then 273 + l else if m = 11 then 304 + l else if m = 12 then 334 + l else 365 + l
def num (y m d : Int) : Int := ah y + cum y m + d

theorem era_in (w t : Int) (hw : 0 ≤ w) (hw' : w ≤ 399) (ht : 0 ≤ t) (ht' : t ≤ 365)
    (hl : t = 365 → lp (w + 1)) (n : Int) (hn : n = 365 * w + w / 4 - w / 100 + t) :
    0 ≤ n ∧ n ≤ 146096 ∧ (n - n / 1460 + n / 36524 - n / 146096) / 365 = w := by
  unfold lp at hl
  have h100 : w / 100 = 0 ∨ w / 100 = 1 ∨ w / 100 = 2 ∨ w / 100 = 3 := by omega
  have h1 : n / 1460 = w / 4 ∨ n / 1460 = w / 4 + 1 := by omega
  have h2 : n / 36524 = w / 100 ∨ n / 36524 = w / 100 + 1 := by omega
  have h3 : n / 146096 = 0 ∨ n / 146096 = 1 := by omega
  refine ⟨by omega, by omega, ?_⟩
  by_cases e : t = 365
  · have h4 := hl e
    have h5 : w % 4 = 3 := by omega
    have h6 : n / 1460 = w / 4 + 1 := by omega
    have h7 : w % 100 = 99 → w = 399 := by omega
    by_cases h8 : w = 399
    · subst h8; subst e; omega
    · have : w % 100 ≠ 99 := fun h => h8 (h7 h)
      have : n / 36524 = w / 100 := by omega
      have : n / 146096 = 0 := by omega
      omega
  · have : n / 36524 = w / 100 := by omega
    have : n / 146096 = 0 := by omega
    rcases h1 with h1 | h1
    · omega
    · have : 1 ≤ t := by omega
      omega

theorem month_in (M d : Int) (h0 : 0 ≤ M) (h1 : M ≤ 11) (hd : 1 ≤ d) (hd' : d ≤ 31)
    (hs : M = 1 ∨ M = 3 ∨ M = 6 ∨ M = 8 → d ≤ 30) (hf : M = 11 → d ≤ 29) :
    (5 * ((153 * M + 2) / 5 + d - 1) + 2) / 153 = M := by
  have : M = 0 ∨ M = 1 ∨ M = 2 ∨ M = 3 ∨ M = 4 ∨ M = 5 ∨ M = 6 ∨ M = 7 ∨ M = 8 ∨ M = 9 ∨ M = 10 ∨ M = 11 := by omega
  rcases this with rfl | rfl | rfl | rfl | rfl | rfl | rfl | rfl | rfl | rfl | rfl | rfl <;> omega
theorem lg_bd (y m : Int) : 28 ≤ lg y m ∧ lg y m ≤ 31 := by
  unfold lg; split
  · split <;> omega
  · split <;> omega

theorem months {m : Int} (h1 : 1 ≤ m) (h2 : m ≤ 12) : m = 1 ∨ m = 2 ∨ m = 3 ∨ m = 4 ∨ m = 5 ∨ m = 6 ∨ m = 7 ∨ m = 8 ∨ m = 9 ∨ m = 10 ∨ m = 11 ∨ m = 12 := by omega

theorem ah_succ (y : Int) (_h : 1 ≤ y) : ah (y + 1) = ah y + (if lp y then 366 else 365) := by
  by_cases hp : lp y
  · rw [if_pos hp]; unfold lp at hp; unfold ah; omega
  · rw [if_neg hp]; unfold lp at hp; unfold ah; omega

theorem ah_bd (y : Int) (_h : 1 ≤ y) : 365 * (y - 1) ≤ ah y ∧ ah y ≤ 366 * (y - 1) := by unfold ah; omega

theorem cum_succ (y m : Int) (h1 : 1 ≤ m) (h2 : m ≤ 12) : cum y (m + 1) = cum y m + lg y m := by
  rcases months h1 h2 with rfl | rfl | rfl | rfl | rfl | rfl | rfl | rfl | rfl | rfl | rfl | rfl <;> simp [cum, lg] <;> split <;> omega

theorem cum_one (y : Int) : cum y 1 = 0 := by simp [cum]

theorem cum_thirteen (y : Int) : cum y 13 = if lp y then 366 else 365 := by simp [cum]; split <;> omega

theorem cum_bd (y m : Int) (h1 : 1 ≤ m) (h2 : m ≤ 13) : 0 ≤ cum y m ∧ cum y m ≤ (if lp y then 366 else 365) := by
  have : m = 13 ∨ m ≤ 12 := by omega
  rcases this with rfl | h
  · rw [cum_thirteen]; split <;> omega
  rcases months h1 h with rfl | rfl | rfl | rfl | rfl | rfl | rfl | rfl | rfl | rfl | rfl | rfl <;> simp [cum] <;> split <;> omega

theorem num_eq (y m d : Int) (h1 : 1 ≤ m) (h2 : m ≤ 12) (Y M : Int) (hY : Y = if m < 3 then y - 1 else y) (hM : M = if m < 3 then m + 9 else m - 3) :
    Y / 400 * 146097 + Y % 400 * 365 + Y % 400 / 4 - Y % 400 / 100 + ((153 * M + 2) / 5 + d - 1) - 305 = num y m d := by
  unfold num ah
  subst hY; subst hM
  rcases months h1 h2 with rfl | rfl | rfl | rfl | rfl | rfl | rfl | rfl | rfl | rfl | rfl | rfl <;> simp [cum, lp] <;> (try split) <;> omega

def ofZ (n : Int) : Int := n + 305
def ofIn (n : Int) : Int := (n + 305) % 146097
def ofYr (n : Int) : Int := (ofIn n - ofIn n / 1460 + ofIn n / 36524 - ofIn n / 146096) / 365
def ofDy (n : Int) : Int := ofIn n - (365 * ofYr n + ofYr n / 4 - ofYr n / 100)
def ofMo (n : Int) : Int := (5 * ofDy n + 2) / 153
def ofDate (n : Int) : Int × Int × Int :=
  if ofMo n + 3 > 12 then (ofYr n + (n + 305) / 146097 * 400 + 1, ofMo n + 3 - 12, ofDy n - (153 * ofMo n + 2) / 5 + 1)
  else (ofYr n + (n + 305) / 146097 * 400, ofMo n + 3, ofDy n - (153 * ofMo n + 2) / 5 + 1)

theorem of_num' (y m d : Int) (hv : valid y m d) : ofDate (num y m d) = (y, m, d) ∧ 0 ≤ ofDy (num y m d) ∧ ofDy (num y m d) ≤ 365 ∧ 0 ≤ ofMo (num y m d) ∧ ofMo (num y m d) ≤ 11 ∧ 0 ≤ ofYr (num y m d) ∧ ofYr (num y m d) ≤ 399 := by
  obtain ⟨hy, h1, h2, hd, hd'⟩ := hv
  have E := num_eq y m d h1 h2 _ _ rfl rfl
  generalize hY : (if m < 3 then y - 1 else y) = Y at E
  generalize hM : (if m < 3 then m + 9 else m - 3) = M at E
  generalize hn : num y m d = n at E ⊢
  have hM0 : 0 ≤ M ∧ M ≤ 11 := by subst hM; split <;> omega
  have hY0 : 0 ≤ Y := by subst hY; split <;> omega
  have hl := lg_bd y m
  have hs : M = 1 ∨ M = 3 ∨ M = 6 ∨ M = 8 → d ≤ 30 := by
    intro h
    have : m = 4 ∨ m = 6 ∨ m = 9 ∨ m = 11 := by subst hM; split at h <;> omega
    have e : lg y m = 30 := by unfold lg; rw [if_neg (by omega), if_pos this]
    omega
  have hf : M = 11 → d ≤ 29 ∧ (d = 29 → lp (Y + 1)) := by
    intro h
    have hm : m = 2 := by subst hM; split at h <;> omega
    subst hm
    have hYy : Y + 1 = y := by subst hY; simp
    rw [hYy]
    unfold lg at hd'
    rw [if_pos rfl] at hd'
    split at hd'
    · rename_i hp; exact ⟨by omega, fun _ => hp⟩
    · exact ⟨by omega, fun h => by omega⟩
  have hmo := month_in M d hM0.1 hM0.2 hd (by omega) hs (fun h => (hf h).1)
  have ht0 : 0 ≤ (153 * M + 2) / 5 + d - 1 := by omega
  have htop : (153 * M + 2) / 5 + d - 1 ≤ 365 ∧ ((153 * M + 2) / 5 + d - 1 = 365 → M = 11 ∧ d = 29) := by
    have : M = 11 ∨ M = 10 ∨ M ≤ 9 := by omega
    rcases this with rfl | rfl | h
    · have := (hf rfl).1; omega
    · omega
    · omega
  have hlp : (153 * M + 2) / 5 + d - 1 = 365 → lp (Y % 400 + 1) := by
    intro h
    have ⟨h3, h4⟩ := htop.2 h
    have := (hf h3).2 h4
    unfold lp at this ⊢; omega
  generalize ht : (153 * M + 2) / 5 + d - 1 = t at *
  obtain ⟨e0, e1, e2⟩ := era_in (Y % 400) t (by omega) (by omega) ht0 htop.1 hlp _ rfl
  have hin : ofIn n = 365 * (Y % 400) + Y % 400 / 4 - Y % 400 / 100 + t := by unfold ofIn; omega
  have hq : (n + 305) / 146097 = Y / 400 := by omega
  have hyr : ofYr n = Y % 400 := by unfold ofYr; rw [hin]; exact e2
  have hdy : ofDy n = t := by unfold ofDy; rw [hyr, hin]; omega
  have hmm : ofMo n = M := by unfold ofMo; rw [hdy]; exact hmo
  refine ⟨?_, by rw [hdy]; omega, by rw [hdy]; omega, by rw [hmm]; omega, by rw [hmm]; omega, by rw [hyr]; omega, by rw [hyr]; omega⟩
  unfold ofDate
  rw [hyr, hdy, hmm, hq]
  by_cases h3 : m < 3
  · rw [if_pos h3] at hY hM
    rw [if_pos (by omega)]
    simp only [Prod.mk.injEq]; omega
  · rw [if_neg h3] at hY hM
    rw [if_neg (by omega)]
    simp only [Prod.mk.injEq]; omega

theorem of_num (y m d : Int) (hv : valid y m d) : ofDate (num y m d) = (y, m, d) := (of_num' y m d hv).1

theorem next (y m d : Int) (hv : valid y m d) : ∃ y' m' d', valid y' m' d' ∧ num y' m' d' = num y m d + 1 ∧
    ((y' = y ∧ m' = m ∧ d' = d + 1) ∨ (d = lg y m ∧ d' = 1 ∧ (y' = y ∧ m' = m + 1 ∨ y' = y + 1 ∧ m = 12 ∧ m' = 1))) := by
  obtain ⟨hy, h1, h2, hd, hd'⟩ := hv
  by_cases h : d < lg y m
  · exact ⟨y, m, d + 1, ⟨hy, h1, h2, by omega, by omega⟩, by unfold num; omega, Or.inl ⟨rfl, rfl, rfl⟩⟩
  have hde : d = lg y m := by omega
  have hc := cum_succ y m h1 h2
  by_cases h12 : m = 12
  · subst h12
    refine ⟨y + 1, 1, 1, ⟨by omega, by omega, by omega, by omega, by have := lg_bd (y+1) 1; omega⟩, ?_, Or.inr ⟨hde, rfl, Or.inr ⟨rfl, rfl, rfl⟩⟩⟩
    have c13 := cum_thirteen y
    have hc' : cum y 13 = cum y 12 + lg y 12 := hc
    unfold num; rw [ah_succ y hy, cum_one]; omega
  · refine ⟨y, m + 1, 1, ⟨by omega, by omega, by omega, by omega, by have := lg_bd y (m+1); omega⟩, ?_, Or.inr ⟨hde, rfl, Or.inl ⟨rfl, rfl⟩⟩⟩
    unfold num; omega

theorem exists_date (n : Nat) : ∃ y m d, valid y m d ∧ num y m d = (n : Int) + 1 := by
  induction n with
  | zero => exact ⟨1, 1, 1, ⟨by omega, by omega, by omega, by omega, by have := lg_bd 1 1; omega⟩, by simp [num, ah, cum]⟩
  | succ n ih =>
    obtain ⟨y, m, d, hv, e⟩ := ih
    obtain ⟨y', m', d', hv', e', _⟩ := next y m d hv
    exact ⟨y', m', d', hv', by omega⟩

theorem year_top (y m d : Int) (hv : valid y m d) : y ≤ 2737 ↔ num y m d ≤ 999668 := by
  obtain ⟨hy, h1, h2, hd, hd'⟩ := hv
  have c1 := cum_bd y m h1 (by omega)
  have c2 := cum_succ y m h1 h2
  have c3 := cum_bd y (m + 1) (by omega) (by omega)
  constructor
  · intro h
    have hs := ah_succ y hy
    have : num y m d ≤ ah (y + 1) := by unfold num; omega
    have : ah (y + 1) ≤ 999668 := by unfold ah; omega
    omega
  · intro h
    have : ah y < num y m d := by unfold num; omega
    unfold ah at this; omega

theorem date_of (n : Int) (h1 : 1 ≤ n) (h2 : n ≤ 999668) : ∃ y m d, valid y m d ∧ num y m d = n ∧ y ≤ 2737 ∧ ofDate n = (y, m, d) := by
  obtain ⟨y, m, d, hv, e⟩ := exists_date (n - 1).toNat
  have e' : num y m d = n := by omega
  exact ⟨y, m, d, hv, e', (year_top y m d hv).2 (by omega), by rw [← e']; exact of_num y m d hv⟩

theorem of_bd (n : Int) (h1 : 1 ≤ n) (h2 : n ≤ 999668) : 0 ≤ ofDy n ∧ ofDy n ≤ 365 ∧ 0 ≤ ofMo n ∧ ofMo n ≤ 11 ∧ 0 ≤ ofYr n ∧ ofYr n ≤ 399 := by
  obtain ⟨y, m, d, hv, e, _, _⟩ := date_of n h1 h2
  rw [← e]; exact (of_num' y m d hv).2

theorem num_pos (y m d : Int) (hv : valid y m d) : 1 ≤ num y m d := by
  obtain ⟨hy, h1, h2, hd, _⟩ := hv
  have := cum_bd y m h1 (by omega)
  have := ah_bd y hy
  unfold num; omega

theorem num_inj (y m d y' m' d' : Int) (hv : valid y m d) (hv' : valid y' m' d') (h : num y m d = num y' m' d') : y = y' ∧ m = m' ∧ d = d' := by
  have a := of_num y m d hv
  have b := of_num y' m' d' hv'
  rw [h, b] at a
  simp only [Prod.mk.injEq] at a
  omega

/-- days of a month, 0 where there is none -/
def Lg (y m : Int) : Int := if y < 1 ∨ m < 1 ∨ m > 12 then 0 else lg y m

theorem Lg_eq (y m : Int) (h : 1 ≤ y) (h1 : 1 ≤ m) (h2 : m ≤ 12) : Lg y m = lg y m := by unfold Lg; rw [if_neg (by omega)]

theorem Lg_bd (y m : Int) : 0 ≤ Lg y m ∧ Lg y m ≤ 31 := by
  unfold Lg; split
  · omega
  · have := lg_bd y m; omega

instance (y m d : Int) : Decidable (valid y m d) := by unfold valid; infer_instance

theorem valid_iff (y m d : Int) : valid y m d ↔ 1 ≤ d ∧ d ≤ Lg y m := by
  constructor
  · rintro ⟨a, b, c, e, f⟩; rw [Lg_eq y m a b c]; exact ⟨e, f⟩
  · rintro ⟨e, f⟩
    unfold Lg at f
    split at f
    · omega
    · rename_i h
      exact ⟨by omega, by omega, by omega, e, f⟩

/-- what Days tells -/
def days (y m d : Int) : Int × Int := if valid y m d ∧ y ≤ 2737 then (num y m d, 0) else (0, 1)
/-- what Date tells -/
def date (n : Int) : Int × Int × Int × Int := if 1 ≤ n ∧ n ≤ 999668 then ((ofDate n).1, (ofDate n).2.1, (ofDate n).2.2, 0) else (0, 0, 0, 1)
/-- what Move tells -/
def move (n by_ : Int) : Int × Int :=
  if 1 ≤ n ∧ n ≤ 999668 then
    if (ofDate n).1 * 12 + (ofDate n).2.1 - 1 + by_ < 12 then (0, 1)
    else days (((ofDate n).1 * 12 + (ofDate n).2.1 - 1 + by_) / 12) (((ofDate n).1 * 12 + (ofDate n).2.1 - 1 + by_) % 12 + 1)
      (if Lg (((ofDate n).1 * 12 + (ofDate n).2.1 - 1 + by_) / 12) (((ofDate n).1 * 12 + (ofDate n).2.1 - 1 + by_) % 12 + 1) < (ofDate n).2.2
        then Lg (((ofDate n).1 * 12 + (ofDate n).2.1 - 1 + by_) / 12) (((ofDate n).1 * 12 + (ofDate n).2.1 - 1 + by_) % 12 + 1) else (ofDate n).2.2)
  else (0, 1)
theorem days_pos (y m d : Int) (hv : valid y m d) (hy : y ≤ 2737) : days y m d = (num y m d, 0) := by unfold days; rw [if_pos ⟨hv, hy⟩]
theorem days_neg (y m d : Int) (h : ¬ (valid y m d ∧ y ≤ 2737)) : days y m d = (0, 1) := by unfold days; rw [if_neg h]
theorem date_num (y m d : Int) (hv : valid y m d) (hy : y ≤ 2737) : date (num y m d) = (y, m, d, 0) := by
  unfold date; rw [if_pos ⟨num_pos y m d hv, (year_top y m d hv).1 hy⟩, of_num y m d hv]
theorem date_no (n : Int) (h : ¬ (1 ≤ n ∧ n ≤ 999668)) : date n = (0, 0, 0, 1) := by unfold date; rw [if_neg h]

theorem lp_400 (y : Int) : lp (y + 400) ↔ lp y := by unfold lp; omega
theorem lg_400 (y m : Int) : lg (y + 400) m = lg y m := by
  unfold lg
  by_cases h : lp y
  · rw [if_pos ((lp_400 y).2 h), if_pos h]
  · rw [if_neg (fun x => h ((lp_400 y).1 x)), if_neg h]
theorem cum_400 (y m : Int) : cum (y + 400) m = cum y m := by
  unfold cum
  by_cases h : lp y
  · rw [if_pos ((lp_400 y).2 h), if_pos h]
  · rw [if_neg (fun x => h ((lp_400 y).1 x)), if_neg h]
theorem num_400 (y m d : Int) : num (y + 400) m d = num y m d + 146097 := by
  unfold num; rw [cum_400]; unfold ah; omega
theorem valid_400 (y m d : Int) (h : 1 ≤ y) : valid (y + 400) m d ↔ valid y m d := by
  unfold valid; rw [lg_400]; omega

theorem month_of (A : Int) (h : 12 ≤ A) (d : Int) (h1 : 1 ≤ d) (h2 : d ≤ 28) : valid (A / 12) (A % 12 + 1) d := by
  have := lg_bd (A / 12) (A % 12 + 1)
  exact ⟨by omega, by omega, by omega, h1, by omega⟩

/-- a move out of a day that is known by its date -/
theorem move_num (y m d b : Int) (hv : valid y m d) (hy : y ≤ 2737) : move (num y m d) b =
    if 12 * y + m - 1 + b < 12 ∨ 32856 ≤ 12 * y + m - 1 + b then (0, 1)
    else (num ((12 * y + m - 1 + b) / 12) ((12 * y + m - 1 + b) % 12 + 1) (if lg ((12 * y + m - 1 + b) / 12) ((12 * y + m - 1 + b) % 12 + 1) < d then lg ((12 * y + m - 1 + b) / 12) ((12 * y + m - 1 + b) % 12 + 1) else d), 0) := by
  unfold move
  rw [if_pos ⟨num_pos y m d hv, (year_top y m d hv).1 hy⟩, of_num y m d hv]
  simp only
  rw [show y * 12 + m - 1 + b = 12 * y + m - 1 + b from by omega]
  obtain ⟨v0, v1, v2, v3, v4⟩ := hv
  by_cases h : 12 * y + m - 1 + b < 12
  · rw [if_pos h, if_pos (Or.inl h)]
  rw [if_neg h]
  rw [Lg_eq _ _ (by omega) (by omega) (by omega)]
  have hl := lg_bd ((12 * y + m - 1 + b) / 12) ((12 * y + m - 1 + b) % 12 + 1)
  by_cases h2 : 32856 ≤ 12 * y + m - 1 + b
  · rw [if_pos (show 12 * y + m - 1 + b < 12 ∨ 32856 ≤ 12 * y + m - 1 + b from Or.inr h2)]
    exact days_neg _ _ _ (fun h => by have := h.2; omega)
  · rw [if_neg (show ¬ (12 * y + m - 1 + b < 12 ∨ 32856 ≤ 12 * y + m - 1 + b) by omega)]
    have hv' : valid ((12 * y + m - 1 + b) / 12) ((12 * y + m - 1 + b) % 12 + 1) (if lg ((12 * y + m - 1 + b) / 12) ((12 * y + m - 1 + b) % 12 + 1) < d then lg ((12 * y + m - 1 + b) / 12) ((12 * y + m - 1 + b) % 12 + 1) else d) := by
      refine ⟨by omega, by omega, by omega, ?_, ?_⟩
      · split <;> omega
      · split <;> omega
    exact days_pos _ _ _ hv' (by omega)

theorem move_small (y m d b : Int) (hv : valid y m d) (hy : y ≤ 2737) (hd : d ≤ 28) : move (num y m d) b =
    if 12 * y + m - 1 + b < 12 ∨ 32856 ≤ 12 * y + m - 1 + b then (0, 1)
    else (num ((12 * y + m - 1 + b) / 12) ((12 * y + m - 1 + b) % 12 + 1) d, 0) := by
  rw [move_num y m d b hv hy]
  have := lg_bd ((12 * y + m - 1 + b) / 12) ((12 * y + m - 1 + b) % 12 + 1)
  rw [if_neg (show ¬ lg ((12 * y + m - 1 + b) / 12) ((12 * y + m - 1 + b) % 12 + 1) < d by omega)]

theorem move_no (n b : Int) (h : ¬ (1 ≤ n ∧ n ≤ 999668)) : move n b = (0, 1) := by unfold move; rw [if_neg h]

theorem move_far (n b : Int) (h : n < 1 ∨ 999668 < n ∨ 32844 < b ∨ b < -32844) : move n b = (0, 1) := by
  by_cases h1 : 1 ≤ n ∧ n ≤ 999668
  · obtain ⟨y, m, d, hv, hn, hy, _⟩ := date_of n h1.1 h1.2
    rw [← hn, move_num y m d b hv hy]
    obtain ⟨v0, v1, v2, _, _⟩ := hv
    rw [if_pos (show 12 * y + m - 1 + b < 12 ∨ 32856 ≤ 12 * y + m - 1 + b by omega)]
  · exact move_no n b h1

theorem move_of (n b y m d : Int) (h1 : 1 ≤ n) (h2 : n ≤ 999668) (h : ofDate n = (y, m, d)) : move n b =
    if y * 12 + m - 1 + b < 12 then (0, 1)
    else days ((y * 12 + m - 1 + b) / 12) ((y * 12 + m - 1 + b) % 12 + 1) (if Lg ((y * 12 + m - 1 + b) / 12) ((y * 12 + m - 1 + b) % 12 + 1) < d then Lg ((y * 12 + m - 1 + b) / 12) ((y * 12 + m - 1 + b) % 12 + 1) else d) := by
  unfold move
  rw [if_pos ⟨h1, h2⟩, h]
end Go.Proofs.Ytkfbmplhcigopab.Civ
