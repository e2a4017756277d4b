/- Periods: what the printed functions of package fiscal tell. -/
import Derived.Test.YtkfbmplhcigopabPFisF18
import Derived.Test.YtkfbmplhcigopabPFisF32
import Derived.Test.YtkfbmplhcigopabCivP
set_option linter.unusedSimpArgs false
set_option linter.unusedVariables false
namespace Go.Proofs.Ytkfbmplhcigopab.PFis
open Go.RowKit Go.Proofs.Ytkfbmplhcigopab Go.Proofs.YtkfbmplhcigopabW.PrintWords Go.Proofs.YtkfbmplhcigopabW.PrintLast Go.Proofs.YtkfbmplhcigopabW.PrintMore

/- periods of weeks -/
def bgW (first p : Int) : Int := first + 7 * (p / 12 * 52 + 71 * (p / 12) / 400 + p % 12 / 3 * 13 + p % 12 % 3 * 4)
def dysW (p : Int) : Int := if p % 3 = 2 then (if p % 12 = 11 then (if 71 * (p / 12 + 1) / 400 > 71 * (p / 12) / 400 then 42 else 35) else 35) else 28
theorem dysW_bd (p : Int) : 28 ≤ dysW p ∧ dysW p ≤ 42 := by unfold dysW; repeat' split <;> omega
theorem dysW_7 (p : Int) : dysW p % 7 = 0 := by unfold dysW; repeat' split <;> omega
theorem bgW_succ (first p : Int) (h0 : 0 ≤ p) (h1 : p < 240) : bgW first (p + 1) = bgW first p + dysW p := by
  have hr : p % 12 = 0 ∨ p % 12 = 1 ∨ p % 12 = 2 ∨ p % 12 = 3 ∨ p % 12 = 4 ∨ p % 12 = 5 ∨ p % 12 = 6 ∨ p % 12 = 7 ∨ p % 12 = 8 ∨ p % 12 = 9 ∨ p % 12 = 10 ∨ p % 12 = 11 := by omega
  obtain ⟨y, hy⟩ : ∃ y, p / 12 = y := ⟨_, rfl⟩
  have hp : p = 12 * y + p % 12 := by omega
  have hl : 71 * (y + 1) / 400 = 71 * y / 400 ∨ 71 * (y + 1) / 400 = 71 * y / 400 + 1 := by omega
  unfold bgW dysW
  rcases hr with h | h | h | h | h | h | h | h | h | h | h | h
  all_goals
    first
    | (rw [show (p + 1) / 12 = y from by omega, show (p + 1) % 12 = p % 12 + 1 from by omega, hy, h]; (repeat' split) <;> omega)
    | (rw [show (p + 1) / 12 = y + 1 from by omega, show (p + 1) % 12 = 0 from by omega, hy, h]; (repeat' split) <;> omega)

/- periods of months -/
def bgM (A p : Int) : Int := Civ.num ((A + p) / 12) ((A + p) % 12 + 1) 1
def dysM (A p : Int) : Int := Civ.lg ((A + p) / 12) ((A + p) % 12 + 1)
theorem bgM_succ (A p : Int) (h : 12 ≤ A + p) : bgM A (p + 1) = bgM A p + dysM A p := by
  unfold bgM dysM Civ.num
  have hc := Civ.cum_succ ((A + p) / 12) ((A + p) % 12 + 1) (by omega) (by omega)
  by_cases h12 : (A + p) % 12 = 11
  · have h13 := Civ.cum_thirteen ((A + p) / 12)
    rw [h12] at hc ⊢
    have hc' : Civ.cum ((A + p) / 12) 13 = Civ.cum ((A + p) / 12) 12 + Civ.lg ((A + p) / 12) 12 := hc
    rw [show (A + (p + 1)) / 12 = (A + p) / 12 + 1 from by omega, show (A + (p + 1)) % 12 + 1 = 1 from by omega, Civ.ah_succ _ (by omega), Civ.cum_one, show (11 : Int) + 1 = 12 from rfl]
    omega
  · rw [show (A + (p + 1)) / 12 = (A + p) / 12 from by omega, show (A + (p + 1)) % 12 + 1 = (A + p) % 12 + 1 + 1 from by omega, hc]
    omega
theorem dysM_bd (A p : Int) : 28 ≤ dysM A p ∧ dysM A p ≤ 31 := Civ.lg_bd _ _
theorem bgM_valid (A p : Int) (h : 12 ≤ A + p) : Civ.valid ((A + p) / 12) ((A + p) % 12 + 1) 1 := by
  have := Civ.lg_bd ((A + p) / 12) ((A + p) % 12 + 1)
  exact ⟨by omega, by omega, by omega, by omega, by omega⟩
theorem bgM_top (A p : Int) (h : 12 ≤ A + p) : A + p < 32856 ↔ bgM A p ≤ 999668 := by
  have := Civ.year_top _ _ _ (bgM_valid A p h)
  unfold bgM; omega
theorem bgM_pos (A p : Int) (h : 12 ≤ A + p) : 1 ≤ bgM A p := Civ.num_pos _ _ _ (bgM_valid A p h)
theorem bgM_end (A p : Int) (h : 12 ≤ A + p) : A + p < 32856 ↔ bgM A (p + 1) - 1 ≤ 999668 := by
  have hs := bgM_succ A p h
  have hv : Civ.valid ((A + p) / 12) ((A + p) % 12 + 1) (dysM A p) := by
    have := dysM_bd A p
    exact ⟨by omega, by omega, by omega, by omega, by unfold dysM; omega⟩
  have ht := Civ.year_top _ _ _ hv
  have e : Civ.num ((A + p) / 12) ((A + p) % 12 + 1) (dysM A p) = bgM A (p + 1) - 1 := by rw [hs]; unfold bgM Civ.num; omega
  rw [e] at ht
  omega

theorem date_f (n : Int) : civil_Date.f n = some (Civ.date n) := rfl
theorem move_f (k : Nat) (n b : Int) : civil_Move.f k n b = some (Civ.move n b) := rfl

theorem begins_W (k : Nat) (hk : 1 ≤ k) (kind first p : Int) (hkind : kind ≠ 0) (h1 : 1 ≤ first) (h2 : first ≤ 999668) (h0 : 0 ≤ p) (hp : p ≤ 240) : fiscal_Calendar_begins.f k kind first p = some (bgW first p, 0) := by
  obtain ⟨k, rfl⟩ : ∃ j, k = j + 1 := ⟨k - 1, by omega⟩
  unfold fiscal_Calendar_begins.f bgW
  rw [if_neg hkind]
  simp only [fiscal_Calendar_begins.j0]
  rw [if_neg (by decide), if_neg hkind, td (a := p) h0, tm (a := p) h0, w64 (n := p / 12) (by omega) (by omega), td (a := p % 12) (by omega), tm (a := p % 12) (by omega), w64 (n := p / 12 * 52) (by omega) (by omega), w64 (n := 71 * (p / 12)) (by omega) (by omega), td (a := 71 * (p / 12)) (by omega),
    w64 (n := 71 * (p / 12) / 400) (by omega) (by omega), w64 (n := p / 12 * 52 + 71 * (p / 12) / 400) (by omega) (by omega), w64 (n := p % 12 / 3) (by omega) (by omega), w64 (n := p % 12 / 3 * 13) (by omega) (by omega), w64 (n := p / 12 * 52 + 71 * (p / 12) / 400 + p % 12 / 3 * 13) (by omega) (by omega),
    w64 (n := p % 12 % 3 * 4) (by omega) (by omega), w64 (n := p / 12 * 52 + 71 * (p / 12) / 400 + p % 12 / 3 * 13 + p % 12 % 3 * 4) (by omega) (by omega)]
  rw [w64 (n := 7 * (p / 12 * 52 + 71 * (p / 12) / 400 + p % 12 / 3 * 13 + p % 12 % 3 * 4)) (by omega) (by omega), w64 (by omega) (by omega)]

theorem begins_M (k : Nat) (hk : 4 ≤ k) (first y m p : Int) (hv : Civ.valid y m 1) (hy : y ≤ 2737) (hf : Civ.num y m 1 = first) (h0 : 0 ≤ p) (hp : p ≤ 240) :
    fiscal_Calendar_begins.f k 0 first p = some (if 0 < p ∧ 32856 ≤ 12 * y + m - 1 + p - 1 then (0, 1) else (bgM (12 * y + m - 1) p, 0)) := by
  obtain ⟨k, rfl⟩ : ∃ j, k = j + 1 := ⟨k - 1, by omega⟩
  unfold fiscal_Calendar_begins.f
  rw [if_pos rfl]
  simp only [fiscal_Calendar_begins.j0]
  obtain ⟨v0, v1, v2, v3, v4⟩ := hv
  have hv : Civ.valid y m 1 := ⟨v0, v1, v2, v3, v4⟩
  by_cases hp0 : p > 0
  · rw [decide_eq_true hp0, if_pos rfl, w64 (n := p - 1) (by omega) (by omega), move_f, ← hf, Civ.move_small y m 1 (p - 1) hv hy (by omega), show 12 * y + m - 1 + (p - 1) = 12 * y + m - 1 + p - 1 from by omega]
    by_cases hb : 32856 ≤ 12 * y + m - 1 + p - 1
    · rw [if_pos (show 12 * y + m - 1 + p - 1 < 12 ∨ 32856 ≤ 12 * y + m - 1 + p - 1 by omega), if_pos ⟨hp0, hb⟩]
      rw [Option.bind_some, date_f, Civ.date_no 0 (by omega), Option.bind_some, long_f k (by omega), Option.bind_some]
      decide +kernel
    · rw [if_neg (show ¬ (12 * y + m - 1 + p - 1 < 12 ∨ 32856 ≤ 12 * y + m - 1 + p - 1) by omega), if_neg (show ¬ (0 < p ∧ 32856 ≤ 12 * y + m - 1 + p - 1) by omega)]
      have e : Civ.num ((12 * y + m - 1 + p - 1) / 12) ((12 * y + m - 1 + p - 1) % 12 + 1) 1 = bgM (12 * y + m - 1) (p - 1) := by unfold bgM; rw [show 12 * y + m - 1 + (p - 1) = 12 * y + m - 1 + p - 1 from by omega]
      have hs := bgM_succ (12 * y + m - 1) (p - 1) (by omega)
      have hd := dysM_bd (12 * y + m - 1) (p - 1)
      have ht := (bgM_top (12 * y + m - 1) (p - 1) (by omega)).1 (by omega)
      have hps := bgM_pos (12 * y + m - 1) (p - 1) (by omega)
      have hvv := bgM_valid (12 * y + m - 1) (p - 1) (by omega)
      rw [show 12 * y + m - 1 + (p - 1) = 12 * y + m - 1 + p - 1 from by omega] at hvv
      rw [Option.bind_some, date_f, Civ.date_num _ _ 1 hvv (by omega), Option.bind_some, long_f k (by omega), Option.bind_some, Civ.Lg_eq _ _ hvv.1 hvv.2.1 hvv.2.2.1]
      have el : Civ.lg ((12 * y + m - 1 + p - 1) / 12) ((12 * y + m - 1 + p - 1) % 12 + 1) = dysM (12 * y + m - 1) (p - 1) := by unfold dysM; rw [show 12 * y + m - 1 + (p - 1) = 12 * y + m - 1 + p - 1 from by omega]
      simp only
      rw [e, el, w64 (by omega) (by omega), ← hs, show p - 1 + 1 = p from by omega]
      rfl
  · rw [decide_eq_false hp0, if_neg (by decide), if_pos trivial, if_neg (show ¬ (0 < p ∧ 32856 ≤ 12 * y + m - 1 + p - 1) by omega)]
    have : p = 0 := by omega
    subst this
    have e : bgM (12 * y + m - 1) 0 = Civ.num y m 1 := by unfold bgM; rw [show (12 * y + m - 1 + 0) / 12 = y from by omega, show (12 * y + m - 1 + 0) % 12 + 1 = m from by omega]
    rw [e, hf]

/-- when a calendar may be: its periods' begins B, their lengths D, as both tell them -/
structure Cal (kind first : Int) (B D : Int → Int) : Prop where
  zero : B 0 = first
  succ : ∀ p, 0 ≤ p → p < 240 → B (p + 1) = B p + D p
  len : ∀ p, 28 ≤ D p ∧ D p ≤ 42
  pos : 1 ≤ first
  fit : B 240 - 1 ≤ 999668
  begins : ∀ k p, 4 ≤ k → 0 ≤ p → p ≤ 240 → fiscal_Calendar_begins.f k kind first p = some (B p, 0)

theorem Cal.mono {kind first : Int} {B D : Int → Int} (h : Cal kind first B D) (n : Nat) : ∀ p : Int, 0 ≤ p → p + n ≤ 240 → B p + 28 * n ≤ B (p + n) := by
  induction n with
  | zero => intro p _ _; simp
  | succ n ih =>
    intro p h0 h1
    have a := ih p h0 (by omega)
    have b := h.succ (p + n) (by omega) (by omega)
    have c := h.len (p + n)
    rw [show p + ((n + 1 : Nat) : Int) = p + n + 1 from by omega]; omega
theorem Cal.le {kind first : Int} {B D : Int → Int} (h : Cal kind first B D) (p q : Int) (h0 : 0 ≤ p) (h1 : p ≤ q) (h2 : q ≤ 240) : B p + 28 * (q - p) ≤ B q := by
  have := h.mono (q - p).toNat p h0 (by omega)
  rw [show p + (((q - p).toNat : Nat) : Int) = q from by omega] at this
  omega
theorem Cal.bd {kind first : Int} {B D : Int → Int} (h : Cal kind first B D) (p : Int) (h0 : 0 ≤ p) (h1 : p ≤ 240) : 1 ≤ B p ∧ B p ≤ 999669 := by
  have a := h.le 0 p (by omega) h0 h1
  have b := h.le p 240 h0 h1 (by omega)
  have := h.zero; have := h.pos; have := h.fit
  omega
theorem Cal.uniq {kind first : Int} {B D : Int → Int} (h : Cal kind first B D) (d p q : Int) (h0 : 0 ≤ p) (h1 : p < 240) (h2 : 0 ≤ q) (h3 : q < 240) (a : B p ≤ d) (b : d < B (p + 1)) (c : B q ≤ d) (e : d < B (q + 1)) : p = q := by
  refine Classical.byContradiction fun hn => ?_
  by_cases hlt : p < q
  · have := h.le (p + 1) q (by omega) (by omega) (by omega); omega
  · have := h.le (q + 1) p (by omega) (by omega) (by omega); omega

theorem has_f (p : Int) : fiscal_has.f p = some (decide (0 ≤ p ∧ p < 240)) := by
  unfold fiscal_has.f
  by_cases h : p ≥ 0
  · rw [if_pos h]; congr 1; by_cases h' : p < 240
    · rw [decide_eq_true h', decide_eq_true ⟨h, h'⟩]
    · rw [decide_eq_false h', decide_eq_false (fun x => h' x.2)]
  · rw [if_neg h]; congr 1; rw [decide_eq_false]; omega

section
variable {kind first : Int} {B D : Int → Int}
theorem Cal.first_f (h : Cal kind first B D) (k : Nat) (hk : 4 ≤ k) (p : Int) : fiscal_First.f k kind first p = some (if 0 ≤ p ∧ p < 240 then (B p, 0) else (0, 1)) := by
  unfold fiscal_First.f
  rw [has_f, Option.bind_some]
  by_cases c : 0 ≤ p ∧ p < 240
  · rw [if_pos (by simpa using c), h.begins k p hk c.1 (by omega), Option.bind_some, if_pos c]
  · rw [if_neg (by simpa using c), if_neg c]
theorem Cal.last_f (h : Cal kind first B D) (k : Nat) (hk : 4 ≤ k) (p : Int) : fiscal_Last.f k kind first p = some (if 0 ≤ p ∧ p < 240 then (B (p + 1) - 1, 0) else (0, 1)) := by
  unfold fiscal_Last.f
  rw [has_f, Option.bind_some]
  by_cases c : 0 ≤ p ∧ p < 240
  · have := h.bd (p + 1) (by omega) (by omega)
    rw [if_pos (by simpa using c), w64 (n := p + 1) (by omega) (by omega), h.begins k (p + 1) hk (by omega) (by omega), Option.bind_some, if_pos c]
    simp only
    rw [w64 (by omega) (by omega)]
  · rw [if_neg (by simpa using c), if_neg c]
theorem Cal.days_f (h : Cal kind first B D) (k : Nat) (hk : 4 ≤ k) (p : Int) : fiscal_Days.f k kind first p = some (if 0 ≤ p ∧ p < 240 then B (p + 1) - B p else 0) := by
  unfold fiscal_Days.f
  rw [has_f, Option.bind_some]
  by_cases c : 0 ≤ p ∧ p < 240
  · have b1 := h.bd (p + 1) (by omega) (by omega)
    have b2 := h.bd p (by omega) (by omega)
    rw [if_pos (by simpa using c), w64 (n := p + 1) (by omega) (by omega), h.begins k p hk (by omega) (by omega), Option.bind_some, h.begins k (p + 1) hk (by omega) (by omega), Option.bind_some, if_pos c]
    simp only
    rw [w64 (by omega) (by omega)]
  · rw [if_neg (by simpa using c), if_neg c]
theorem Cal.of_l (h : Cal kind first B D) (day : Int) (c : Nat) : ∀ (k : Nat) (lo hi : Int), 0 ≤ lo → lo < hi → hi ≤ 240 → B lo ≤ day → day < B hi → hi - lo ≤ c → c + 4 < k →
    ∃ q, 0 ≤ q ∧ q < 240 ∧ B q ≤ day ∧ day < B (q + 1) ∧ fiscal_Of.l0 k day lo hi kind first = some (q, 0) := by
  induction c with
  | zero => intro k lo hi _ _ _ _ _ hc; omega
  | succ c ih =>
    intro k lo hi h0 hlt h1 ha hb hc hk
    obtain ⟨k, rfl⟩ : ∃ j, k = j + 1 := ⟨k - 1, by omega⟩
    simp only [fiscal_Of.l0]
    rw [w64 (n := hi - lo) (by omega) (by omega)]
    by_cases h2 : hi - lo > 1
    · rw [if_pos h2, w64 (n := lo + hi) (by omega) (by omega), td (a := lo + hi) (by omega), w64 (n := (lo + hi) / 2) (by omega) (by omega), h.begins k _ (by omega) (by omega) (by omega), Option.bind_some]
      by_cases h3 : B ((lo + hi) / 2) ≤ day
      · rw [if_pos h3]; exact ih k _ hi (by omega) (by omega) h1 h3 hb (by omega) (by omega)
      · rw [if_neg h3]; exact ih k lo _ h0 (by omega) (by omega) ha (by omega) (by omega) (by omega)
    · rw [if_neg h2]
      refine ⟨lo, h0, by omega, ha, ?_, rfl⟩
      rw [show lo + 1 = hi from by omega]; exact hb
/-- what Of tells -/
theorem Cal.of_f (h : Cal kind first B D) (k : Nat) (hk : 300 ≤ k) (day : Int) : ((day < first ∨ B 240 ≤ day) ∧ fiscal_Of.f k kind first day = some (0, 1)) ∨
    ∃ q, 0 ≤ q ∧ q < 240 ∧ B q ≤ day ∧ day < B (q + 1) ∧ fiscal_Of.f k kind first day = some (q, 0) := by
  obtain ⟨k, rfl⟩ : ∃ j, k = j + 1 := ⟨k - 1, by omega⟩
  unfold fiscal_Of.f
  rw [h.begins (k + 1) 240 (by omega) (by omega) (by omega), Option.bind_some]
  by_cases h1 : day < first
  · left; refine ⟨Or.inl h1, ?_⟩; rw [if_pos h1]; simp only [fiscal_Of.j0]; rfl
  rw [if_neg h1]
  by_cases h2 : day ≥ B 240
  · left; refine ⟨Or.inr h2, ?_⟩; rw [decide_eq_true h2]; simp only [fiscal_Of.j0]; rfl
  right
  rw [decide_eq_false h2]
  simp only [fiscal_Of.j0]
  rw [if_neg (by decide)]
  have hz := h.zero
  exact h.of_l day 240 k 0 240 (by omega) (by omega) (by omega) (by omega) (by omega) (by omega) (by omega)
theorem Cal.of_at (h : Cal kind first B D) (k : Nat) (hk : 300 ≤ k) (day p : Int) (h0 : 0 ≤ p) (h1 : p < 240) (ha : B p ≤ day) (hb : day < B (p + 1)) : fiscal_Of.f k kind first day = some (p, 0) := by
  rcases h.of_f k hk day with ⟨c, _⟩ | ⟨q, q0, q1, qa, qb, e⟩
  · have a := h.le 0 p (by omega) h0 (by omega)
    have b := h.le (p + 1) 240 (by omega) (by omega) (by omega)
    have := h.zero
    omega
  · rw [e, h.uniq day q p q0 q1 h0 h1 qa qb ha hb]
end

/-- whether a calendar may be -/
def okC (kind first : Int) : Prop := 1 ≤ first ∧ first ≤ 999668 ∧ ((kind = 0 ∧ (Civ.ofDate first).2.2 = 1 ∧ 12 * (Civ.ofDate first).1 + (Civ.ofDate first).2.1 - 1 + 239 < 32856) ∨ (kind = 1 ∧ bgW first 240 - 1 ≤ 999668))
instance (kind first : Int) : Decidable (okC kind first) := by unfold okC; infer_instance

def bg (kind first : Int) : Int → Int := if kind = 0 then bgM (12 * (Civ.ofDate first).1 + (Civ.ofDate first).2.1 - 1) else bgW first
def dys (kind first : Int) : Int → Int := if kind = 0 then dysM (12 * (Civ.ofDate first).1 + (Civ.ofDate first).2.1 - 1) else dysW

theorem dysM_len (A p : Int) : 28 ≤ dysM A p ∧ dysM A p ≤ 42 := by have := dysM_bd A p; omega

theorem cal_of (kind first : Int) (h : okC kind first) : (kind = 0 ∨ kind = 1) ∧ Cal kind first (bg kind first) (dys kind first) := by
  obtain ⟨h1, h2, h3⟩ := h
  rcases h3 with ⟨rfl, hd, hA⟩ | ⟨rfl, hf⟩
  · refine ⟨Or.inl rfl, ?_⟩
    obtain ⟨y, m, d, hv, hn, hy, e⟩ := Civ.date_of first h1 h2
    rw [e] at hd hA
    simp only at hd hA
    subst hd
    have eb : bg 0 first = bgM (12 * y + m - 1) := by unfold bg; rw [if_pos rfl, e]
    have ed : dys 0 first = dysM (12 * y + m - 1) := by unfold dys; rw [if_pos rfl, e]
    obtain ⟨v0, v1, v2, v3, v4⟩ := hv
    have hv : Civ.valid y m 1 := ⟨v0, v1, v2, v3, v4⟩
    rw [eb, ed]
    refine ⟨?_, fun p h0 _ => bgM_succ _ p (by omega), fun p => dysM_len _ p, h1, ?_, fun k p hk h0 hp => ?_⟩
    · unfold bgM; rw [show (12 * y + m - 1 + 0) / 12 = y from by omega, show (12 * y + m - 1 + 0) % 12 + 1 = m from by omega, hn]
    · have := (bgM_end (12 * y + m - 1) 239 (by omega)).1 (by omega)
      exact this
    · rw [begins_M k hk first y m p hv hy hn h0 hp, if_neg (by omega)]
  · refine ⟨Or.inr rfl, ?_⟩
    have eb : bg 1 first = bgW first := by unfold bg; rw [if_neg (by decide)]
    have ed : dys 1 first = dysW := by unfold dys; rw [if_neg (by decide)]
    rw [eb, ed]
    exact ⟨by unfold bgW; omega, fun p h0 hp => bgW_succ first p h0 hp, fun p => dysW_bd p, h1, hf, fun k p hk h0 hp => begins_W k (by omega) 1 first p (by decide) h1 h2 h0 hp⟩

theorem check_f (k : Nat) (hk : 6 ≤ k) (kind first : Int) : fiscal_Check.f k kind first = some (if okC kind first then 0 else 1) := by
  obtain ⟨k, rfl⟩ : ∃ j, k = j + 1 := ⟨k - 1, by omega⟩
  have bad : fiscal_Check.j0 (k + 1) true kind first = some 1 := by simp only [fiscal_Check.j0]; rfl
  unfold fiscal_Check.f
  rw [date_f, Option.bind_some]
  by_cases h : 1 ≤ first ∧ first ≤ 999668
  · obtain ⟨y, m, d, hv, hn, hy, e⟩ := Civ.date_of first h.1 h.2
    have ed : Civ.date first = (y, m, d, 0) := by rw [← hn, Civ.date_num y m d hv hy]
    obtain ⟨v0, v1, v2, v3, v4⟩ := hv
    rw [ed]
    simp only
    rw [if_pos trivial]
    by_cases hk0 : kind = 0
    · rw [if_pos hk0]
      by_cases hd : d = 1
      · subst hd; subst hk0
        have hv : Civ.valid y m 1 := ⟨v0, v1, v2, v3, v4⟩
        rw [show ((1 : Int) != 1) = false from rfl]
        simp only [fiscal_Check.j0]
        rw [if_neg (by decide), begins_M k (by omega) first y m 240 hv hy hn (by omega) (by omega), Option.bind_some]
        have hend := bgM_end (12 * y + m - 1) 239 (by omega)
        rw [show (239 : Int) + 1 = 240 from rfl] at hend
        by_cases hA : 32856 ≤ 12 * y + m - 1 + 240 - 1
        · rw [if_pos (show (0 : Int) < 240 ∧ 32856 ≤ 12 * y + m - 1 + 240 - 1 from ⟨by omega, hA⟩)]
          have hno : ¬ okC 0 first := by
            intro ⟨_, _, c⟩
            rcases c with ⟨_, _, c⟩ | ⟨c, _⟩
            · rw [e] at c; simp only at c; omega
            · exact absurd c (by decide)
          rw [if_neg hno]
          rfl
        · have hps := bgM_pos (12 * y + m - 1) 240 (by omega)
          have hsu := bgM_succ (12 * y + m - 1) 239 (by omega)
          rw [show (239 : Int) + 1 = 240 from rfl] at hsu
          have hps2 := bgM_pos (12 * y + m - 1) 239 (by omega)
          have hdd := dysM_bd (12 * y + m - 1) 239
          rw [if_neg (show ¬ ((0 : Int) < 240 ∧ 32856 ≤ 12 * y + m - 1 + 240 - 1) by omega)]
          simp only
          rw [if_pos trivial, w64 (n := bgM (12 * y + m - 1) 240 - 1) (by omega) (by omega), date_f, Option.bind_some]
          have hr : 1 ≤ bgM (12 * y + m - 1) 240 - 1 ∧ bgM (12 * y + m - 1) 240 - 1 ≤ 999668 := by omega
          unfold Civ.date
          rw [if_pos hr, if_pos]
          exact ⟨h.1, h.2, Or.inl ⟨rfl, by rw [e], by rw [e]; simp only; omega⟩⟩
      · rw [show (d != 1) = true from by simp [hd], bad, if_neg]
        intro ⟨_, _, c⟩
        rcases c with ⟨_, c, _⟩ | ⟨c, _⟩
        · rw [e] at c; exact hd c
        · rw [hk0] at c; exact absurd c (by decide)
    · rw [if_neg hk0]
      by_cases hk1 : kind = 1
      · rw [if_pos hk1]; subst hk1
        simp only [fiscal_Check.j0]
        rw [if_neg (by decide), begins_W k (by omega) 1 first 240 (by decide) h.1 h.2 (by omega) (by omega), Option.bind_some]
        simp only
        have hbw : bgW first 240 = first + 7 * 1043 := by unfold bgW; omega
        rw [if_pos trivial, w64 (n := bgW first 240 - 1) (by omega) (by omega), date_f, Option.bind_some]
        unfold Civ.date
        by_cases hf : bgW first 240 - 1 ≤ 999668
        · rw [if_pos (show 1 ≤ bgW first 240 - 1 ∧ bgW first 240 - 1 ≤ 999668 by omega), if_pos]
          exact ⟨h.1, h.2, Or.inr ⟨rfl, hf⟩⟩
        · rw [if_neg (show ¬ (1 ≤ bgW first 240 - 1 ∧ bgW first 240 - 1 ≤ 999668) by omega), if_neg]
          intro ⟨_, _, c⟩
          rcases c with ⟨c, _⟩ | ⟨_, c⟩
          · exact absurd c (by decide)
          · exact hf c
      · rw [if_neg hk1, bad, if_neg]
        intro ⟨_, _, c⟩
        rcases c with ⟨c, _⟩ | ⟨c, _⟩
        · exact hk0 c
        · exact hk1 c
  · rw [Civ.date_no first h]
    simp only
    rw [if_neg (by decide), bad, if_neg (fun c => h ⟨c.1, c.2.1⟩)]

theorem cal_1 : Cal 1 1 (bg 1 1) (dys 1 1) := (cal_of 1 1 (by decide +kernel)).2
theorem cal_32 : Cal 0 32 (bg 0 32) (dys 0 32) := (cal_of 0 32 (by decide +kernel)).2

theorem awake_f (k : Nat) (hk : 300 ≤ k) : quitrentlaw04_awake.f k = some true := by
  have b2 : bg 1 1 2 = 57 := by decide +kernel
  have b3 : bg 1 1 (2 + 1) = 92 := by decide +kernel
  have b0 : bg 0 32 0 = 32 := by decide +kernel
  have b1 : bg 0 32 (0 + 1) = 60 := by decide +kernel
  have o1 : fiscal_Of.f k 1 1 91 = some (2, 0) := cal_1.of_at k hk 91 2 (by omega) (by omega) (by rw [b2]; omega) (by rw [b3]; omega)
  have o2 : fiscal_Of.f k 1 1 0 = some (0, 1) := by
    rcases cal_1.of_f k hk 0 with ⟨_, e⟩ | ⟨q, q0, q1, qa, _⟩
    · exact e
    · have := (cal_1.bd q q0 (by omega)).1; omega
  have c1 : okC 1 1 := by decide +kernel
  have c2 : ¬ okC 0 2 := by decide +kernel
  unfold quitrentlaw04_awake.f
  rw [cal_1.first_f k (by omega), cal_1.last_f k (by omega), o1, o2, check_f k (by omega), check_f k (by omega), if_pos c1, if_neg c2, cal_32.days_f k (by omega), cal_32.days_f k (by omega), b2, b3, b1, b0]
  rfl

end Go.Proofs.Ytkfbmplhcigopab.PFis
