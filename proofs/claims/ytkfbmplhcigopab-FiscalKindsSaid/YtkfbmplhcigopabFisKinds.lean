/- The plain law FiscalKinds. -/
import Derived.Test.YtkfbmplhcigopabPFisF7
import Derived.Test.YtkfbmplhcigopabFisP
set_option linter.unusedSimpArgs false
set_option linter.unusedVariables false
namespace Go.Proofs.Ytkfbmplhcigopab.PFis
open Go.RowKit Go.Proofs.Ytkfbmplhcigopab Go.Proofs.YtkfbmplhcigopabW.PrintWords Go.Proofs.YtkfbmplhcigopabW.PrintLast Go.Proofs.YtkfbmplhcigopabW.PrintMore

theorem kinds_l (kind first p a : Int) (B D : Int → Int) (C : Cal kind first B D) (c0 : 0 ≤ p) (c1 : p < 240) (hB : ∀ q, B q = bgW first q) (ha : a = B p) (n : Nat) : ∀ (k : Nat) (i : Int), p - p % 12 ≤ i → i ≤ p - p % 12 + 12 → p - p % 12 + 12 - i = n → n + 10 < k →
    quitrentlaw04_FiscalKinds.l0 k p a (B i - B (p - p % 12)) i kind first = some true := by
  induction n with
  | zero =>
    intro k i h0 h1 hn hk
    obtain ⟨k, rfl⟩ : ∃ j, k = j + 1 := ⟨k - 1, by omega⟩
    have b1 := C.bd p c0 (by omega)
    have hf := C.pos
    have b0 := C.bd 0 (by omega) (by omega)
    have hz := C.zero
    simp only [quitrentlaw04_FiscalKinds.l0]
    rw [tm (a := p) c0, w64 (n := p - p % 12) (by omega) (by omega), w64 (n := p - p % 12 + 12) (by omega) (by omega), if_neg (by omega), weekday_f a (by omega), Option.bind_some, weekday_f first (by omega), Option.bind_some]
    have hi : i = p - p % 12 + 12 := by omega
    have hw : (a - 1) % 7 = (first - 1) % 7 := by rw [ha, hB p]; unfold bgW; omega
    rw [if_neg (show ¬ a < 1 by omega), if_neg (show ¬ first < 1 by omega), if_pos hw]
    have hd7 : B (p + 1) - B p = dysW p := by rw [hB, hB, bgW_succ first p c0 c1]; omega
    have h7 := dysW_7 p
    have hdb := dysW_bd p
    have hfin : ((fiscal_Days.f k kind first p).bind fun t256 => (some ((Int.tmod t256 7) == 0))) = some true := by
      rw [C.days_f k (by omega), Option.bind_some, if_pos ⟨c0, c1⟩, hd7, tm (by omega), h7]; rfl
    have hsum : B i - B (p - p % 12) = 364 ∨ B i - B (p - p % 12) = 371 := by
      rw [hB, hB, hi]
      obtain ⟨y, hy⟩ : ∃ y, p / 12 = y := ⟨_, rfl⟩
      have hp12 : p - p % 12 = 12 * y := by omega
      unfold bgW
      rw [hp12, show (12 * y + 12) / 12 = y + 1 from by omega, show (12 * y + 12) % 12 = 0 from by omega, show 12 * y / 12 = y from by omega, show 12 * y % 12 = 0 from by omega]
      have hl : 71 * (y + 1) / 400 = 71 * y / 400 ∨ 71 * (y + 1) / 400 = 71 * y / 400 + 1 := by omega
      omega
    rcases hsum with h | h
    · rw [h, if_pos rfl]; exact hfin
    · rw [h, if_neg (by decide), if_pos rfl]; exact hfin
  | succ n ih =>
    intro k i h0 h1 hn hk
    obtain ⟨k, rfl⟩ : ∃ j, k = j + 1 := ⟨k - 1, by omega⟩
    have b1 := C.bd i (by omega) (by omega)
    have b2 := C.bd (i + 1) (by omega) (by omega)
    have b3 := C.bd (p - p % 12) (by omega) (by omega)
    simp only [quitrentlaw04_FiscalKinds.l0]
    rw [tm (a := p) c0, w64 (n := p - p % 12) (by omega) (by omega), w64 (n := p - p % 12 + 12) (by omega) (by omega), if_pos (by omega), C.days_f k (by omega), Option.bind_some, if_pos ⟨by omega, by omega⟩, w64 (n := i + 1) (by omega) (by omega),
      w64 (n := B i - B (p - p % 12) + (B (i + 1) - B i)) (by omega) (by omega), show B i - B (p - p % 12) + (B (i + 1) - B i) = B (i + 1) - B (p - p % 12) from by omega]
    exact ih k (i + 1) (by omega) (by omega) (by omega) (by omega)

theorem kinds (kind first p : Int) (hp : (Lit.int .i64 p).wf = true) : quitrentlaw04_FiscalKinds.f 3000 kind first p = some true := by
  have hp := wf_bd hp
  unfold quitrentlaw04_FiscalKinds.f
  rw [awake_f 3000 (by omega), Option.bind_some, if_pos rfl, check_f 3000 (by omega), Option.bind_some]
  by_cases hok : okC kind first
  · rw [if_pos hok, if_pos rfl]
    obtain ⟨hkd, C⟩ := cal_of kind first hok
    rw [C.first_f 3000 (by omega), Option.bind_some]
    by_cases c : 0 ≤ p ∧ p < 240
    · rw [if_pos c]
      simp only
      rw [if_pos trivial]
      by_cases hk0 : kind = 0
      · subst hk0
        rw [if_pos rfl]
        obtain ⟨h1, h2, h3⟩ := hok
        rcases h3 with ⟨_, hd, hA⟩ | ⟨h3, _⟩
        · obtain ⟨y, m, d, hv, hn, hy, e⟩ := Civ.date_of first h1 h2
          rw [e] at hd hA
          simp only at hd hA
          subst hd
          have eb : bg 0 first = bgM (12 * y + m - 1) := by unfold bg; rw [if_pos rfl, e]
          obtain ⟨v0, v1, v2, v3, v4⟩ := hv
          have hv : Civ.valid y m 1 := ⟨v0, v1, v2, v3, v4⟩
          have hvp := bgM_valid (12 * y + m - 1) p (by omega)
          have hdp : Civ.date (bgM (12 * y + m - 1) p) = ((12 * y + m - 1 + p) / 12, (12 * y + m - 1 + p) % 12 + 1, 1, 0) := by unfold bgM; exact Civ.date_num _ _ 1 hvp (by omega)
          have hmv : Civ.move first p = (bgM (12 * y + m - 1) p, 0) := by
            rw [← hn, Civ.move_small y m 1 p hv hy (by omega), if_neg (by omega)]; rfl
          have hs := bgM_succ (12 * y + m - 1) p (by omega)
          rw [eb] at C ⊢
          rw [date_f, hdp, Option.bind_some, move_f, hmv, Option.bind_some]
          simp only
          rw [if_pos trivial, if_pos trivial, C.days_f 3000 (by omega), Option.bind_some, if_pos c, long_f 3000 (by omega), Option.bind_some, Civ.Lg_eq _ _ hvp.1 hvp.2.1 hvp.2.2.1, if_pos (by rw [hs]; unfold dysM; omega), if_pos trivial]
          rfl
        · exact absurd h3 (by decide)
      · rw [if_neg hk0]
        have eb : bg kind first = bgW first := by unfold bg; rw [if_neg hk0]
        have b1 := C.bd p c.1 (by omega)
        rw [tm (a := p) c.1, w64 (n := p - p % 12) (by omega) (by omega)]
        have := kinds_l kind first p _ _ _ C c.1 c.2 (fun q => by rw [eb]) rfl 12 3000 (p - p % 12) (by omega) (by omega) (by omega) (by omega)
        rw [show bg kind first (p - p % 12) - bg kind first (p - p % 12) = 0 from by omega] at this
        exact this
    · rw [if_neg c]
      simp only
      rw [if_neg (by decide)]
  · rw [if_neg hok, if_neg (by decide)]

end Go.Proofs.Ytkfbmplhcigopab.PFis
