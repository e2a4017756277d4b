/- The plain law FiscalNext. -/
import Derived.Test.YtkfbmplhcigopabPFisF6
import Derived.Test.YtkfbmplhcigopabFisP
set_option linter.unusedSimpArgs false
set_option linter.unusedVariables false
namespace Go.Proofs.Ytkfbmplhcigopab.PFis
open Go.RowKit Go.Proofs.Ytkfbmplhcigopab Go.Proofs.YtkfbmplhcigopabW.PrintWords Go.Proofs.YtkfbmplhcigopabW.PrintLast Go.Proofs.YtkfbmplhcigopabW.PrintMore

theorem next (kind first p day : Int) (hp : (Lit.int .i64 p).wf = true) (hday : (Lit.int .i64 day).wf = true) : quitrentlaw04_FiscalNext.f 3000 kind first p day = some true := by
  have hp := wf_bd hp
  unfold quitrentlaw04_FiscalNext.f
  rw [awake_f 3000 (by omega), Option.bind_some, if_pos rfl, check_f 3000 (by omega), Option.bind_some]
  by_cases hok : okC kind first
  · rw [if_pos hok, if_pos rfl]
    obtain ⟨_, C⟩ := cal_of kind first hok
    generalize bg kind first = B at C
    generalize dys kind first = D at C
    rw [C.first_f 3000 (by omega), Option.bind_some, C.last_f 3000 (by omega), Option.bind_some]
    by_cases c : 0 ≤ p ∧ p < 240
    · rw [if_pos c, if_pos c]
      simp only
      have hs := C.succ p c.1 c.2
      have hl := C.len p
      have b1 := C.bd p c.1 (by omega)
      have b2 := C.bd (p + 1) (by omega) (by omega)
      rw [if_pos trivial, C.of_at 3000 (by omega) (B p) p c.1 c.2 (by omega) (by omega), Option.bind_some, C.of_at 3000 (by omega) (B (p + 1) - 1) p c.1 c.2 (by omega) (by omega), Option.bind_some, if_pos trivial, C.days_f 3000 (by omega), Option.bind_some, if_pos c]
      rw [w64 (n := B (p + 1) - 1 - B p) (by omega) (by omega), w64 (n := B (p + 1) - 1 - B p + 1) (by omega) (by omega), if_pos (show B (p + 1) - 1 - B p + 1 = B (p + 1) - B p by omega), if_neg (show ¬ B (p + 1) - 1 < B p by omega), if_pos rfl, if_pos rfl, if_pos rfl]
      -- the last part
      have fin : ((fiscal_Of.f 2999 kind first day).bind fun bt236 => (if bt236.1 = p then (if B p ≤ day then (some ((bt236.2 == 0) == (decide (day ≤ B (p + 1) - 1)))) else (some ((bt236.2 == 0) == false))) else (if B p ≤ day then (some (false == (decide (day ≤ B (p + 1) - 1)))) else (some (false == false))))) = some true := by
        rcases C.of_f 2999 (by omega) day with ⟨hout, e⟩ | ⟨q, q0, q1, qa, qb, e⟩
        · have a := C.le 0 p (by omega) c.1 (by omega)
          have b := C.le (p + 1) 240 (by omega) (by omega) (by omega)
          have hz := C.zero
          rw [e, Option.bind_some]
          simp only
          by_cases h0 : (0 : Int) = p
          · rw [if_pos h0]
            by_cases h3 : B p ≤ day
            · rw [if_pos h3, show decide (day ≤ B (p + 1) - 1) = false from by simp; omega]; rfl
            · rw [if_neg h3]; rfl
          · rw [if_neg h0]
            by_cases h3 : B p ≤ day
            · rw [if_pos h3, show decide (day ≤ B (p + 1) - 1) = false from by simp; omega]; rfl
            · rw [if_neg h3]; rfl
        · rw [e, Option.bind_some]
          simp only
          by_cases hq : q = p
          · subst hq
            rw [if_pos rfl, if_pos qa, show decide (day ≤ B (q + 1) - 1) = true from by simp; omega]; rfl
          · rw [if_neg hq]
            by_cases h3 : B p ≤ day
            · have : ¬ day ≤ B (p + 1) - 1 := fun h4 => hq (C.uniq day q p q0 q1 c.1 c.2 qa qb h3 (by omega))
              rw [if_pos h3, decide_eq_false this]; rfl
            · rw [if_neg h3]; rfl
      simp only [quitrentlaw04_FiscalNext.j0]
      rw [show ((0 : Int) != 0) = false from rfl, if_neg (by decide), w64 (n := p + 1) (by omega) (by omega), w64 (n := B (p + 1) - 1 + 1) (by omega) (by omega), C.first_f 2999 (by omega), Option.bind_some]
      by_cases c2 : 0 ≤ p + 1 ∧ p + 1 < 240
      · rw [if_pos c2]
        simp only
        rw [if_pos trivial, if_pos (show B (p + 1) = B (p + 1) - 1 + 1 by omega)]
        exact fin
      · rw [if_neg c2]
        simp only
        rw [if_neg (by decide)]
        exact fin
    · rw [if_neg c, if_neg c]
      simp only
      rw [if_neg (by decide), if_pos trivial, C.days_f 3000 (by omega), if_neg c]; rfl
  · rw [if_neg hok, if_neg (by decide)]

end Go.Proofs.Ytkfbmplhcigopab.PFis
