/- The contract of civil.of, over the plain calendar. -/
import Derived.Test.YtkfbmplhcigopabPFisx1
import Derived.Test.YtkfbmplhcigopabCiv

namespace Go.Proofs.Ytkfbmplhcigopab.PFis
open Go.RowKit Go.Proofs.YtkfbmplhcigopabW.PrintWords Go.Proofs.YtkfbmplhcigopabW.PrintLast Go.Proofs.YtkfbmplhcigopabW.PrintMore
attribute [local go_sem] max2_int min2_int max_two min_two max_three min_three max_four min_four   -- for this text's walks alone
set_option linter.unusedVariables false
set_option linter.unusedSimpArgs false

def civil_of.f (n : Int) : Option (Int × Int × Int) := if 1 ≤ n ∧ n ≤ 999668 then some (Civ.ofDate n) else none

set_option maxHeartbeats 1000000 in
set_option maxRecDepth 100000 in
theorem of_calls (n : Int) (w : World) (h1 : 1 ≤ n) (h2 : n ≤ 999668) :
    Calls Try.prog 40 #[.int .i64 n] w fun e w' => e = .returned (.agg #[.int .i64 (Civ.ofDate n).1, .int .i64 (Civ.ofDate n).2.1, .int .i64 (Civ.ofDate n).2.2]) ∧ Below w.heap.size w w' := by
  have hu68 := Try.underlying68
  obtain ⟨d0, d1, m0, m1, y0, y1⟩ := Civ.of_bd n h1 h2
  have i0 : 0 ≤ Civ.ofIn n := by unfold Civ.ofIn; omega
  have i1 : Civ.ofIn n ≤ 146096 := by unfold Civ.ofIn; omega
  go_enter Try.func40, Try.ntmps40
  go_upto_region 3 with (fail)
  rw [show (n + 305) % 146097 = Civ.ofIn n from rfl]
  go_upto_region 4 with (fail)
  rw [show (Civ.ofIn n - Civ.ofIn n / 1460 + Civ.ofIn n / 36524 - Civ.ofIn n / 146096) / 365 = Civ.ofYr n from rfl]
  go_upto_region 5 with (fail)
  rw [show Civ.ofIn n - (365 * Civ.ofYr n + Civ.ofYr n / 4 - Civ.ofYr n / 100) = Civ.ofDy n from rfl]
  go_upto_region 6 with (fail)
  rw [show (5 * Civ.ofDy n + 2) / 153 = Civ.ofMo n from rfl]
  by_cases h : Civ.ofMo n + 3 > 12
  · have e : Civ.ofDate n = (Civ.ofYr n + (n + 305) / 146097 * 400 + 1, Civ.ofMo n + 3 - 12, Civ.ofDy n - (153 * Civ.ofMo n + 2) / 5 + 1) := if_pos h
    have E := Aside0.mk e
    clear e
    go_wp2
    exact bodyPost_ret (v := .agg #[.int .i64 (Civ.ofYr n + (n + 305) / 146097 * 400 + 1), .int .i64 (Civ.ofMo n + 3 - 12), .int .i64 (Civ.ofDy n - (153 * Civ.ofMo n + 2) / 5 + 1)]) (by simp [results, Try.results40, go_sem]) rfl ⟨by rw [E.out], ((Below.refl _ _).alloc (Nat.le_refl _) _).alloc (by simp) _⟩
  · have e : Civ.ofDate n = (Civ.ofYr n + (n + 305) / 146097 * 400, Civ.ofMo n + 3, Civ.ofDy n - (153 * Civ.ofMo n + 2) / 5 + 1) := if_neg h
    have E := Aside0.mk e
    clear e
    go_wp2
    exact bodyPost_ret (v := .agg #[.int .i64 (Civ.ofYr n + (n + 305) / 146097 * 400), .int .i64 (Civ.ofMo n + 3), .int .i64 (Civ.ofDy n - (153 * Civ.ofMo n + 2) / 5 + 1)]) (by simp [results, Try.results40, go_sem]) rfl ⟨by rw [E.out], ((Below.refl _ _).alloc (Nat.le_refl _) _).alloc (by simp) _⟩

theorem of_at (n y m d : Int) (w : World) (h1 : 1 ≤ n) (h2 : n ≤ 999668) (h : Civ.ofDate n = (y, m, d)) :
    Calls Try.prog 40 #[.int .i64 n] w fun e w' => e = .returned (.agg #[.int .i64 y, .int .i64 m, .int .i64 d]) ∧ Below w.heap.size w w' := by
  have := of_calls n w h1 h2
  rw [h] at this
  exact this

end Go.Proofs.Ytkfbmplhcigopab.PFis
