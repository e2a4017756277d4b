/- The contract of civil.Date, over the plain calendar. -/
import Derived.Test.YtkfbmplhcigopabPFisx1
import Derived.Test.YtkfbmplhcigopabPFisF40

namespace Go.Proofs.Ytkfbmplhcigopab.PFis
open Go.RowKit Go.Proofs.YtkfbmplhcigopabW.PrintWords Go.Proofs.YtkfbmplhcigopabW.PrintLast Go.Proofs.YtkfbmplhcigopabW.PrintMore
attribute [local go_sem] max2_int min2_int max_two min_two max_three min_three max_four min_four   -- for this text's walks alone
set_option linter.unusedVariables false
set_option linter.unusedSimpArgs false

def civil_Date.f (n : Int) : Option (Int × Int × Int × Int) := some (Civ.date n)

set_option maxHeartbeats 1000000 in
set_option maxRecDepth 100000 in
theorem date_no (n : Int) (w : World) (h : n < 1 ∨ 999668 < n) :
    Calls Try.prog 29 #[.int .i64 n] w fun e w' => e = .returned (.tuple #[.int .i64 0, .int .i64 0, .int .i64 0, .int .i64 1]) ∧ Below w.heap.size w w' := by
  rcases h with h | h
  · go_enter Try.func29, Try.ntmps29
    go_wp2
    exact bodyPost_ret (results_list (rs := [.tmp 2, .tmp 3, .tmp 4, .tmp 5]) rfl (by simp) (.tmp (.tmp (.tmp (.tmp .nil))))) rfl ⟨rfl, Below.refl _ _⟩
  · have h1 : 1 ≤ n := by omega
    have hd : decide (n ≤ 999668) = false := by simp; omega
    go_enter Try.func29, Try.ntmps29
    go_wp2
    exact bodyPost_ret (results_list (rs := [.tmp 2, .tmp 3, .tmp 4, .tmp 5]) rfl (by simp) (.tmp (.tmp (.tmp (.tmp .nil))))) rfl ⟨rfl, Below.refl _ _⟩

set_option maxHeartbeats 1000000 in
set_option maxRecDepth 100000 in
theorem date_yes (n y m d : Int) (w : World) (h1 : 1 ≤ n) (h2 : n ≤ 999668) (h : Civ.ofDate n = (y, m, d)) (hy : 1 ≤ y) :
    Calls Try.prog 29 #[.int .i64 n] w fun e w' => e = .returned (.tuple #[.int .i64 y, .int .i64 m, .int .i64 d, .int .i64 0]) ∧ Below w.heap.size w w' := by
  have HD := Aside0.mk h
  clear h
  have hy0 : (y == 0) = false := by simp; omega
  have hd : decide (n ≤ 999668) = true := by simp; omega
  have hu68 := Try.underlying68
  go_enter Try.func29, Try.ntmps29
  go_wp2_with (first | (go_at_call 40; (with_reducible refine (of_at n y m d _ h1 h2 HD.out).mono ?_); rintro e w1 ⟨rfl, hb⟩) | go_in)
  go_quiet (fail)
  go_wp2
  refine bodyPost_ret (results_list (rs := [.tmp 2, .tmp 3, .tmp 4, .tmp 5]) rfl (by simp) (.tmp (.tmp (.tmp (.tmp .nil))))) rfl ?_
  exact ⟨rfl, by repeat (first | exact hb | apply below_alloc | apply pw_below_drewN | apply below_drew1)⟩
theorem civil_Date.calls (a0 : Int) (r1 : Int) (r2 : Int) (r3 : Int) (r4 : Int) (w : World) (h : civil_Date.f a0 = some (r1, r2, r3, r4)) :
    Calls Try.prog 29 #[.int .i64 a0] w fun e w' => e = .returned (.tuple #[.int .i64 r1, .int .i64 r2, .int .i64 r3, .int .i64 r4]) ∧ Below w.heap.size w w' := by
  unfold civil_Date.f at h
  by_cases hr : 1 ≤ a0 ∧ a0 ≤ 999668
  · obtain ⟨y, m, d, hv, _, _, e⟩ := Civ.date_of a0 hr.1 hr.2
    unfold Civ.date at h
    rw [if_pos hr, e] at h
    simp only [Option.some.injEq, Prod.mk.injEq] at h
    obtain ⟨rfl, rfl, rfl, rfl⟩ := h
    exact date_yes a0 _ _ _ w hr.1 hr.2 e hv.1
  · rw [Civ.date_no a0 hr] at h
    simp only [Option.some.injEq, Prod.mk.injEq] at h
    obtain ⟨rfl, rfl, rfl, rfl⟩ := h
    exact date_no a0 w (by omega)
end Go.Proofs.Ytkfbmplhcigopab.PFis
