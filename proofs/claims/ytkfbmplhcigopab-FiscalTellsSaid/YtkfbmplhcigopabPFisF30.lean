/- The contract of civil.Move, over the plain calendar. -/
import Derived.Test.YtkfbmplhcigopabPFisF41
import Derived.Test.YtkfbmplhcigopabPFisF31
import Derived.Test.YtkfbmplhcigopabPFisF29
import Derived.Test.YtkfbmplhcigopabCivP
import Derived.Deep.RegionWith
namespace Go.Proofs.Ytkfbmplhcigopab.PFis
open Go.RowKit Go.Proofs.YtkfbmplhcigopabW.PrintWords Go.Proofs.YtkfbmplhcigopabW.PrintLast Go.Proofs.YtkfbmplhcigopabW.PrintMore
attribute [local go_sem] max2_int min2_int max_two min_two max_three min_three max_four min_four   -- for this text's walks alone
set_option linter.unusedVariables false
set_option linter.unusedSimpArgs false

def civil_Move.f (_k : Nat) (n b : Int) : Option (Int × Int) := some (Civ.move n b)

set_option maxHeartbeats 8000000 in
set_option maxRecDepth 100000 in
theorem move_out (n b : Int) (w : World) (h : n < 1 ∨ 999668 < n ∨ 32844 < b ∨ b < -32844) :
    Calls Try.prog 30 #[.int .i64 n, .int .i64 b] w fun e w' => e = .returned (.tuple #[.int .i64 0, .int .i64 1]) ∧ Below w.heap.size w w' := by
  by_cases h1 : n < 1
  · go_enter Try.func30, Try.ntmps30
    go_wp2_with go_in
    go_ret2
    exact ⟨rfl, Below.refl _ _⟩
  by_cases h2 : 999668 < n
  · have hd : decide (n ≤ 999668) = false := by simp; omega
    go_enter Try.func30, Try.ntmps30
    go_wp2_with go_in
    go_ret2
    exact ⟨rfl, Below.refl _ _⟩
  have hd : decide (n ≤ 999668) = true := by simp; omega
  by_cases h3 : 32844 < b
  · go_enter Try.func30, Try.ntmps30
    go_wp2_with go_in
    go_ret2
    exact ⟨rfl, Below.refl _ _⟩
  · have hd3 : decide (32844 < b) = false := by simp; omega
    have h4 : b < -32844 := by omega
    go_enter Try.func30, Try.ntmps30
    go_wp2_with go_in
    go_ret2
    exact ⟨rfl, Below.refl _ _⟩

set_option maxHeartbeats 8000000 in
set_option maxRecDepth 100000 in
theorem move_early (n b y m d : Int) (w : World) (h1 : 1 ≤ n) (h2 : n ≤ 999668) (h3 : b ≤ 32844) (h4 : -32844 ≤ b) (h : Civ.ofDate n = (y, m, d))
    (y0 : 1 ≤ y) (y1 : y ≤ 2737) (m0 : 1 ≤ m) (m1 : m ≤ 12) (ha : y * 12 + m - 1 + b < 12) :
    Calls Try.prog 30 #[.int .i64 n, .int .i64 b] w fun e w' => e = .returned (.tuple #[.int .i64 0, .int .i64 1]) ∧ Below w.heap.size w w' := by
  have HD := Aside0.mk h
  clear h
  have hd : decide (n ≤ 999668) = true := by simp; omega
  have hd3 : decide (32844 < b) = false := by simp; omega
  have hd4 : decide (b < -32844) = false := by simp; omega
  have hu68 := Try.underlying68
  go_enter Try.func30, Try.ntmps30
  go_wp2_with (first | (go_at_call 40; (with_reducible refine (of_at n y m d _ h1 h2 HD.out).mono ?_); rintro e w1 ⟨rfl, hb⟩) | go_in)
  go_ret2
  exact ⟨rfl, by repeat (first | exact hb | apply below_alloc | apply pw_below_drewN | apply below_drew1)⟩

set_option maxHeartbeats 8000000 in
set_option maxRecDepth 100000 in
theorem move_to (n b y m d A l M : Int) (r1 r2 : Int) (w : World) (h1 : 1 ≤ n) (h2 : n ≤ 999668) (h3 : b ≤ 32844) (h4 : -32844 ≤ b) (h : Civ.ofDate n = (y, m, d))
    (y0 : 1 ≤ y) (y1 : y ≤ 2737) (m0 : 1 ≤ m) (m1 : m ≤ 12) (ha : y * 12 + m - 1 + b = A) (ha12 : 12 ≤ A) (hl : civil_Long.f 2 (A / 12) (A % 12 + 1) = some l)
    (hM : (l < d ∧ l = M) ∨ (¬ l < d ∧ d = M)) (hr : civil_Days.f 2 (A / 12) (A % 12 + 1) M = some (r1, r2)) :
    Calls Try.prog 30 #[.int .i64 n, .int .i64 b] w fun e w' => e = .returned (.tuple #[.int .i64 r1, .int .i64 r2]) ∧ Below w.heap.size w w' := by
  have HD := Aside0.mk h
  have HL := Aside0.mk hl
  have HR := Aside0.mk hr
  have HA := Aside0.mk ha
  have hA2 : A ≤ 70000 := by omega
  clear h hl hr ha
  have hd : decide (n ≤ 999668) = true := by simp; omega
  have hd3 : decide (32844 < b) = false := by simp; omega
  have hd4 : decide (b < -32844) = false := by simp; omega
  have hu68 := Try.underlying68
  rcases hM with ⟨hlt, rfl⟩ | ⟨hlt, rfl⟩
  all_goals
    go_enter Try.func30, Try.ntmps30
    go_upto_region 5 with (first | (go_at_call 40; (with_reducible refine (of_at n y m d _ h1 h2 HD.out).mono ?_); rintro e w1 ⟨rfl, hb⟩) | go_in)
    rw [HA.out]
    have hA3 : decide (A < 12) = false := by simp; omega
    go_upto_region 8 with (fail)
    go_cut [] (fun wc => ∃ nd, wc = (((w1.alloc (.cells #[.int .i64 y, .int .i64 m, .int .i64 d] 68)).alloc (.cells #[.int .i64 (A / 12), .int .i64 (A % 12 + 1), .int .i64 d] 68)).drewN nd).setCell { block := w1.heap.size + 1, off := 2 } (.int .i64 (if l < d then l else d)))
    case first =>
      go_region_with (go_at_call 31; (with_reducible refine (civil_Long.calls 2 _ _ l _ HL.out).mono ?_); rintro e w2 ⟨rfl, ⟨nd, rfl⟩⟩)
      all_goals (go_wp2_with fail; go_meet; exact ⟨_, by first | rw [if_pos hlt] | rw [if_neg (by omega)]⟩)
    case rest =>
      obtain ⟨nd, rfl⟩ := hcut
      first | rw [if_pos hlt] | rw [if_neg (by omega)]
      go_wp2_with fail
      refine (civil_Days.calls 2 _ _ _ r1 r2 _ HR.out).mono ?_
      rintro e w2 ⟨rfl, hb2⟩
      go_wp2
      go_ret2
      exact ⟨rfl, below_step (by repeat (first | exact hb | refine below_set ?_ (by have := hb.size; simp; omega) | apply below_alloc | apply pw_below_drewN | apply below_drew1)) hb2⟩

theorem civil_Move.mono : ∀ a0 a1 k, LeO (civil_Move.f k a0 a1) (civil_Move.f (k + 1) a0 a1) := fun _ _ _ => LeO.refl _

theorem civil_Move.calls (k : Nat) (a0 : Int) (a1 : Int) (r1 : Int) (r2 : Int) (w : World) (h : civil_Move.f k a0 a1 = some (r1, r2)) :
    Calls Try.prog 30 #[.int .i64 a0, .int .i64 a1] w fun e w' => e = .returned (.tuple #[.int .i64 r1, .int .i64 r2]) ∧ Below w.heap.size w w' := by
  have h : Civ.move a0 a1 = (r1, r2) := by simpa [civil_Move.f] using h
  by_cases hf : a0 < 1 ∨ 999668 < a0 ∨ 32844 < a1 ∨ a1 < -32844
  · rw [Civ.move_far a0 a1 hf] at h
    simp only [Prod.mk.injEq] at h
    obtain ⟨rfl, rfl⟩ := h
    exact move_out a0 a1 w hf
  · obtain ⟨y, m, d, hv, _, hy, e⟩ := Civ.date_of a0 (by omega) (by omega)
    obtain ⟨v0, v1, v2, _, _⟩ := hv
    rw [Civ.move_of a0 a1 y m d (by omega) (by omega) e] at h
    by_cases ha : y * 12 + m - 1 + a1 < 12
    · rw [if_pos ha] at h
      simp only [Prod.mk.injEq] at h
      obtain ⟨rfl, rfl⟩ := h
      exact move_early a0 a1 y m d w (by omega) (by omega) (by omega) (by omega) e v0 hy v1 v2 ha
    · rw [if_neg ha] at h
      refine move_to a0 a1 y m d (y * 12 + m - 1 + a1) _ (if Civ.Lg ((y * 12 + m - 1 + a1) / 12) ((y * 12 + m - 1 + a1) % 12 + 1) < d then Civ.Lg ((y * 12 + m - 1 + a1) / 12) ((y * 12 + m - 1 + a1) % 12 + 1) else d) r1 r2 w (by omega) (by omega) (by omega) (by omega) e v0 hy v1 v2 rfl (by omega) (long_f 2 (by omega) _ _) ?_ ?_
      · by_cases hl : Civ.Lg ((y * 12 + m - 1 + a1) / 12) ((y * 12 + m - 1 + a1) % 12 + 1) < d
        · exact Or.inl ⟨hl, (if_pos hl).symm⟩
        · exact Or.inr ⟨hl, (if_neg hl).symm⟩
      · rw [days_f 2 (by omega), h]
end Go.Proofs.Ytkfbmplhcigopab.PFis
