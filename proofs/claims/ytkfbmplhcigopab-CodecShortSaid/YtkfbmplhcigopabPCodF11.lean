-- out of the print of PCod: codec_Take
import Derived.Test.YtkfbmplhcigopabPCodx0
namespace Go.Proofs.Ytkfbmplhcigopab.PCod
open Go.RowKit Go.Proofs.YtkfbmplhcigopabW.PrintWords Go.Proofs.YtkfbmplhcigopabW.PrintLast Go.Proofs.YtkfbmplhcigopabW.PrintMore
attribute [local go_sem] max2_int min2_int max_two min_two max_three min_three max_four min_four   -- for this text's walks alone
set_option linter.unusedVariables false
set_option linter.unusedSimpArgs false

/-! ### codec_Take: function 11 -/
mutual
def codec_Take.l0 : Nat → ByteArray → Int → Int → Option (Int × Int × Int)
  | 0, _, _, _ => none
  | k + 1, x0, x5, x6 => if x6 < (x0.size : Int) then (if 0 ≤ x6 then (if (wrap64 (7 * x6)) ≥ 64 then (codec_Take.j1 k x0 x5 x6 (IntKind.u64.wrap (Go.bits .andNot .u8 (bt x0 x6) 128)) (wrap64 (7 * x6)) true) else (if 0 ≤ (wrap64 (7 * x6)) then (if (shr .u64 (shl .u64 (IntKind.u64.wrap (Go.bits .andNot .u8 (bt x0 x6) 128)) (wrap64 (7 * x6))) (wrap64 (7 * x6))) = (IntKind.u64.wrap (Go.bits .andNot .u8 (bt x0 x6) 128)) then (if x6 > 0 then (codec_Take.j1 k x0 x5 x6 (IntKind.u64.wrap (Go.bits .andNot .u8 (bt x0 x6) 128)) (wrap64 (7 * x6)) ((bt x0 x6) == 0)) else (codec_Take.j1 k x0 x5 x6 (IntKind.u64.wrap (Go.bits .andNot .u8 (bt x0 x6) 128)) (wrap64 (7 * x6)) false)) else (codec_Take.j1 k x0 x5 x6 (IntKind.u64.wrap (Go.bits .andNot .u8 (bt x0 x6) 128)) (wrap64 (7 * x6)) true)) else (none))) else (none)) else (some (0, 0, 2))
def codec_Take.j1 : Nat → ByteArray → Int → Int → Int → Int → Bool → Option (Int × Int × Int)
  | 0, _, _, _, _, _, _ => none
  | k + 1, x0, x5, x6, x7, x8, x42 => if x42 = true then (some (0, 0, 2)) else (if 0 ≤ x8 then (if 0 ≤ x6 then (if x6 < (x0.size : Int) then (if (bt x0 x6) < 128 then (some (Go.bits .xor .i64 (wrap64 ((Go.bits .or .u64 x5 (shl .u64 x7 x8)) / 2)) (wrap64 (-(wrap64 (Go.bits .and .u64 (Go.bits .or .u64 x5 (shl .u64 x7 x8)) 1)))), wrap64 (x6 + 1), 0)) else (codec_Take.l0 k x0 (Go.bits .or .u64 x5 (shl .u64 x7 x8)) (wrap64 (x6 + 1)))) else (none)) else (none)) else (none))
end
def codec_Take.f (k : Nat) (a0 : ByteArray) : Option (Int × Int × Int) := codec_Take.l0 k a0 0 0
theorem codec_Take.mono_l : ∀ k, (∀ y0 y1 y2, LeO (codec_Take.l0 k y0 y1 y2) (codec_Take.l0 (k + 1) y0 y1 y2)) ∧ (∀ y0 y1 y2 y3 y4 y5, LeO (codec_Take.j1 k y0 y1 y2 y3 y4 y5) (codec_Take.j1 (k + 1) y0 y1 y2 y3 y4 y5))
  | 0 => ⟨fun _ _ _ r h => by simp [codec_Take.l0] at h, fun _ _ _ _ _ _ r h => by simp [codec_Take.j1] at h⟩
  | k + 1 => by
    obtain ⟨ih0, ih1⟩ := codec_Take.mono_l k
    refine ⟨?_, ?_⟩
    · intro y0 y1 y2
      unfold codec_Take.l0
      repeat' first
      | (with_reducible exact ih0 _ _ _)
      | (with_reducible exact ih1 _ _ _ _ _ _)
      | (with_reducible exact LeO.refl _)
      | (with_reducible exact LeO.none _)
      | (with_reducible refine LeO.ite ?_ ?_)
      | (with_reducible refine LeO.bind ?_ (fun _ => ?_))
      | exact ih0 _ _ _
      | exact ih1 _ _ _ _ _ _
      | exact LeO.none _
      | refine LeO.ite ?_ ?_
      | refine LeO.bind ?_ (fun _ => ?_)
    · intro y0 y1 y2 y3 y4 y5
      unfold codec_Take.j1
      repeat' first
      | (with_reducible exact ih0 _ _ _)
      | (with_reducible exact ih1 _ _ _ _ _ _)
      | (with_reducible exact LeO.refl _)
      | (with_reducible exact LeO.none _)
      | (with_reducible refine LeO.ite ?_ ?_)
      | (with_reducible refine LeO.bind ?_ (fun _ => ?_))
      | exact ih0 _ _ _
      | exact ih1 _ _ _ _ _ _
      | exact LeO.none _
      | refine LeO.ite ?_ ?_
      | refine LeO.bind ?_ (fun _ => ?_)
theorem codec_Take.mono : ∀ a0 k, LeO (codec_Take.f k a0) (codec_Take.f (k + 1) a0) := by
  intro a0 k
  obtain ⟨ih0, ih1⟩ := codec_Take.mono_l k
  unfold codec_Take.f
  repeat' first
      | (with_reducible exact ih0 _ _ _)
      | (with_reducible exact ih1 _ _ _ _ _ _)
      | (with_reducible exact LeO.refl _)
      | (with_reducible exact LeO.none _)
      | (with_reducible refine LeO.ite ?_ ?_)
      | (with_reducible refine LeO.bind ?_ (fun _ => ?_))
      | exact ih0 _ _ _
      | exact ih1 _ _ _ _ _ _
      | exact LeO.none _
      | refine LeO.ite ?_ ?_
      | refine LeO.bind ?_ (fun _ => ?_)
set_option maxHeartbeats 8000000 in
set_option maxRecDepth 100000 in
theorem codec_Take.calls (k : Nat) (a0 : ByteArray) (r1 : Int) (r2 : Int) (r3 : Int) (w : World) (h : codec_Take.f k a0 = some (r1, r2, r3)) :
    Calls Try.prog 11 #[.string a0] w fun e w' => e = .returned (.tuple #[.int .i64 r1, .int .i64 r2, .int .i64 r3]) ∧ Drawn0 w w' := by
  have H : (codec_Take.l0 k a0 0 0) = some (r1, r2, r3) := h
  clear h
  have H' := Aside0.mk H
  clear H
  go_enter Try.func11, Try.ntmps11
  go_wp2
  go_loopg [5, 6] k (fun kq v5 v6 w' => ∃ (x5_1 : Int) (x6_1 : Int), v5 = .int .u64 x5_1 ∧ v6 = .int .i64 x6_1 ∧ Aside0 (codec_Take.l0 kq a0 x5_1 x6_1 = some (r1, r2, r3)) ∧ Aside0 (kq ≤ k) ∧ Drawn0 w w')
  case atStart => exact ⟨(0), (0), (by first | rfl | (simp; done) | (simp [*]; done)), (by first | rfl | (simp; done) | (simp [*]; done)), H', ⟨Nat.le_refl _⟩, by repeat (first | exact Drawn0.refl _ | apply Drawn0.step)⟩
  case round =>
    clear H'
    try clear c1
    obtain ⟨x5_1, x6_1, rfl, rfl, HA, HK1, ⟨m1, rfl⟩⟩ := hrel
    cases gk with
    | zero => exact absurd HA.out (by simp [codec_Take.l0])
    | succ k1 =>
      have H := HA.out
      clear HA
      simp only [codec_Take.l0] at H
      by_cases c2 : x6_1 < (a0.size : Int)
      · rw [if_pos c2] at H
        have c2b0 : decide (x6_1 < (a0.size : Int)) = true := decide_eq_true c2
        clear c2
        by_cases c3 : 0 ≤ x6_1
        · rw [if_pos c3] at H
          have c3b0 : decide (0 ≤ x6_1) = true := decide_eq_true c3
          clear c3
          have HC5 := Aside0.mk H
          clear H
          have p4 : 0 ≤ (x6_1 : Int) := of_decide_eq_true (by first | (with_reducible assumption) | assumption)
          have q4 : x6_1 < (a0.size : Int) := of_decide_eq_true (by first | (with_reducible assumption) | assumption)
          have hx4 := bt_at a0 x6_1
          replace p4 := eq_true p4
          replace q4 := eq_true q4
          go_upto_region 7 with (fail)
          go_cut [42] (fun v42 wc => ∃ (kq : Nat) (x42_4 : Bool), v42 = .bool x42_4 ∧ Aside0 (codec_Take.j1 kq a0 x5_1 x6_1 (IntKind.u64.wrap (Go.bits .andNot .u8 (bt a0 x6_1) 128)) (wrap64 (7 * x6_1)) x42_4 = some (r1, r2, r3)) ∧ Aside0 (kq ≤ k1) ∧ Drawn0 w wc)
          case first =>
            have H := HC5.out
            clear HC5
            by_cases c6 : (wrap64 (7 * x6_1)) ≥ 64
            · rw [if_pos c6] at H
              have c6b0 : decide (64 ≤ (wrap64 (7 * x6_1))) = true := decide_eq_true c6
              clear c6
              (first | rw [c6b0] | (simp only [i64_w, i32_w]; rw [c6b0]) | skip)
              have H' := Aside0.mk H
              clear H
              go_wp2
              go_meet
              case rel => exact ⟨_, (true), (by first | rfl | (simp; done) | (simp [*]; done)), (by first | exact H' | (rw [hji7]; exact H')), ⟨by have := HK1.out; first | omega | exact Nat.le_refl _⟩, by repeat (first | exact Drawn0.refl _ | apply Drawn0.step)⟩
            · rw [if_neg c6] at H
              have c6b0 : decide (64 ≤ (wrap64 (7 * x6_1))) = false := decide_eq_false c6
              clear c6
              (first | rw [c6b0] | (simp only [i64_w, i32_w]; rw [c6b0]) | skip)
              obtain ⟨ji7, hji7⟩ : ∃ j_ : Int, (wrap64 (7 * x6_1)) = j_ := ⟨_, rfl⟩
              replace H : (if 0 ≤ (ji7) then (if (shr .u64 (shl .u64 (IntKind.u64.wrap (Go.bits .andNot .u8 (bt a0 x6_1) 128)) (ji7)) (ji7)) = (IntKind.u64.wrap (Go.bits .andNot .u8 (bt a0 x6_1) 128)) then (if x6_1 > 0 then (codec_Take.j1 k1 a0 x5_1 x6_1 (IntKind.u64.wrap (Go.bits .andNot .u8 (bt a0 x6_1) 128)) ji7 ((bt a0 x6_1) == 0)) else (codec_Take.j1 k1 a0 x5_1 x6_1 (IntKind.u64.wrap (Go.bits .andNot .u8 (bt a0 x6_1) 128)) ji7 false)) else (codec_Take.j1 k1 a0 x5_1 x6_1 (IntKind.u64.wrap (Go.bits .andNot .u8 (bt a0 x6_1) 128)) ji7 true)) else (none)) = some (r1, r2, r3) := by first | (rw [hji7] at H; exact H) | (simp only [hji7] at H ⊢; exact H)
              (try rw [hji7] at c6b0)
              have hji7w : (IntKind.i64.wrap (7 * x6_1)) = ji7 := (i64_w _).trans hji7
              by_cases c8 : 0 ≤ (ji7)
              · rw [if_pos c8] at H
                have c8b0 := eq_true c8
                have c8b1 : decide (0 ≤ (ji7)) = true := decide_eq_true c8
                clear c8
                obtain ⟨ji9, hji9⟩ : ∃ j_ : Int, (shl .u64 (IntKind.u64.wrap (Go.bits .andNot .u8 (bt a0 x6_1) 128)) (ji7)) = j_ := ⟨_, rfl⟩
                replace H : (if (shr .u64 (ji9) (ji7)) = (IntKind.u64.wrap (Go.bits .andNot .u8 (bt a0 x6_1) 128)) then (if x6_1 > 0 then (codec_Take.j1 k1 a0 x5_1 x6_1 (IntKind.u64.wrap (Go.bits .andNot .u8 (bt a0 x6_1) 128)) ji7 ((bt a0 x6_1) == 0)) else (codec_Take.j1 k1 a0 x5_1 x6_1 (IntKind.u64.wrap (Go.bits .andNot .u8 (bt a0 x6_1) 128)) ji7 false)) else (codec_Take.j1 k1 a0 x5_1 x6_1 (IntKind.u64.wrap (Go.bits .andNot .u8 (bt a0 x6_1) 128)) ji7 true)) = some (r1, r2, r3) := by first | (rw [hji9] at H; exact H) | (simp only [hji9] at H ⊢; exact H)
                have hji9_ : (IntKind.u64.wrap ((IntKind.u64.wrap (Go.bits .andNot .u8 (bt a0 x6_1) 128)) * 2 ^ min (ji7).toNat 64)) = ji9 := hji9
                have hji9z : (ji7) ≤ 64 → (IntKind.u64.wrap ((IntKind.u64.wrap (Go.bits .andNot .u8 (bt a0 x6_1) 128)) * 2 ^ (ji7).toNat)) = ji9 := shl_small hji9
                have c10b0 := eq_true (of_decide_eq_true (by first | (with_reducible assumption) | assumption) : 0 ≤ (ji7))
                obtain ⟨ji11, hji11⟩ : ∃ j_ : Int, (shr .u64 (ji9) (ji7)) = j_ := ⟨_, rfl⟩
                replace H : (if (ji11) = (IntKind.u64.wrap (Go.bits .andNot .u8 (bt a0 x6_1) 128)) then (if x6_1 > 0 then (codec_Take.j1 k1 a0 x5_1 x6_1 (IntKind.u64.wrap (Go.bits .andNot .u8 (bt a0 x6_1) 128)) ji7 ((bt a0 x6_1) == 0)) else (codec_Take.j1 k1 a0 x5_1 x6_1 (IntKind.u64.wrap (Go.bits .andNot .u8 (bt a0 x6_1) 128)) ji7 false)) else (codec_Take.j1 k1 a0 x5_1 x6_1 (IntKind.u64.wrap (Go.bits .andNot .u8 (bt a0 x6_1) 128)) ji7 true)) = some (r1, r2, r3) := by first | (rw [hji11] at H; exact H) | (simp only [hji11] at H ⊢; exact H)
                have hji11_ : ((ji9) / 2 ^ min (ji7).toNat 64) = ji11 := hji11
                have hji11z : (ji7) ≤ 64 → ((ji9) / 2 ^ (ji7).toNat) = ji11 := shr_small hji11
                by_cases c12 : (ji11) = (IntKind.u64.wrap (Go.bits .andNot .u8 (bt a0 x6_1) 128))
                · rw [if_pos c12] at H
                  have c12b0 : ((ji11) == (IntKind.u64.wrap (Go.bits .andNot .u8 (bt a0 x6_1) 128))) = true := beq_iff_eq.mpr c12
                  have c12b1 : ((ji11) != (IntKind.u64.wrap (Go.bits .andNot .u8 (bt a0 x6_1) 128))) = false := bne_eq_false_iff_eq.mpr c12
                  clear c12
                  by_cases c13 : x6_1 > 0
                  · rw [if_pos c13] at H
                    have c13b0 : decide (0 < x6_1) = true := decide_eq_true c13
                    clear c13
                    have H' := Aside0.mk H
                    clear H
                    have p14 : 0 ≤ (x6_1 : Int) := of_decide_eq_true (by first | (with_reducible assumption) | assumption)
                    have q14 : x6_1 < (a0.size : Int) := of_decide_eq_true (by first | (with_reducible assumption) | assumption)
                    have hx14 := bt_at a0 x6_1
                    replace p14 := eq_true p14
                    replace q14 := eq_true q14
                    go_wp2
                    go_meet
                    case rel => exact ⟨_, (((bt a0 x6_1) == 0)), (by first | rfl | (simp; done) | (simp [*]; done)), (by first | exact H' | (rw [hji7]; exact H')), ⟨by have := HK1.out; first | omega | exact Nat.le_refl _⟩, by repeat (first | exact Drawn0.refl _ | apply Drawn0.step)⟩
                  · rw [if_neg c13] at H
                    have c13b0 : decide (0 < x6_1) = false := decide_eq_false c13
                    clear c13
                    have H' := Aside0.mk H
                    clear H
                    go_wp2
                    go_meet
                    case rel => exact ⟨_, (false), (by first | rfl | (simp; done) | (simp [*]; done)), (by first | exact H' | (rw [hji7]; exact H')), ⟨by have := HK1.out; first | omega | exact Nat.le_refl _⟩, by repeat (first | exact Drawn0.refl _ | apply Drawn0.step)⟩
                · rw [if_neg c12] at H
                  have c12b0 : ((ji11) == (IntKind.u64.wrap (Go.bits .andNot .u8 (bt a0 x6_1) 128))) = false := beq_eq_false_iff_ne.mpr c12
                  have c12b1 : ((ji11) != (IntKind.u64.wrap (Go.bits .andNot .u8 (bt a0 x6_1) 128))) = true := bne_iff_ne.mpr c12
                  have H' := Aside0.mk H
                  clear H
                  go_wp2
                  go_meet
                  case rel => exact ⟨_, (true), (by first | rfl | (simp; done) | (simp [*]; done)), (by first | exact H' | (rw [hji7]; exact H')), ⟨by have := HK1.out; first | omega | exact Nat.le_refl _⟩, by repeat (first | exact Drawn0.refl _ | apply Drawn0.step)⟩
              · rw [if_neg c8] at H
                exact absurd H (by simp)
          case rest =>
            clear HC5
            try clear c1
            try clear p1
            try clear q1
            try clear hx1
            try clear c2
            try clear c2b0
            try clear p2
            try clear c3
            try clear c3b0
            try clear p4
            try clear q4
            try clear hx4
            try clear c6
            try clear c6b0
            try clear p6
            try clear c8
            try clear c8b0
            try clear c8b1
            try clear c10
            try clear c10b0
            try clear c11
            try clear c12
            try clear c12b0
            try clear c12b1
            try clear c13
            try clear c13b0
            try clear p14
            try clear q14
            try clear hx14
            try clear p14
            try clear p4
            try clear q14
            try clear q4
            obtain ⟨kq, x42_4, rfl, HA, HJ4, ⟨mc4, rfl⟩⟩ := hcut
            cases kq with
            | zero => exact absurd HA.out (by simp [codec_Take.j1])
            | succ kj4 =>
              have H := HA.out
              clear HA
              simp only [codec_Take.j1] at H
              by_cases c15 : x42_4 = true
              · subst c15
                have H1 : (some (0, 0, 2)) = some (r1, r2, r3) := by rw [if_pos rfl] at H; exact H
                clear H
                have H := H1
                clear H1
                simp only [Option.some.injEq, Prod.mk.injEq] at H
                obtain ⟨rfl, rfl, rfl⟩ := H
                go_wp2
                go_ret3
                exact ⟨by first | rfl | (simp; done) | (simp [*]; done), by repeat (first | exact Drawn0.refl _ | apply Drawn0.step)⟩
              · replace c15 := Bool.eq_false_iff.mpr c15
                subst c15
                have H1 : (if 0 ≤ (wrap64 (7 * x6_1)) then (if 0 ≤ x6_1 then (if x6_1 < (a0.size : Int) then (if (bt a0 x6_1) < 128 then (some (Go.bits .xor .i64 (wrap64 ((Go.bits .or .u64 x5_1 (shl .u64 (IntKind.u64.wrap (Go.bits .andNot .u8 (bt a0 x6_1) 128)) (wrap64 (7 * x6_1)))) / 2)) (wrap64 (-(wrap64 (Go.bits .and .u64 (Go.bits .or .u64 x5_1 (shl .u64 (IntKind.u64.wrap (Go.bits .andNot .u8 (bt a0 x6_1) 128)) (wrap64 (7 * x6_1)))) 1)))), wrap64 (x6_1 + 1), 0)) else (codec_Take.l0 kj4 a0 (Go.bits .or .u64 x5_1 (shl .u64 (IntKind.u64.wrap (Go.bits .andNot .u8 (bt a0 x6_1) 128)) (wrap64 (7 * x6_1)))) (wrap64 (x6_1 + 1)))) else (none)) else (none)) else (none)) = some (r1, r2, r3) := by rw [if_neg (show ¬ (false = true) by decide)] at H; exact H
                clear H
                have H := H1
                clear H1
                obtain ⟨ji16, hji16⟩ : ∃ j_ : Int, (wrap64 (7 * x6_1)) = j_ := ⟨_, rfl⟩
                replace H : (if 0 ≤ (ji16) then (if 0 ≤ x6_1 then (if x6_1 < (a0.size : Int) then (if (bt a0 x6_1) < 128 then (some (Go.bits .xor .i64 (wrap64 ((Go.bits .or .u64 x5_1 (shl .u64 (IntKind.u64.wrap (Go.bits .andNot .u8 (bt a0 x6_1) 128)) (ji16))) / 2)) (wrap64 (-(wrap64 (Go.bits .and .u64 (Go.bits .or .u64 x5_1 (shl .u64 (IntKind.u64.wrap (Go.bits .andNot .u8 (bt a0 x6_1) 128)) (ji16))) 1)))), wrap64 (x6_1 + 1), 0)) else (codec_Take.l0 kj4 a0 (Go.bits .or .u64 x5_1 (shl .u64 (IntKind.u64.wrap (Go.bits .andNot .u8 (bt a0 x6_1) 128)) (ji16))) (wrap64 (x6_1 + 1)))) else (none)) else (none)) else (none)) = some (r1, r2, r3) := by first | (rw [hji16] at H; exact H) | (simp only [hji16] at H ⊢; exact H)
                have hji16w : (IntKind.i64.wrap (7 * x6_1)) = ji16 := (i64_w _).trans hji16
                by_cases c17 : 0 ≤ (ji16)
                · rw [if_pos c17] at H
                  have c17b0 := eq_true c17
                  have c17b1 : decide (0 ≤ (ji16)) = true := decide_eq_true c17
                  clear c17
                  obtain ⟨ji18, hji18⟩ : ∃ j_ : Int, (shl .u64 (IntKind.u64.wrap (Go.bits .andNot .u8 (bt a0 x6_1) 128)) (ji16)) = j_ := ⟨_, rfl⟩
                  replace H : (if 0 ≤ x6_1 then (if x6_1 < (a0.size : Int) then (if (bt a0 x6_1) < 128 then (some (Go.bits .xor .i64 (wrap64 ((Go.bits .or .u64 x5_1 (ji18)) / 2)) (wrap64 (-(wrap64 (Go.bits .and .u64 (Go.bits .or .u64 x5_1 (ji18)) 1)))), wrap64 (x6_1 + 1), 0)) else (codec_Take.l0 kj4 a0 (Go.bits .or .u64 x5_1 (ji18)) (wrap64 (x6_1 + 1)))) else (none)) else (none)) = some (r1, r2, r3) := by first | (rw [hji18] at H; exact H) | (simp only [hji18] at H ⊢; exact H)
                  have hji18_ : (IntKind.u64.wrap ((IntKind.u64.wrap (Go.bits .andNot .u8 (bt a0 x6_1) 128)) * 2 ^ min (ji16).toNat 64)) = ji18 := hji18
                  have hji18z : (ji16) ≤ 64 → (IntKind.u64.wrap ((IntKind.u64.wrap (Go.bits .andNot .u8 (bt a0 x6_1) 128)) * 2 ^ (ji16).toNat)) = ji18 := shl_small hji18
                  by_cases c19 : 0 ≤ x6_1
                  · rw [if_pos c19] at H
                    have c19b0 : decide (0 ≤ x6_1) = true := decide_eq_true c19
                    clear c19
                    by_cases c20 : x6_1 < (a0.size : Int)
                    · rw [if_pos c20] at H
                      have c20b0 : decide (x6_1 < (a0.size : Int)) = true := decide_eq_true c20
                      clear c20
                      by_cases c22 : (bt a0 x6_1) < 128
                      · rw [if_pos c22] at H
                        have c22b0 : decide ((bt a0 x6_1) < 128) = true := decide_eq_true c22
                        clear c22
                        simp only [Option.some.injEq, Prod.mk.injEq] at H
                        obtain ⟨rfl, rfl, rfl⟩ := H
                        have p21 : 0 ≤ (x6_1 : Int) := of_decide_eq_true (by first | (with_reducible assumption) | assumption)
                        have q21 : x6_1 < (a0.size : Int) := of_decide_eq_true (by first | (with_reducible assumption) | assumption)
                        have hx21 := bt_at a0 x6_1
                        replace p21 := eq_true p21
                        replace q21 := eq_true q21
                        go_wp2
                        go_ret3
                        exact ⟨by first | rfl | (simp; done) | (simp only [← hji16, ← hji18] <;> (first | rfl | simp)) | (simp [*]; done), by repeat (first | exact Drawn0.refl _ | apply Drawn0.step)⟩
                      · rw [if_neg c22] at H
                        have c22b0 : decide ((bt a0 x6_1) < 128) = false := decide_eq_false c22
                        clear c22
                        have H' := Aside0.mk H
                        clear H
                        have p21 : 0 ≤ (x6_1 : Int) := of_decide_eq_true (by first | (with_reducible assumption) | assumption)
                        have q21 : x6_1 < (a0.size : Int) := of_decide_eq_true (by first | (with_reducible assumption) | assumption)
                        have hx21 := bt_at a0 x6_1
                        replace p21 := eq_true p21
                        replace q21 := eq_true q21
                        go_wp2
                        go_roundg kj4
                        case measure => have := HK1.out; have := HJ4.out; omega
                        case rel => exact ⟨(Go.bits .or .u64 x5_1 (ji18)), (wrap64 (x6_1 + 1)), (by first | rfl | (simp; done) | (simp only [← hji18] <;> (first | rfl | simp)) | (simp [*]; done)), (by first | rfl | (simp; done) | (simp [*]; done)), H', ⟨by have := HK1.out; have := HJ4.out; omega⟩, by repeat (first | exact Drawn0.refl _ | apply Drawn0.step)⟩
                    · rw [if_neg c20] at H
                      exact absurd H (by simp)
                  · rw [if_neg c19] at H
                    exact absurd H (by simp)
                · rw [if_neg c17] at H
                  exact absurd H (by simp)
        · rw [if_neg c3] at H
          exact absurd H (by simp)
      · rw [if_neg c2] at H
        have c2b0 : decide (x6_1 < (a0.size : Int)) = false := decide_eq_false c2
        clear c2
        simp only [Option.some.injEq, Prod.mk.injEq] at H
        obtain ⟨rfl, rfl, rfl⟩ := H
        go_wp2
        go_ret3
        exact ⟨by first | rfl | (simp; done) | (simp [*]; done), by repeat (first | exact Drawn0.refl _ | apply Drawn0.step)⟩
end Go.Proofs.Ytkfbmplhcigopab.PCod
