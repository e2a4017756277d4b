/- out of the print of a variant of the program with whole numbers: quitrentlaw21_PlotStairs -/
import Derived.Test.YtkfbmplhcigopaaPPloF27
namespace Go.Proofs.Ytkfbmplhcigopaa.PPlo
open Go.RowKit Go.Proofs.YtkfbmplhcigopaaW.PrintWords Go.Proofs.YtkfbmplhcigopaaW.PrintLast Go.Proofs.YtkfbmplhcigopaaW.PrintMore
attribute [local go_sem] max2_int min2_int max_two min_two max_three min_three max_four min_four   -- for this text's walks alone
set_option linter.unusedVariables false
set_option linter.unusedSimpArgs false

theorem eqA38 (d : Nat) (w : World) (x0 y0 : Int) (x1 y1 : Int) :
    (Op.equalIn (d + 2) 38 (.agg #[.int .i64 x0, .int .i64 x1]) (.agg #[.int .i64 y0, .int .i64 y1])).run Try.prog w = .ok (x0 == y0 && (x1 == y1)) w := by
  refine eqA_of Try.underlying38 (by kernel_rfl) ?_
  refine eqf_cons (by rfl) (by go_simp; rfl) (by go_simp; rfl) (by go_simp) ?_
  exact eqf_last (by rfl) (by go_simp; rfl) (by go_simp; rfl) (by go_simp)
attribute [local go_sem high] eqA38
/-! ### quitrentlaw21_PlotStairs: function 11 -/
mutual
def quitrentlaw21_PlotStairs.l0 : Nat → List Int → Int → Int → List Int → Int → Int → Option (Bool)
  | 0, _, _, _, _, _, _ => none
  | k + 1, x0, x3, x4, x18, x19, x20 => if x20 < x19 then (if 0 ≤ x20 then (if x20 < (x18.length : Int) then (if (rd x18 x20) < (-5000) then (some true) else (if (rd x18 x20) > 5000 then (some true) else (quitrentlaw21_PlotStairs.l0 k x0 (wrap64 (x3 + (rd x18 x20))) (wrap64 (x4 + (wrap64 (x3 + (rd x18 x20))))) x18 x19 (wrap64 (x20 + 1))))) else (none)) else (none)) else ((plot_Stairs.f k x0).bind fun bt462 => (if bt462.2 = 0 then (if (bt462.1.length : Int) = (wrap64 ((wrap64 (2 * (x0.length : Int))) + 1)) then (if 0 < (bt462.1.length : Int) then (quitrentlaw21_PlotStairs.j1 k x0 x3 x4 bt462.1 (!(((rd_T38 bt462.1 0).f0) == 0) || (!(((rd_T38 bt462.1 0).f1) == 0)))) else (none)) else (quitrentlaw21_PlotStairs.j1 k x0 x3 x4 bt462.1 true)) else (quitrentlaw21_PlotStairs.j1 k x0 x3 x4 bt462.1 true)))
def quitrentlaw21_PlotStairs.j1 : Nat → List Int → Int → Int → List (S38) → Bool → Option (Bool)
  | 0, _, _, _, _, _ => none
  | k + 1, x0, x3, x4, x7, x59 => if x59 = true then (some false) else (if 0 ≤ (wrap64 ((x7.length : Int) - 1)) then (if (wrap64 ((x7.length : Int) - 1)) < (x7.length : Int) then (if (!(((rd_T38 x7 (wrap64 ((x7.length : Int) - 1))).f0) == (x0.length : Int)) || (!(((rd_T38 x7 (wrap64 ((x7.length : Int) - 1))).f1) == x3))) = true then (some false) else ((some (([] : List (S38)) : List (S38))).bind fun y469 => (if y469.length + x7.length < 8796093022208 then ((some (y469 ++ x7 : List (S38))).bind fun y472 => (if y472.length < 8796093022208 then ((plot_Area.f k (y472 ++ [(⟨(x0.length : Int), 0⟩ : S38)])).bind fun bt478 => (if bt478.2 = 0 then (some (bt478.1 == (wrap64 ((-2) * x4)))) else (none))) else (none))) else (none)))) else (none)) else (none))
end
def quitrentlaw21_PlotStairs.f (k : Nat) (l0 : List Int) : Option (Bool) := (quitrentlaw21_awake.f k).bind fun t460 => (if t460 = true then (if (l0.length : Int) > 200 then (some true) else (quitrentlaw21_PlotStairs.l0 k l0 0 0 l0 (l0.length : Int) 0)) else (none))
theorem quitrentlaw21_PlotStairs.mono_l : ∀ k, (∀ y0 y1 y2 y3 y4 y5, LeO (quitrentlaw21_PlotStairs.l0 k y0 y1 y2 y3 y4 y5) (quitrentlaw21_PlotStairs.l0 (k + 1) y0 y1 y2 y3 y4 y5)) ∧ (∀ y0 y1 y2 y3 y4, LeO (quitrentlaw21_PlotStairs.j1 k y0 y1 y2 y3 y4) (quitrentlaw21_PlotStairs.j1 (k + 1) y0 y1 y2 y3 y4))
  | 0 => ⟨fun _ _ _ _ _ _ r h => by simp [quitrentlaw21_PlotStairs.l0] at h, fun _ _ _ _ _ r h => by simp [quitrentlaw21_PlotStairs.j1] at h⟩
  | k + 1 => by
    obtain ⟨ih0, ih1⟩ := quitrentlaw21_PlotStairs.mono_l k
    refine ⟨?_, ?_⟩
    · intro y0 y1 y2 y3 y4 y5
      unfold quitrentlaw21_PlotStairs.l0
      repeat' first
      | (with_reducible exact ih0 _ _ _ _ _ _)
      | (with_reducible exact ih1 _ _ _ _ _)
      | (with_reducible exact plot_Area.mono _ _)
      | (with_reducible exact plot_Stairs.mono _ _)
      | (with_reducible exact quitrentlaw21_awake.mono _)
      | (with_reducible exact LeO.refl _)
      | (with_reducible exact LeO.none _)
      | (with_reducible refine LeO.ite ?_ ?_)
      | (with_reducible refine LeO.bind ?_ (fun _ => ?_))
      | exact ih0 _ _ _ _ _ _
      | exact ih1 _ _ _ _ _
      | exact plot_Area.mono _ _
      | exact plot_Stairs.mono _ _
      | exact quitrentlaw21_awake.mono _
      | exact LeO.none _
      | refine LeO.ite ?_ ?_
      | refine LeO.bind ?_ (fun _ => ?_)
    · intro y0 y1 y2 y3 y4
      unfold quitrentlaw21_PlotStairs.j1
      repeat' first
      | (with_reducible exact ih0 _ _ _ _ _ _)
      | (with_reducible exact ih1 _ _ _ _ _)
      | (with_reducible exact plot_Area.mono _ _)
      | (with_reducible exact plot_Stairs.mono _ _)
      | (with_reducible exact quitrentlaw21_awake.mono _)
      | (with_reducible exact LeO.refl _)
      | (with_reducible exact LeO.none _)
      | (with_reducible refine LeO.ite ?_ ?_)
      | (with_reducible refine LeO.bind ?_ (fun _ => ?_))
      | exact ih0 _ _ _ _ _ _
      | exact ih1 _ _ _ _ _
      | exact plot_Area.mono _ _
      | exact plot_Stairs.mono _ _
      | exact quitrentlaw21_awake.mono _
      | exact LeO.none _
      | refine LeO.ite ?_ ?_
      | refine LeO.bind ?_ (fun _ => ?_)
theorem quitrentlaw21_PlotStairs.mono : ∀ a0 k, LeO (quitrentlaw21_PlotStairs.f k a0) (quitrentlaw21_PlotStairs.f (k + 1) a0) := by
  intro a0 k
  obtain ⟨ih0, ih1⟩ := quitrentlaw21_PlotStairs.mono_l k
  unfold quitrentlaw21_PlotStairs.f
  repeat' first
      | (with_reducible exact ih0 _ _ _ _ _ _)
      | (with_reducible exact ih1 _ _ _ _ _)
      | (with_reducible exact plot_Area.mono _ _)
      | (with_reducible exact plot_Stairs.mono _ _)
      | (with_reducible exact quitrentlaw21_awake.mono _)
      | (with_reducible exact LeO.refl _)
      | (with_reducible exact LeO.none _)
      | (with_reducible refine LeO.ite ?_ ?_)
      | (with_reducible refine LeO.bind ?_ (fun _ => ?_))
      | exact ih0 _ _ _ _ _ _
      | exact ih1 _ _ _ _ _
      | exact plot_Area.mono _ _
      | exact plot_Stairs.mono _ _
      | exact quitrentlaw21_awake.mono _
      | exact LeO.none _
      | refine LeO.ite ?_ ?_
      | refine LeO.bind ?_ (fun _ => ?_)
set_option maxHeartbeats 8000000 in
set_option maxRecDepth 100000 in
theorem quitrentlaw21_PlotStairs.calls (k : Nat) (A0 : Option Addr) (c0 : Nat) (l0 : List Int) (r : Bool) (w : World) (hr0 : Kd.C (Kd.int .i64) w A0 l0.length l0) (hc0 : l0.length ≤ c0) (h : quitrentlaw21_PlotStairs.f k l0 = some r) :
    Calls Try.prog 11 #[.slice A0 l0.length c0] w fun e w' => e = .returned (.bool r) ∧ Below w.heap.size w w' := by
  have hu38 := Try.underlying38
  have HR0 := Aside0.mk hr0
  have HC0 := Aside0.mk hc0
  clear hr0 hc0
  have HB := Aside0.mk (Below.refl w.heap.size w)
  have H : ((quitrentlaw21_awake.f k).bind fun t460 => (if t460 = true then (if (l0.length : Int) > 200 then (some true) else (quitrentlaw21_PlotStairs.l0 k l0 0 0 l0 (l0.length : Int) 0)) else (none))) = some r := h
  clear h
  replace H := Option.bind_eq_some_iff.mp H
  obtain ⟨t460, A20, H⟩ := H
  replace H : (if t460 = true then (if (l0.length : Int) > 200 then (some true) else (quitrentlaw21_PlotStairs.l0 k l0 0 0 l0 (l0.length : Int) 0)) else (none)) = some r := H
  have A2 := Aside0.mk A20
  clear A20
  by_cases c3 : t460 = true
  · subst c3
    have H1 : (if (l0.length : Int) > 200 then (some true) else (quitrentlaw21_PlotStairs.l0 k l0 0 0 l0 (l0.length : Int) 0)) = some r := by rw [if_pos rfl] at H; exact H
    clear H
    have H := H1
    clear H1
    by_cases c4 : (l0.length : Int) > 200
    · rw [if_pos c4] at H
      have c4b0 : decide (200 < (l0.length : Int)) = true := decide_eq_true c4
      have c4b1 : decide (200 < l0.length) = true := decide_eq_true (by omega)
      clear c4
      obtain rfl := Option.some.inj H
      go_enter Try.func11, Try.ntmps11
      go_wp2_with (first | ((with_reducible refine gate_callee (f := 27) rfl ?_); refine goesL_ (some 13) rfl rfl Try.func27 (by kernel_rfl) rfl #[] rfl (by (try simp only [List.map_toArray, List.map_cons, List.map_nil]); first | done | rfl | (simp only [List.length_drop, List.length_take]; rfl)) ?_; (with_reducible refine (quitrentlaw21_awake.calls k  true _ A2.out).mono ?_); rintro e w5 ⟨rfl, hb⟩; refine ⟨_, rfl, ?_⟩; have n0_ := Aside0.mk (below_step (by repeat (first | (with_reducible first | exact HB.out | apply below_alloc | apply pw_below_drewN | apply below_drew1) | exact HB.out)) hb); clear HB; have HB := n0_; clear n0_; (try clear hb); (try clear hb2); (try clear hk); (try clear hi)))
      go_ret
      exact ⟨by first | rfl | (simp [errW_none, errW_some] <;> rfl) | (simp [*, errW_none, errW_some] <;> rfl), by repeat (first | (with_reducible first | exact HB.out | apply below_alloc | apply pw_below_drewN | apply below_drew1) | exact HB.out)⟩
    · rw [if_neg c4] at H
      have c4b0 : decide (200 < (l0.length : Int)) = false := decide_eq_false c4
      have c4b1 : decide (200 < l0.length) = false := decide_eq_false (by omega)
      clear c4
      have H' := Aside0.mk H
      clear H
      go_enter Try.func11, Try.ntmps11
      go_wp2_with (first | ((with_reducible refine gate_callee (f := 27) rfl ?_); refine goesL_ (some 13) rfl rfl Try.func27 (by kernel_rfl) rfl #[] rfl (by (try simp only [List.map_toArray, List.map_cons, List.map_nil]); first | done | rfl | (simp only [List.length_drop, List.length_take]; rfl)) ?_; (with_reducible refine (quitrentlaw21_awake.calls k  true _ A2.out).mono ?_); rintro e w6 ⟨rfl, hb⟩; refine ⟨_, rfl, ?_⟩; have n0_ := Aside0.mk (below_step (by repeat (first | (with_reducible first | exact HB.out | apply below_alloc | apply pw_below_drewN | apply below_drew1) | exact HB.out)) hb); clear HB; have HB := n0_; clear n0_; (try clear hb); (try clear hb2); (try clear hk); (try clear hi)))
      go_loopg [3, 4, 20] k (fun kq v3 v4 v20 w' => ∃ (x3_1 : Int) (x4_1 : Int) (x20_1 : Int), v3 = .int .i64 x3_1 ∧ v4 = .int .i64 x4_1 ∧ v20 = .int .i64 x20_1 ∧ Aside0 (quitrentlaw21_PlotStairs.l0 kq l0 x3_1 x4_1 l0 (l0.length : Int) x20_1 = some r) ∧ Aside0 (kq ≤ k) ∧ Aside0 (Below w.heap.size w w'))
      case atStart => exact ⟨(0), (0), (0), (by first | rfl | (simp; done) | (simp [*]; done)), (by first | rfl | (simp; done) | (simp [*]; done)), (by first | rfl | (simp; done) | (simp [*]; done)), H', ⟨Nat.le_refl _⟩, ⟨by repeat (first | (with_reducible first | exact HB.out | apply below_alloc | apply pw_below_drewN | apply below_drew1) | exact HB.out)⟩⟩
      case round =>
        clear H'
        try clear c1
        try clear c2
        try clear p2
        try clear c3
        try clear c4
        try clear c4b0
        try clear c4b1
        obtain ⟨x3_1, x4_1, x20_1, rfl, rfl, rfl, HA, HK1, HB⟩ := hrel
        cases gk with
        | zero => exact absurd HA.out (by simp [quitrentlaw21_PlotStairs.l0])
        | succ k1 =>
          have H := HA.out
          clear HA
          simp only [quitrentlaw21_PlotStairs.l0] at H
          by_cases c7 : x20_1 < (l0.length : Int)
          · rw [if_pos c7] at H
            have c7b0 : decide (x20_1 < (l0.length : Int)) = true := decide_eq_true c7
            clear c7
            by_cases c8 : 0 ≤ x20_1
            · rw [if_pos c8] at H
              have c8b0 : decide (0 ≤ x20_1) = true := decide_eq_true c8
              clear c8
              by_cases c9 : x20_1 < (l0.length : Int)
              · rw [if_pos c9] at H
                have c9b0 : decide (x20_1 < (l0.length : Int)) = true := decide_eq_true c9
                clear c9
                by_cases c10 : (rd l0 x20_1) < (-5000)
                · rw [if_pos c10] at H
                  have c10b0 : decide ((rd l0 x20_1) < (-5000)) = true := decide_eq_true c10
                  clear c10
                  obtain rfl := Option.some.inj H
                  have p461 : 0 ≤ (x20_1 : Int) := of_decide_eq_true (by first | (with_reducible assumption) | assumption)
                  have q461 : x20_1 < (l0.length : Int) := of_decide_eq_true (by first | (with_reducible assumption) | assumption)
                  obtain ⟨ad461, e461, hx461_0⟩ := Kd.at_int HR0.out x20_1 p461 q461
                  cases e461
                  replace hx461_0 := (HB.out.cell (World.block_lt_of_cell? w _ hx461_0)).trans hx461_0
                  replace p461 := eq_true p461
                  replace q461 := eq_true q461
                  go_wp2
                  go_ret
                  exact ⟨by first | rfl | (simp [errW_none, errW_some] <;> rfl) | (simp [*, errW_none, errW_some] <;> rfl), by repeat (first | (with_reducible first | exact HB.out | apply below_alloc | apply pw_below_drewN | apply below_drew1) | exact HB.out)⟩
                · rw [if_neg c10] at H
                  have c10b0 : decide ((rd l0 x20_1) < (-5000)) = false := decide_eq_false c10
                  clear c10
                  by_cases c11 : (rd l0 x20_1) > 5000
                  · rw [if_pos c11] at H
                    have c11b0 : decide (5000 < (rd l0 x20_1)) = true := decide_eq_true c11
                    clear c11
                    obtain rfl := Option.some.inj H
                    have p461 : 0 ≤ (x20_1 : Int) := of_decide_eq_true (by first | (with_reducible assumption) | assumption)
                    have q461 : x20_1 < (l0.length : Int) := of_decide_eq_true (by first | (with_reducible assumption) | assumption)
                    obtain ⟨ad461, e461, hx461_0⟩ := Kd.at_int HR0.out x20_1 p461 q461
                    cases e461
                    replace hx461_0 := (HB.out.cell (World.block_lt_of_cell? w _ hx461_0)).trans hx461_0
                    replace p461 := eq_true p461
                    replace q461 := eq_true q461
                    go_wp2
                    go_ret
                    exact ⟨by first | rfl | (simp [errW_none, errW_some] <;> rfl) | (simp [*, errW_none, errW_some] <;> rfl), by repeat (first | (with_reducible first | exact HB.out | apply below_alloc | apply pw_below_drewN | apply below_drew1) | exact HB.out)⟩
                  · rw [if_neg c11] at H
                    have c11b0 : decide (5000 < (rd l0 x20_1)) = false := decide_eq_false c11
                    clear c11
                    have H' := Aside0.mk H
                    clear H
                    have p461 : 0 ≤ (x20_1 : Int) := of_decide_eq_true (by first | (with_reducible assumption) | assumption)
                    have q461 : x20_1 < (l0.length : Int) := of_decide_eq_true (by first | (with_reducible assumption) | assumption)
                    obtain ⟨ad461, e461, hx461_0⟩ := Kd.at_int HR0.out x20_1 p461 q461
                    cases e461
                    replace hx461_0 := (HB.out.cell (World.block_lt_of_cell? w _ hx461_0)).trans hx461_0
                    replace p461 := eq_true p461
                    replace q461 := eq_true q461
                    go_wp2
                    go_roundg k1
                    case measure => have := HK1.out; omega
                    case rel => exact ⟨(wrap64 (x3_1 + (rd l0 x20_1))), (wrap64 (x4_1 + (wrap64 (x3_1 + (rd l0 x20_1))))), (wrap64 (x20_1 + 1)), (by first | rfl | (simp; done) | (simp [*]; done)), (by first | rfl | (simp; done) | (simp [*]; done)), (by first | rfl | (simp; done) | (simp [*]; done)), H', ⟨by have := HK1.out; omega⟩, ⟨by repeat (first | (with_reducible first | exact HB.out | apply below_alloc | apply pw_below_drewN | apply below_drew1) | exact HB.out)⟩⟩
              · rw [if_neg c9] at H
                exact absurd H (by simp)
            · rw [if_neg c8] at H
              exact absurd H (by simp)
          · rw [if_neg c7] at H
            have c7b0 : decide (x20_1 < (l0.length : Int)) = false := decide_eq_false c7
            clear c7
            replace H := Option.bind_eq_some_iff.mp H
            obtain ⟨⟨t462, t463⟩, A120, H⟩ := H
            replace H : (if t463 = 0 then (if (t462.length : Int) = (wrap64 ((wrap64 (2 * (l0.length : Int))) + 1)) then (if 0 < (t462.length : Int) then (quitrentlaw21_PlotStairs.j1 k1 l0 x3_1 x4_1 t462 (!(((rd_T38 t462 0).f0) == 0) || (!(((rd_T38 t462 0).f1) == 0)))) else (none)) else (quitrentlaw21_PlotStairs.j1 k1 l0 x3_1 x4_1 t462 true)) else (quitrentlaw21_PlotStairs.j1 k1 l0 x3_1 x4_1 t462 true)) = some r := H
            have A12 := Aside0.mk A120
            clear A120
            have HC13 := Aside0.mk H
            clear H
            go_upto_region 15 with (first | ((with_reducible refine gate_callee (f := 29) rfl ?_); refine goesL_ (some 39) rfl rfl Try.func29 (by kernel_rfl) rfl #[.slice A0 l0.length c0] rfl (by (try simp only [List.map_toArray, List.map_cons, List.map_nil]); first | done | rfl | (simp only [List.length_drop, List.length_take]; rfl)) ?_; (with_reducible refine (plot_Stairs.calls k1 _ _ l0 t462 t463 _ ?side1 ?side2 A12.out).mono ?_); (case side1 => repeat (first | exact (Kd.C_below HR0.out HB.out) | (with_reducible refine Kd.C_alloc ?_ _) | (with_reducible refine Kd.C_drewN ?_ _) | (with_reducible refine Kd.C_drew ?_))); (case side2 => exact HC0.out); rintro e w14 ⟨v464, rfl, ho0, hb⟩; refine ⟨_, rfl, ?_⟩; have n0_ := Aside0.mk (Kd.R_lower ho0 (below_size (by repeat (first | (with_reducible first | exact HB.out | apply below_alloc | apply pw_below_drewN | apply below_drew1) | exact HB.out)))); have n1_ := Aside0.mk (below_step (by repeat (first | (with_reducible first | exact HB.out | apply below_alloc | apply pw_below_drewN | apply below_drew1) | exact HB.out)) hb); clear HB; have HO465 := n0_; have HB := n1_; clear n0_ n1_; (try clear hb); (try clear hb2); (try clear hk); (try clear hi); (try clear ho0)))
            (try simp only [Act.put, List.setIfInBounds_toArray, List.set_cons_zero, List.set_cons_succ])
            go_cut [59] (fun v59 wc => ∃ (kq : Nat) (x59_12 : Bool), v59 = .bool x59_12 ∧ Aside0 (quitrentlaw21_PlotStairs.j1 kq l0 x3_1 x4_1 t462 x59_12 = some r) ∧ Aside0 (kq ≤ k1) ∧ Aside0 (Kd.R k38 38 wc w.heap.size (fun _ => True) v464 t462) ∧ Aside0 (Below w.heap.size w wc))
            case first =>
              have H := HC13.out
              clear HC13
              by_cases c15 : t463 = 0
              · rw [if_pos c15] at H
                have c15b0 : (t463 == 0) = true := beq_iff_eq.mpr c15
                have c15b1 : (t463 != 0) = false := bne_eq_false_iff_eq.mpr c15
                clear c15
                (first | rw [c15b0] | (simp only [i64_w, i32_w]; rw [c15b0]) | skip)
                by_cases c16 : (t462.length : Int) = (wrap64 ((wrap64 (2 * (l0.length : Int))) + 1))
                · rw [if_pos c16] at H
                  have c16b0 : ((t462.length : Int) == (wrap64 ((wrap64 (2 * (l0.length : Int))) + 1))) = true := beq_iff_eq.mpr c16
                  have c16b1 : ((t462.length : Int) != (wrap64 ((wrap64 (2 * (l0.length : Int))) + 1))) = false := bne_eq_false_iff_eq.mpr c16
                  clear c16
                  by_cases c17 : 0 < (t462.length : Int)
                  · rw [if_pos c17] at H
                    have c17b0 : decide (0 < (t462.length : Int)) = true := decide_eq_true c17
                    have c17b1 : decide (0 < t462.length) = true := decide_eq_true (by omega)
                    clear c17
                    have H' := Aside0.mk H
                    clear H
                    obtain ⟨Ao18, co18, eo18⟩ := Kd.R_slice HO465.out
                    subst eo18
                    have p466 : 0 ≤ (0 : Int) := (by omega)
                    have q466 : 0 < (t462.length : Int) := of_decide_eq_true (by first | (with_reducible assumption) | assumption)
                    obtain ⟨ad466, e466, hx466_0, hx466_1⟩ := at_T38 (Kd.R_reads' HO465.out).2.2 0 p466 q466
                    cases e466
                    have qi466 : (0 < t462.length) = True := eq_true (by omega)
                    (try rw [show ((0 : Int)).toNat = 0 from rfl] at hx466_0)
                    (try rw [show 0 * 2 = 0 from rfl] at hx466_0)
                    (try rw [Addr.add_zero'] at hx466_0)
                    (try rw [show ((0 : Int)).toNat = 0 from rfl] at hx466_1)
                    (try rw [show 0 * 2 = 0 from rfl] at hx466_1)
                    (try rw [Addr.add_zero'] at hx466_1)
                    replace p466 := eq_true p466
                    replace q466 := eq_true q466
                    go_wp2
                    go_meet
                    case rel => exact ⟨_, ((!(((rd_T38 t462 0).f0) == 0) || (!(((rd_T38 t462 0).f1) == 0)))), (by first | rfl | (simp; done) | (simp [*]; done)), H', ⟨by have := HK1.out; first | omega | exact Nat.le_refl _⟩, ⟨by (with_reducible repeat (first | apply Kd.R_alloc | apply Kd.R_drewN | apply Kd.R_drew)); exact HO465.out⟩, ⟨by repeat (first | (with_reducible first | exact HB.out | apply below_alloc | apply pw_below_drewN | apply below_drew1) | exact HB.out)⟩⟩
                  · rw [if_neg c17] at H; cases H
                · rw [if_neg c16] at H
                  have c16b0 : ((t462.length : Int) == (wrap64 ((wrap64 (2 * (l0.length : Int))) + 1))) = false := beq_eq_false_iff_ne.mpr c16
                  have c16b1 : ((t462.length : Int) != (wrap64 ((wrap64 (2 * (l0.length : Int))) + 1))) = true := bne_iff_ne.mpr c16
                  have H' := Aside0.mk H
                  clear H
                  obtain ⟨Ao19, co19, eo19⟩ := Kd.R_slice HO465.out
                  subst eo19
                  go_wp2
                  go_meet
                  case rel => exact ⟨_, (true), (by first | rfl | (simp; done) | (simp [*]; done)), H', ⟨by have := HK1.out; first | omega | exact Nat.le_refl _⟩, ⟨by (with_reducible repeat (first | apply Kd.R_alloc | apply Kd.R_drewN | apply Kd.R_drew)); exact HO465.out⟩, ⟨by repeat (first | (with_reducible first | exact HB.out | apply below_alloc | apply pw_below_drewN | apply below_drew1) | exact HB.out)⟩⟩
              · rw [if_neg c15] at H
                have c15b0 : (t463 == 0) = false := beq_eq_false_iff_ne.mpr c15
                have c15b1 : (t463 != 0) = true := bne_iff_ne.mpr c15
                (first | rw [c15b0] | (simp only [i64_w, i32_w]; rw [c15b0]) | skip)
                have H' := Aside0.mk H
                clear H
                go_wp2
                go_meet
                case rel => exact ⟨_, (true), (by first | rfl | (simp; done) | (simp [*]; done)), H', ⟨by have := HK1.out; first | omega | exact Nat.le_refl _⟩, ⟨by (with_reducible repeat (first | apply Kd.R_alloc | apply Kd.R_drewN | apply Kd.R_drew)); exact HO465.out⟩, ⟨by repeat (first | (with_reducible first | exact HB.out | apply below_alloc | apply pw_below_drewN | apply below_drew1) | exact HB.out)⟩⟩
            case rest =>
              clear HC13
              try clear c1
              try clear c2
              try clear p2
              try clear c3
              try clear c4
              try clear c4b0
              try clear c4b1
              try clear p4
              try clear q4
              try clear hx4
              try clear qi4
              try clear p6
              try clear c7
              try clear c7b0
              try clear c8
              try clear c8b0
              try clear c9
              try clear c9b0
              try clear c10
              try clear c10b0
              try clear c11
              try clear c11b0
              try clear c15
              try clear c15b0
              try clear c15b1
              try clear c16
              try clear c16b0
              try clear c16b1
              try clear c17
              try clear c17b0
              try clear c17b1
              try clear hx461_0
              try clear hx466_0
              try clear hx466_1
              try clear p2
              try clear p461
              try clear p466
              try clear q461
              try clear q466
              obtain ⟨kq, x59_12, rfl, HA, HJ12, HO_7, HB⟩ := hcut
              cases kq with
              | zero => exact absurd HA.out (by simp [quitrentlaw21_PlotStairs.j1])
              | succ kj12 =>
                have H := HA.out
                clear HA
                simp only [quitrentlaw21_PlotStairs.j1] at H
                by_cases c20 : x59_12 = true
                · subst c20
                  have H1 : (some false) = some r := by rw [if_pos rfl] at H; exact H
                  clear H
                  have H := H1
                  clear H1
                  obtain rfl := Option.some.inj H
                  go_wp2
                  go_ret
                  exact ⟨by first | rfl | (simp [errW_none, errW_some] <;> rfl) | (simp [*, errW_none, errW_some] <;> rfl), by repeat (first | (with_reducible first | exact HB.out | apply below_alloc | apply pw_below_drewN | apply below_drew1) | exact HB.out)⟩
                · replace c20 := Bool.eq_false_iff.mpr c20
                  subst c20
                  have H1 : (if 0 ≤ (wrap64 ((t462.length : Int) - 1)) then (if (wrap64 ((t462.length : Int) - 1)) < (t462.length : Int) then (if (!(((rd_T38 t462 (wrap64 ((t462.length : Int) - 1))).f0) == (l0.length : Int)) || (!(((rd_T38 t462 (wrap64 ((t462.length : Int) - 1))).f1) == x3_1))) = true then (some false) else ((some (([] : List (S38)) : List (S38))).bind fun y469 => (if y469.length + t462.length < 8796093022208 then ((some (y469 ++ t462 : List (S38))).bind fun y472 => (if y472.length < 8796093022208 then ((plot_Area.f kj12 (y472 ++ [(⟨(l0.length : Int), 0⟩ : S38)])).bind fun bt478 => (if bt478.2 = 0 then (some (bt478.1 == (wrap64 ((-2) * x4_1)))) else (none))) else (none))) else (none)))) else (none)) else (none)) = some r := by rw [if_neg (show ¬ (false = true) by decide)] at H; exact H
                  clear H
                  have H := H1
                  clear H1
                  obtain ⟨ji21, hji21⟩ : ∃ j_ : Int, (wrap64 ((t462.length : Int) - 1)) = j_ := ⟨_, rfl⟩
                  replace H : (if 0 ≤ (ji21) then (if (ji21) < (t462.length : Int) then (if (!(((rd_T38 t462 (ji21)).f0) == (l0.length : Int)) || (!(((rd_T38 t462 (ji21)).f1) == x3_1))) = true then (some false) else ((some (([] : List (S38)) : List (S38))).bind fun y469 => (if y469.length + t462.length < 8796093022208 then ((some (y469 ++ t462 : List (S38))).bind fun y472 => (if y472.length < 8796093022208 then ((plot_Area.f kj12 (y472 ++ [(⟨(l0.length : Int), 0⟩ : S38)])).bind fun bt478 => (if bt478.2 = 0 then (some (bt478.1 == (wrap64 ((-2) * x4_1)))) else (none))) else (none))) else (none)))) else (none)) else (none)) = some r := by first | (rw [hji21] at H; exact H) | (simp only [hji21] at H ⊢; exact H)
                  have hji21w : (IntKind.i64.wrap ((t462.length : Int) - 1)) = ji21 := (i64_w _).trans hji21
                  by_cases c22 : 0 ≤ (ji21)
                  · rw [if_pos c22] at H
                    have c22b0 : decide (0 ≤ (ji21)) = true := decide_eq_true c22
                    clear c22
                    by_cases c23 : (ji21) < (t462.length : Int)
                    · rw [if_pos c23] at H
                      have c23b0 : decide ((ji21) < (t462.length : Int)) = true := decide_eq_true c23
                      clear c23
                      by_cases c24 : (!(((rd_T38 t462 (ji21)).f0) == (l0.length : Int)) || (!(((rd_T38 t462 (ji21)).f1) == x3_1))) = true
                      · rw [if_pos c24] at H
                        have c24b0 : (!(((rd_T38 t462 (ji21)).f0) == (l0.length : Int)) || (!(((rd_T38 t462 (ji21)).f1) == x3_1))) = true := c24
                        clear c24
                        obtain rfl := Option.some.inj H
                        obtain ⟨Ao25, co25, eo25⟩ := Kd.R_slice HO_7.out
                        subst eo25
                        have p467 : 0 ≤ ((ji21) : Int) := of_decide_eq_true (by first | (with_reducible assumption) | assumption)
                        have q467 : (ji21) < (t462.length : Int) := of_decide_eq_true (by first | (with_reducible assumption) | assumption)
                        obtain ⟨ad467, e467, hx467_0, hx467_1⟩ := at_T38 (Kd.R_reads' HO_7.out).2.2 (ji21) p467 q467
                        cases e467
                        replace p467 := eq_true p467
                        replace q467 := eq_true q467
                        go_wp2_with (first | ((with_reducible refine gate_dst (N := 10) rfl ?_); (try (refine gate_guard (by rfl) ?_; dsimp only)); refine box_event ?hg (N := 10) ?hd (cs := #[.int .i64 0, .int .i64 0]) (t := 38) ?hr ?_; (case hd => rfl); (case hg => rfl); (case hr => first | (go_simp; done) | (go_simp; rfl)); intro gb468 hg w26 hbox hb; have n0_ := Aside0.mk (Kd.R_below (Kd.R_elderB (by (with_reducible repeat (first | apply Kd.R_alloc | apply Kd.R_drewN | apply Kd.R_drew)); exact HO_7.out) gb468 (Nat.le_of_eq hg.symm)) hb); have n1_ := Aside0.mk (below_step (by repeat (first | (with_reducible first | exact HB.out | apply below_alloc | apply pw_below_drewN | apply below_drew1) | exact HB.out)) hb); have n2_ := Aside0.mk (hbox); have n3_ := Aside0.mk ((by rw [hg]; exact (below_size (by repeat (first | (with_reducible first | exact HB.out | apply below_alloc | apply pw_below_drewN | apply below_drew1) | exact HB.out))) : w.heap.size ≤ gb468)); have n4_ := Aside0.mk ((by rw [hg]; exact (below_size (by repeat (first | (with_reducible first | exact HB.out | apply below_alloc | apply pw_below_drewN | apply below_drew1) | exact HB.out))) : w.heap.size ≤ gb468)); clear HO_7; clear HB; have HO_7 := n0_; have HB := n1_; have BK468 := n2_; have GW468 := n3_; have GE468 := n4_; clear n0_ n1_ n2_ n3_ n4_; clear hb hbox hg; have hcz27_0 : w26.cell? ⟨gb468, 0, none⟩ = some (.int .i64 0) := (blk_cell BK468.out 0).trans rfl; have hcz27_1 : w26.cell? ⟨gb468, 1, none⟩ = some (.int .i64 0) := (blk_cell BK468.out 1).trans rfl; have hfz27_0 := blk_frozen BK468.out 0; have hfz27_1 := blk_frozen BK468.out 1))
                        go_ret
                        exact ⟨by first | rfl | (simp [errW_none, errW_some] <;> rfl) | (simp only [← hji21]; first | rfl | (simp [errW_none, errW_some] <;> rfl)) | (simp [*, errW_none, errW_some] <;> rfl), by repeat (first | (with_reducible first | exact HB.out | apply below_alloc | apply pw_below_drewN | apply below_drew1 | refine below_set ?_ GE468.out) | exact HB.out)⟩
                      · rw [if_neg c24] at H
                        have c24b0 : (!(((rd_T38 t462 (ji21)).f0) == (l0.length : Int)) || (!(((rd_T38 t462 (ji21)).f1) == x3_1))) = false := by simpa using c24
                        clear c24
                        obtain ⟨y469, hy469⟩ : ∃ y_ : List (S38), y_ = (([] : List (S38))) := ⟨_, rfl⟩
                        replace H : (if y469.length + t462.length < 8796093022208 then ((some (y469 ++ t462 : List (S38))).bind fun y472 => (if y472.length < 8796093022208 then ((plot_Area.f kj12 (y472 ++ [(⟨(l0.length : Int), 0⟩ : S38)])).bind fun bt478 => (if bt478.2 = 0 then (some (bt478.1 == (wrap64 ((-2) * x4_1)))) else (none))) else (none))) else (none)) = some r := by first | (rw [hy469]; with_reducible exact H) | (have H2_ := (Option.bind_some _ _).symm.trans H; rw [hy469]; with_reducible exact H2_) | (have H2_ := (Option.bind_some _ _).symm.trans H; with_reducible exact H2_) | with_reducible exact H | (rw [hy469]; exact H) | exact H
                        have Ny469 := Aside0.mk hy469
                        clear hy469
                        by_cases c28 : y469.length + t462.length < 8796093022208
                        · rw [if_pos c28] at H
                          have LMc28 := Aside0.mk c28
                          clear c28
                          obtain ⟨y472, hy472⟩ : ∃ y_ : List (S38), y_ = (y469 ++ t462) := ⟨_, rfl⟩
                          replace H : (if y472.length < 8796093022208 then ((plot_Area.f kj12 (y472 ++ [(⟨(l0.length : Int), 0⟩ : S38)])).bind fun bt478 => (if bt478.2 = 0 then (some (bt478.1 == (wrap64 ((-2) * x4_1)))) else (none))) else (none)) = some r := by first | (rw [hy472]; with_reducible exact H) | (have H2_ := (Option.bind_some _ _).symm.trans H; rw [hy472]; with_reducible exact H2_) | (have H2_ := (Option.bind_some _ _).symm.trans H; with_reducible exact H2_) | with_reducible exact H | (rw [hy472]; exact H) | exact H
                          have Ny472 := Aside0.mk hy472
                          clear hy472
                          by_cases c29 : y472.length < 8796093022208
                          · rw [if_pos c29] at H
                            have LMc29 := Aside0.mk c29
                            clear c29
                            obtain ⟨y475, hy475⟩ : ∃ y_ : List (S38), y_ = (y472 ++ [(⟨(l0.length : Int), 0⟩ : S38)]) := ⟨_, rfl⟩
                            replace H : ((plot_Area.f kj12 y475).bind fun bt478 => (if bt478.2 = 0 then (some (bt478.1 == (wrap64 ((-2) * x4_1)))) else (none))) = some r := by first | (rw [hy475]; with_reducible exact H) | (have H2_ := (Option.bind_some _ _).symm.trans H; rw [hy475]; with_reducible exact H2_) | (have H2_ := (Option.bind_some _ _).symm.trans H; with_reducible exact H2_) | with_reducible exact H | (rw [hy475]; exact H) | exact H
                            have Ny475 := Aside0.mk hy475
                            clear hy475
                            replace H := Option.bind_eq_some_iff.mp H
                            obtain ⟨⟨t478, t479⟩, A300, H⟩ := H
                            replace H : (if t479 = 0 then (some (t478 == (wrap64 ((-2) * x4_1)))) else (none)) = some r := H
                            have A30 := Aside0.mk A300
                            clear A300
                            by_cases c31 : t479 = 0
                            · rw [if_pos c31] at H
                              have c31b0 : (t479 == 0) = true := beq_iff_eq.mpr c31
                              have c31b1 : (t479 != 0) = false := bne_eq_false_iff_eq.mpr c31
                              clear c31
                              obtain rfl := Option.some.inj H
                              obtain ⟨Ao32, co32, eo32⟩ := Kd.R_slice HO_7.out
                              subst eo32
                              have p467 : 0 ≤ ((ji21) : Int) := of_decide_eq_true (by first | (with_reducible assumption) | assumption)
                              have q467 : (ji21) < (t462.length : Int) := of_decide_eq_true (by first | (with_reducible assumption) | assumption)
                              obtain ⟨ad467, e467, hx467_0, hx467_1⟩ := at_T38 (Kd.R_reads' HO_7.out).2.2 (ji21) p467 q467
                              cases e467
                              replace p467 := eq_true p467
                              replace q467 := eq_true q467
                              go_wp2_with (first | ((with_reducible refine gate_dst (N := 10) rfl ?_); (try (refine gate_guard (by rfl) ?_; dsimp only)); refine box_event ?hg (N := 10) ?hd (cs := #[.int .i64 0, .int .i64 0]) (t := 38) ?hr ?_; (case hd => rfl); (case hg => rfl); (case hr => first | (go_simp; done) | (go_simp; rfl)); intro gb468 hg w33 hbox hb; have n0_ := Aside0.mk (Kd.R_below (Kd.R_elderB (by (with_reducible repeat (first | apply Kd.R_alloc | apply Kd.R_drewN | apply Kd.R_drew)); exact HO_7.out) gb468 (Nat.le_of_eq hg.symm)) hb); have n1_ := Aside0.mk (below_step (by repeat (first | (with_reducible first | exact HB.out | apply below_alloc | apply pw_below_drewN | apply below_drew1) | exact HB.out)) hb); have n2_ := Aside0.mk (hbox); have n3_ := Aside0.mk ((by rw [hg]; exact (below_size (by repeat (first | (with_reducible first | exact HB.out | apply below_alloc | apply pw_below_drewN | apply below_drew1) | exact HB.out))) : w.heap.size ≤ gb468)); have n4_ := Aside0.mk ((by rw [hg]; exact (below_size (by repeat (first | (with_reducible first | exact HB.out | apply below_alloc | apply pw_below_drewN | apply below_drew1) | exact HB.out))) : w.heap.size ≤ gb468)); clear HO_7; clear HB; have HO_7 := n0_; have HB := n1_; have BK468 := n2_; have GW468 := n3_; have GE468 := n4_; clear n0_ n1_ n2_ n3_ n4_; clear hb hbox hg; have hcz34_0 : w33.cell? ⟨gb468, 0, none⟩ = some (.int .i64 0) := (blk_cell BK468.out 0).trans rfl; have hcz34_1 : w33.cell? ⟨gb468, 1, none⟩ = some (.int .i64 0) := (blk_cell BK468.out 1).trans rfl; have hfz34_0 := blk_frozen BK468.out 0; have hfz34_1 := blk_frozen BK468.out 1) | ((with_reducible refine gate_dst (N := 74) rfl ?_); (try (refine gate_guard (by rfl) ?_; dsimp only)); refine Kd.R_lit k38 _ 38 ?hg (N := 74) ?hd (xs := ([] : List (S38))) (inner := []) (ok := fun _ => True) (okp := fun _ => True) ?hr ?hp (fun _ hk => hk) trivial (Below.refl _ _) (Nat.le_refl _) (by simp) ?_; (case hd => rfl); (case hg => rfl); (case hr => first | (go_simp; done) | (go_simp; rfl)); (case hp => exact (Reps.none _ _)); intro v470 w35 ho36 hb hg_ hnew_; clear hg_ hnew_; (first | rw [← Ny469.out] at ho36 | (simp only [Int.reduceToNat] at ho36; rw [← Ny469.out] at ho36)); have n0_ := Aside0.mk (Kd.R_elder' (by (with_reducible repeat (first | apply Kd.R_alloc | apply Kd.R_drewN | apply Kd.R_drew)); exact (Kd.R_mono (Kd.R_far (p := ⟨gb468, 1, none⟩) (Kd.R_far (p := ⟨gb468, 0, none⟩) (Kd.R_mono HO_7.out (fun k_ hk => (⟨hk, hk.2⟩ : _ ∧ k_ ≠ gb468))) (fun _ hk => hk.2) (.int .i64 ((rd_T38 t462 (ji21)).f0))) (fun _ hk => hk.2) (.int .i64 ((rd_T38 t462 (ji21)).f1))) (fun _ h_ => h_.1))) (Kd.R_base ho36) hb); have n1_ := Aside0.mk (Kd.R_lower (Kd.R_newB (Kd.R_new' ho36 (Kd.R_lt (by (with_reducible repeat (first | apply Kd.R_alloc | apply Kd.R_drewN | apply Kd.R_drew)); exact (Kd.R_mono (Kd.R_far (p := ⟨gb468, 1, none⟩) (Kd.R_far (p := ⟨gb468, 0, none⟩) (Kd.R_mono HO_7.out (fun k_ hk => (⟨hk, hk.2⟩ : _ ∧ k_ ≠ gb468))) (fun _ hk => hk.2) (.int .i64 ((rd_T38 t462 (ji21)).f0))) (fun _ hk => hk.2) (.int .i64 ((rd_T38 t462 (ji21)).f1))) (fun _ h_ => h_.1))))) (g := gb468) (o := .cells #[.int .i64 ((rd_T38 t462 (ji21)).f0), .int .i64 ((rd_T38 t462 (ji21)).f1)] 38 (0, 0)) (by (with_reducible repeat (first | refine blk_drewN ?_ _ | refine blk_drew ?_ | refine blk_alloc ?_ _)); refine blk_put (cs := #[.int .i64 ((rd_T38 t462 (ji21)).f0), .int .i64 0]) ?_ 1 _ rfl; (with_reducible repeat (first | refine blk_drewN ?_ _ | refine blk_drew ?_ | refine blk_alloc ?_ _)); refine blk_put (cs := #[.int .i64 0, .int .i64 0]) ?_ 0 _ rfl; (with_reducible repeat (first | refine blk_drewN ?_ _ | refine blk_drew ?_ | refine blk_alloc ?_ _)); exact BK468.out)) (below_size (by repeat (first | (with_reducible first | exact HB.out | apply below_alloc | apply pw_below_drewN | apply below_drew1 | refine below_set ?_ GE468.out) | exact HB.out)))); have n2_ := Aside0.mk (blk_below (g := gb468) (o := .cells #[.int .i64 ((rd_T38 t462 (ji21)).f0), .int .i64 ((rd_T38 t462 (ji21)).f1)] 38 (0, 0)) (by (with_reducible repeat (first | refine blk_drewN ?_ _ | refine blk_drew ?_ | refine blk_alloc ?_ _)); refine blk_put (cs := #[.int .i64 ((rd_T38 t462 (ji21)).f0), .int .i64 0]) ?_ 1 _ rfl; (with_reducible repeat (first | refine blk_drewN ?_ _ | refine blk_drew ?_ | refine blk_alloc ?_ _)); refine blk_put (cs := #[.int .i64 0, .int .i64 0]) ?_ 0 _ rfl; (with_reducible repeat (first | refine blk_drewN ?_ _ | refine blk_drew ?_ | refine blk_alloc ?_ _)); exact BK468.out) hb); have n3_ := Aside0.mk (below_step (by repeat (first | (with_reducible first | exact HB.out | apply below_alloc | apply pw_below_drewN | apply below_drew1 | refine below_set ?_ GE468.out) | exact HB.out)) hb); clear HO_7; clear BK468; clear HB; have HO_7 := n0_; have HO471 := n1_; have BK468 := n2_; have HB := n3_; clear n0_ n1_ n2_ n3_; clear hb ho36) | ((with_reducible refine gate_builtin (b := .append) (xs := #[.tmp 74, .tmp 75]) rfl ?_); (try (refine gate_guard (by rfl) ?_; dsimp only)); at_builtin; refine Kd.R_append_rows k38 (w0 := w) w.heap.size rfl (.tmp 74) (.tmp 75) 36 38 (.agg #[(.int .i64 0), (.int .i64 0)]) 16 rfl Try.underlying36 info38 rfl (by decide) (by omega) v470 y469 t462 _ _ _ (fun k_ => some k_ ≠ (.slice (some ad467) t462.length co32 : Value).ownBlock ∧ k_ ≠ gb468) (fun _ => False) rfl rfl ?aO ?aR (fun _ _ h => h) (fun _ h => h.elim) ?aF ?aB ?aS ?aL ?_; (case aR => repeat (first | exact (Kd.R_reads' HO_7.out).2.2 | (with_reducible refine Kd.C_alloc ?_ _) | (with_reducible refine Kd.C_drewN ?_ _) | (with_reducible refine Kd.C_drew ?_))); (case aB => exact (by repeat (first | (with_reducible first | exact HB.out | apply below_alloc | apply pw_below_drewN | apply below_drew1 | refine below_set ?_ GE468.out) | exact HB.out))); (case aF => exact (fun k_ hk => ⟨Kd.fresh' (Kd.R_lt (by (with_reducible repeat (first | apply Kd.R_alloc | apply Kd.R_drewN | apply Kd.R_drew)); exact HO_7.out)) k_ hk, Kd.freshB (g := gb468) (o := .cells #[.int .i64 ((rd_T38 t462 (ji21)).f0), .int .i64 ((rd_T38 t462 (ji21)).f1)] 38 (0, 0)) (by (with_reducible repeat (first | refine blk_drewN ?_ _ | refine blk_drew ?_ | refine blk_alloc ?_ _)); exact BK468.out) k_ hk⟩)); (case aO => exact (by (with_reducible repeat (first | apply Kd.R_alloc | apply Kd.R_drewN | apply Kd.R_drew)); exact Kd.R_mono HO471.out (fun _ hk => ⟨hk.1.2, hk.2⟩))); (case aS => exact (below_size (by repeat (first | (with_reducible first | exact HB.out | apply below_alloc | apply pw_below_drewN | apply below_drew1 | refine below_set ?_ GE468.out) | exact HB.out)))); (case aL => have := LMc28.out; omega); intro v473 w37 ho hb hg hat; rw [← Ny472.out] at ho; have n0_ := Aside0.mk (Kd.R_after (ok := (fun k_ => k_ ≠ gb468)) (by (with_reducible repeat (first | apply Kd.R_alloc | apply Kd.R_drewN | apply Kd.R_drew)); exact Kd.R_mono HO_7.out (fun _ hk => ⟨hk.1.2, hk.2⟩)) hg hat); have n1_ := Aside0.mk (blk_grown (g := gb468) (o := .cells #[.int .i64 ((rd_T38 t462 (ji21)).f0), .int .i64 ((rd_T38 t462 (ji21)).f1)] 38 (0, 0)) (by (with_reducible repeat (first | refine blk_drewN ?_ _ | refine blk_drew ?_ | refine blk_alloc ?_ _)); exact BK468.out) hg (Kd.R_away HO471.out (fun _ hk => hk.2))); have n2_ := Aside0.mk (hb); have n3_ := Aside0.mk (ho); clear HO_7; clear BK468; clear HB; clear HO471; have HO_7 := n0_; have BK468 := n1_; have HB := n2_; have HO474 := n3_; clear n0_ n1_ n2_ n3_; clear ho hb hg hat) | ((with_reducible refine gate_builtin (b := .append) (xs := #[.tmp 76, .tmp 79]) rfl ?_); (try (refine gate_guard (by rfl) ?_; dsimp only)); at_builtin; refine Kd.R_append k38 (w0 := w) w.heap.size rfl (.tmp 76) (.tmp 79) 36 38 (.agg #[(.int .i64 0), (.int .i64 0)]) 16 rfl Try.underlying36 info38 rfl (by decide) (by omega) v473 y472 (⟨(l0.length : Int), 0⟩ : S38) [.int .i64 (l0.length : Int), .int .i64 0] (fun k_ => some k_ ≠ (.slice (some ad467) t462.length co32 : Value).ownBlock ∧ k_ ≠ gb468) (fun _ => False) rfl rfl ?aP (fun _ hk => hk.elim) ?aF ?aO ?aB ?aS ?aL ?_; (case aP => exact k38_mkM _ _ _ (⟨(l0.length : Int), 0⟩ : S38)); (case aB => exact (by repeat (first | (with_reducible first | exact HB.out | apply below_alloc | apply pw_below_drewN | apply below_drew1 | refine below_set ?_ GE468.out) | exact HB.out))); (case aF => exact (fun k_ hk => ⟨Kd.fresh' (Kd.R_lt (by (with_reducible repeat (first | apply Kd.R_alloc | apply Kd.R_drewN | apply Kd.R_drew)); exact HO_7.out)) k_ hk, Kd.freshB (g := gb468) (o := .cells #[.int .i64 ((rd_T38 t462 (ji21)).f0), .int .i64 ((rd_T38 t462 (ji21)).f1)] 38 (0, 0)) (by (with_reducible repeat (first | refine blk_drewN ?_ _ | refine blk_drew ?_ | refine blk_alloc ?_ _)); exact BK468.out) k_ hk⟩)); (case aO => exact (by (with_reducible repeat (first | apply Kd.R_alloc | apply Kd.R_drewN | apply Kd.R_drew)); exact HO474.out)); (case aS => exact (below_size (by repeat (first | (with_reducible first | exact HB.out | apply below_alloc | apply pw_below_drewN | apply below_drew1 | refine below_set ?_ GE468.out) | exact HB.out)))); (case aL => have := LMc29.out; omega); intro v476 w38 ho hb hg hat; rw [← Ny475.out] at ho; have n0_ := Aside0.mk (Kd.R_after (ok := (fun k_ => k_ ≠ gb468)) (by (with_reducible repeat (first | apply Kd.R_alloc | apply Kd.R_drewN | apply Kd.R_drew)); exact HO_7.out) hg hat); have n1_ := Aside0.mk (blk_grown (g := gb468) (o := .cells #[.int .i64 ((rd_T38 t462 (ji21)).f0), .int .i64 ((rd_T38 t462 (ji21)).f1)] 38 (0, 0)) (by (with_reducible repeat (first | refine blk_drewN ?_ _ | refine blk_drew ?_ | refine blk_alloc ?_ _)); exact BK468.out) hg (Kd.R_away HO474.out (fun _ hk => hk.2))); have n2_ := Aside0.mk (hb); have n3_ := Aside0.mk (ho); clear HO_7; clear BK468; clear HB; clear HO474; have HO_7 := n0_; have BK468 := n1_; have HB := n2_; have HO477 := n3_; clear n0_ n1_ n2_ n3_; clear ho hb hg hat; obtain ⟨Ao39, co39, eo39⟩ := Kd.R_slice HO477.out; subst eo39) | ((with_reducible refine gate_callee (f := 37) rfl ?_); refine goesL_ (some 81) rfl rfl Try.func37 (by kernel_rfl) rfl #[.slice Ao39 y475.length co39] rfl (by (try simp only [List.map_toArray, List.map_cons, List.map_nil]); first | done | rfl | (simp only [List.length_drop, List.length_take]; rfl)) ?_; (with_reducible refine (plot_Area.calls kj12 _ _ y475 t478 t479 _ ?side1 ?side2 A30.out).mono ?_); (case side1 => repeat (first | exact (Kd.R_reads' HO477.out).2.2 | (with_reducible refine Kd.C_alloc ?_ _) | (with_reducible refine Kd.C_drewN ?_ _) | (with_reducible refine Kd.C_drew ?_))); (case side2 => exact (Kd.R_reads' HO477.out).2.1); rintro e w40 ⟨rfl, hb⟩; refine ⟨_, rfl, ?_⟩; have n0_ := Aside0.mk (Kd.R_below (by (with_reducible repeat (first | apply Kd.R_alloc | apply Kd.R_drewN | apply Kd.R_drew)); exact HO_7.out) hb); have n1_ := Aside0.mk (Kd.R_below (by (with_reducible repeat (first | apply Kd.R_alloc | apply Kd.R_drewN | apply Kd.R_drew)); exact HO477.out) hb); have n2_ := Aside0.mk (blk_below (g := gb468) (o := .cells #[.int .i64 ((rd_T38 t462 (ji21)).f0), .int .i64 ((rd_T38 t462 (ji21)).f1)] 38 (0, 0)) (by (with_reducible repeat (first | refine blk_drewN ?_ _ | refine blk_drew ?_ | refine blk_alloc ?_ _)); exact BK468.out) hb); have n3_ := Aside0.mk (below_step (by repeat (first | (with_reducible first | exact HB.out | apply below_alloc | apply pw_below_drewN | apply below_drew1 | refine below_set ?_ GE468.out) | exact HB.out)) hb); clear HO_7; clear HO477; clear BK468; clear HB; have HO_7 := n0_; have HO477 := n1_; have BK468 := n2_; have HB := n3_; clear n0_ n1_ n2_ n3_; (try clear hb); (try clear hb2); (try clear hk); (try clear hi)))
                              go_ret
                              exact ⟨by first | rfl | (simp [errW_none, errW_some] <;> rfl) | (simp only [← hji21]; first | rfl | (simp [errW_none, errW_some] <;> rfl)) | (simp [*, errW_none, errW_some] <;> rfl), by repeat (first | (with_reducible first | exact HB.out | apply below_alloc | apply pw_below_drewN | apply below_drew1 | refine below_set ?_ GE468.out) | exact HB.out)⟩
                            · rw [if_neg c31] at H; cases H
                          · rw [if_neg c29] at H; cases H
                        · rw [if_neg c28] at H; cases H
                    · rw [if_neg c23] at H; cases H
                  · rw [if_neg c22] at H; cases H
  · rw [if_neg c3] at H; cases H

/-- THE ONE PURE STATEMENT of quitrentlaw21_PlotStairs: yours. -/
def quitrentlaw21_PlotStairs.Pure : Prop := ∀ (l0 : List Int), l0.length ≤ maxLen → l0.length * 8 ≤ 140737488351232 → (∀ x ∈ l0, (Lit.int .i64 x).wf = true) → ∃ k, quitrentlaw21_PlotStairs.f k l0 = some true
theorem quitrentlaw21_PlotStairs.walk (P : quitrentlaw21_PlotStairs.Pure) (a0 : Option Addr) (len0 cap0 : Nat) (z0 : List Int) (w : World) (w0 : (a0 = none ∧ len0 = 0 ∧ cap0 = 0 ∧ z0 = []) ∨ ∃ x, a0 = some x ∧ len0 ≤ cap0 ∧ cap0 ≤ maxLen ∧ z0.length = cap0 ∧ (∀ i, i < z0.length → w.cell? (x.add i) = some (.int .i64 (z0.getD i 0))) ∧ ∀ n ∈ z0, (Lit.int .i64 n).wf = true) (y0 : len0 * 8 ≤ 140737488351232) :
    Calls Try.prog 11 #[.slice a0 len0 cap0] w fun e w' => e = .returned (.bool true) ∧ Below w.heap.size w w' := by
  obtain ⟨l0, rfl, hr0, hm0, hw0, hc0⟩ := ReadsInt.ofRowC w0
  obtain ⟨k, h⟩ := P l0 hm0 y0 hw0
  refine (quitrentlaw21_PlotStairs.calls k _ _ l0 true w (Kd.C_of_reads (d := (0 : Int)) (h1 := fun _ => rfl) hr0) hc0 h).mono ?_
  rintro e w' ⟨rfl, hd⟩
  exact ⟨rfl, hd⟩
end Go.Proofs.Ytkfbmplhcigopaa.PPlo
