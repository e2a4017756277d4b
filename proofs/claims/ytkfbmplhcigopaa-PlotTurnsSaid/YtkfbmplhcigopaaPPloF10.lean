/- out of the print of a variant of the program with whole numbers: quitrentlaw21_PlotTimes -/
import Derived.Test.YtkfbmplhcigopaaPPloF27
namespace Go.Proofs.Ytkfbmplhcigopaa.PPlo
open Go.RowKit Go.Proofs.YtkfbmplhcigopaaW.PrintWords Go.Proofs.YtkfbmplhcigopaaW.PrintLast Go.Proofs.YtkfbmplhcigopaaW.PrintMore
attribute [local go_sem] max2_int min2_int max_two min_two max_three min_three max_four min_four   -- for this text's walks alone
set_option linter.unusedVariables false
set_option linter.unusedSimpArgs false

/-! ### quitrentlaw21_PlotTimes: function 10 -/
mutual
def quitrentlaw21_PlotTimes.l0 : Nat → List (S38) → List (S38) → Int → Int → Int → Int → Int → Int → Option (Bool)
  | 0, _, _, _, _, _, _, _, _ => none
  | k + 1, x0, x42, x43, x44, x429000, x429001, x430000, x430001 => if x44 < x43 then (if 0 ≤ x44 then (if x44 < (x42.length : Int) then (if ((rd_T38 x42 x44).f0) < (-1000) then (some true) else (if ((rd_T38 x42 x44).f0) > 1000 then (some true) else (if ((rd_T38 x42 x44).f1) < (-1000) then (some true) else (if ((rd_T38 x42 x44).f1) > 1000 then (some true) else (quitrentlaw21_PlotTimes.l0 k x0 x42 x43 (wrap64 (x44 + 1)) x429000 x429001 x430000 x430001))))) else (none)) else (none)) else (if x429000 < (-30) then (quitrentlaw21_PlotTimes.j1 k x0 true x429000 x429001 x430000 x430001) else (if x429000 > 30 then (quitrentlaw21_PlotTimes.j1 k x0 true x429000 x429001 x430000 x430001) else (if x429001 < (-30) then (quitrentlaw21_PlotTimes.j1 k x0 true x429000 x429001 x430000 x430001) else (if x429001 > 30 then (quitrentlaw21_PlotTimes.j1 k x0 true x429000 x429001 x430000 x430001) else (if x430000 < (-30) then (quitrentlaw21_PlotTimes.j1 k x0 true x429000 x429001 x430000 x430001) else (if x430000 > 30 then (quitrentlaw21_PlotTimes.j1 k x0 true x429000 x429001 x430000 x430001) else (if x430001 < (-30) then (quitrentlaw21_PlotTimes.j1 k x0 true x429000 x429001 x430000 x430001) else (quitrentlaw21_PlotTimes.j1 k x0 (decide (x430001 > 30)) x429000 x429001 x430000 x430001))))))))
def quitrentlaw21_PlotTimes.j1 : Nat → List (S38) → Bool → Int → Int → Int → Int → Option (Bool)
  | 0, _, _, _, _, _, _ => none
  | k + 1, x0, x104, x429000, x429001, x430000, x430001 => if x104 = true then (some true) else ((plot_Area.f k x0).bind fun bt439 => ((plot_Times.f k x0 x429000 x429001).bind fun bt441 => ((plot_Area.f k bt441.1).bind fun bt445 => ((plot_Times.f k x0 x430000 x430001).bind fun bt447 => ((plot_Times.f k bt441.1 x430000 x430001).bind fun bt451 => ((plot_Times.f k bt447.1 x429000 x429001).bind fun bt455 => (if bt441.2 = 0 then (if bt447.2 = 0 then (if bt439.2 = 0 then (if bt445.2 = 0 then (if bt445.1 = (wrap64 (bt439.1 * (wrap64 ((wrap64 (x429000 * x429000)) + (wrap64 (x429001 * x429001)))))) then (if bt451.2 = bt455.2 then ((quitrentlaw21_same.f k bt451.1 bt455.1).bind fun t459 => (some t459)) else (none)) else (none)) else (none)) else (none)) else (none)) else (none))))))))
end
def quitrentlaw21_PlotTimes.f (k : Nat) (l0 : List (S38)) (a1_0 : Int) (a1_1 : Int) (a2_0 : Int) (a2_1 : Int) : Option (Bool) := (quitrentlaw21_awake.f k).bind fun t430 => (if t430 = true then (if (l0.length : Int) > 50 then (some true) else ((some (([(⟨wrap64 (33 * a1_0), wrap64 (33 * a1_1)⟩ : S38), (⟨wrap64 (33 * a2_0), wrap64 (33 * a2_1)⟩ : S38)] : List (S38)) : List (S38))).bind fun y431 => (if y431.length + l0.length < 8796093022208 then ((some (y431 ++ l0 : List (S38))).bind fun y434 => (quitrentlaw21_PlotTimes.l0 k l0 y434 (y434.length : Int) 0 a1_0 a1_1 a2_0 a2_1)) else (none)))) else (none))
theorem quitrentlaw21_PlotTimes.mono_l : ∀ k, (∀ y0 y1 y2 y3 y4 y5 y6 y7, LeO (quitrentlaw21_PlotTimes.l0 k y0 y1 y2 y3 y4 y5 y6 y7) (quitrentlaw21_PlotTimes.l0 (k + 1) y0 y1 y2 y3 y4 y5 y6 y7)) ∧ (∀ y0 y1 y2 y3 y4 y5, LeO (quitrentlaw21_PlotTimes.j1 k y0 y1 y2 y3 y4 y5) (quitrentlaw21_PlotTimes.j1 (k + 1) y0 y1 y2 y3 y4 y5))
  | 0 => ⟨fun _ _ _ _ _ _ _ _ r h => by simp [quitrentlaw21_PlotTimes.l0] at h, fun _ _ _ _ _ _ r h => by simp [quitrentlaw21_PlotTimes.j1] at h⟩
  | k + 1 => by
    obtain ⟨ih0, ih1⟩ := quitrentlaw21_PlotTimes.mono_l k
    refine ⟨?_, ?_⟩
    · intro y0 y1 y2 y3 y4 y5 y6 y7
      unfold quitrentlaw21_PlotTimes.l0
      repeat' first
      | (with_reducible exact ih0 _ _ _ _ _ _ _ _)
      | (with_reducible exact ih1 _ _ _ _ _ _)
      | (with_reducible exact plot_Area.mono _ _)
      | (with_reducible exact plot_Times.mono _ _ _ _)
      | (with_reducible exact quitrentlaw21_awake.mono _)
      | (with_reducible exact quitrentlaw21_same.mono _ _ _)
      | (with_reducible exact LeO.refl _)
      | (with_reducible exact LeO.none _)
      | (with_reducible refine LeO.ite ?_ ?_)
      | (with_reducible refine LeO.bind ?_ (fun _ => ?_))
      | exact ih0 _ _ _ _ _ _ _ _
      | exact ih1 _ _ _ _ _ _
      | exact plot_Area.mono _ _
      | exact plot_Times.mono _ _ _ _
      | exact quitrentlaw21_awake.mono _
      | exact quitrentlaw21_same.mono _ _ _
      | exact LeO.none _
      | refine LeO.ite ?_ ?_
      | refine LeO.bind ?_ (fun _ => ?_)
    · intro y0 y1 y2 y3 y4 y5
      unfold quitrentlaw21_PlotTimes.j1
      repeat' first
      | (with_reducible exact ih0 _ _ _ _ _ _ _ _)
      | (with_reducible exact ih1 _ _ _ _ _ _)
      | (with_reducible exact plot_Area.mono _ _)
      | (with_reducible exact plot_Times.mono _ _ _ _)
      | (with_reducible exact quitrentlaw21_awake.mono _)
      | (with_reducible exact quitrentlaw21_same.mono _ _ _)
      | (with_reducible exact LeO.refl _)
      | (with_reducible exact LeO.none _)
      | (with_reducible refine LeO.ite ?_ ?_)
      | (with_reducible refine LeO.bind ?_ (fun _ => ?_))
      | exact ih0 _ _ _ _ _ _ _ _
      | exact ih1 _ _ _ _ _ _
      | exact plot_Area.mono _ _
      | exact plot_Times.mono _ _ _ _
      | exact quitrentlaw21_awake.mono _
      | exact quitrentlaw21_same.mono _ _ _
      | exact LeO.none _
      | refine LeO.ite ?_ ?_
      | refine LeO.bind ?_ (fun _ => ?_)
theorem quitrentlaw21_PlotTimes.mono : ∀ a0 a1 a2 a3 a4 k, LeO (quitrentlaw21_PlotTimes.f k a0 a1 a2 a3 a4) (quitrentlaw21_PlotTimes.f (k + 1) a0 a1 a2 a3 a4) := by
  intro a0 a1 a2 a3 a4 k
  obtain ⟨ih0, ih1⟩ := quitrentlaw21_PlotTimes.mono_l k
  unfold quitrentlaw21_PlotTimes.f
  repeat' first
      | (with_reducible exact ih0 _ _ _ _ _ _ _ _)
      | (with_reducible exact ih1 _ _ _ _ _ _)
      | (with_reducible exact plot_Area.mono _ _)
      | (with_reducible exact plot_Times.mono _ _ _ _)
      | (with_reducible exact quitrentlaw21_awake.mono _)
      | (with_reducible exact quitrentlaw21_same.mono _ _ _)
      | (with_reducible exact LeO.refl _)
      | (with_reducible exact LeO.none _)
      | (with_reducible refine LeO.ite ?_ ?_)
      | (with_reducible refine LeO.bind ?_ (fun _ => ?_))
      | exact ih0 _ _ _ _ _ _ _ _
      | exact ih1 _ _ _ _ _ _
      | exact plot_Area.mono _ _
      | exact plot_Times.mono _ _ _ _
      | exact quitrentlaw21_awake.mono _
      | exact quitrentlaw21_same.mono _ _ _
      | exact LeO.none _
      | refine LeO.ite ?_ ?_
      | refine LeO.bind ?_ (fun _ => ?_)
set_option maxHeartbeats 8000000 in
set_option maxRecDepth 100000 in
theorem quitrentlaw21_PlotTimes.calls (k : Nat) (A0 : Option Addr) (c0 : Nat) (l0 : List (S38)) (a1_0 : Int) (a1_1 : Int) (a2_0 : Int) (a2_1 : Int) (r : Bool) (w : World) (hr0 : Kd.C k38 w A0 l0.length l0) (hc0 : l0.length ≤ c0) (h : quitrentlaw21_PlotTimes.f k l0 a1_0 a1_1 a2_0 a2_1 = some r) :
    Calls Try.prog 10 #[.slice A0 l0.length c0, .agg #[.int .i64 a1_0, .int .i64 a1_1], .agg #[.int .i64 a2_0, .int .i64 a2_1]] w fun e w' => e = .returned (.bool r) ∧ Below w.heap.size w w' := by
  have hu38 := Try.underlying38
  have HR0 := Aside0.mk hr0
  have HC0 := Aside0.mk hc0
  clear hr0 hc0
  have HB := Aside0.mk (Below.refl w.heap.size w)
  have H : ((quitrentlaw21_awake.f k).bind fun t430 => (if t430 = true then (if (l0.length : Int) > 50 then (some true) else ((some (([(⟨wrap64 (33 * a1_0), wrap64 (33 * a1_1)⟩ : S38), (⟨wrap64 (33 * a2_0), wrap64 (33 * a2_1)⟩ : S38)] : List (S38)) : List (S38))).bind fun y431 => (if y431.length + l0.length < 8796093022208 then ((some (y431 ++ l0 : List (S38))).bind fun y434 => (quitrentlaw21_PlotTimes.l0 k l0 y434 (y434.length : Int) 0 a1_0 a1_1 a2_0 a2_1)) else (none)))) else (none))) = some r := h
  clear h
  replace H := Option.bind_eq_some_iff.mp H
  obtain ⟨t430, A40, H⟩ := H
  replace H : (if t430 = true then (if (l0.length : Int) > 50 then (some true) else ((some (([(⟨wrap64 (33 * a1_0), wrap64 (33 * a1_1)⟩ : S38), (⟨wrap64 (33 * a2_0), wrap64 (33 * a2_1)⟩ : S38)] : List (S38)) : List (S38))).bind fun y431 => (if y431.length + l0.length < 8796093022208 then ((some (y431 ++ l0 : List (S38))).bind fun y434 => (quitrentlaw21_PlotTimes.l0 k l0 y434 (y434.length : Int) 0 a1_0 a1_1 a2_0 a2_1)) else (none)))) else (none)) = some r := H
  have A4 := Aside0.mk A40
  clear A40
  by_cases c5 : t430 = true
  · subst c5
    have H1 : (if (l0.length : Int) > 50 then (some true) else ((some (([(⟨wrap64 (33 * a1_0), wrap64 (33 * a1_1)⟩ : S38), (⟨wrap64 (33 * a2_0), wrap64 (33 * a2_1)⟩ : S38)] : List (S38)) : List (S38))).bind fun y431 => (if y431.length + l0.length < 8796093022208 then ((some (y431 ++ l0 : List (S38))).bind fun y434 => (quitrentlaw21_PlotTimes.l0 k l0 y434 (y434.length : Int) 0 a1_0 a1_1 a2_0 a2_1)) else (none)))) = some r := by rw [if_pos rfl] at H; exact H
    clear H
    have H := H1
    clear H1
    by_cases c6 : (l0.length : Int) > 50
    · rw [if_pos c6] at H
      have c6b0 : decide (50 < (l0.length : Int)) = true := decide_eq_true c6
      have c6b1 : decide (50 < l0.length) = true := decide_eq_true (by omega)
      clear c6
      obtain rfl := Option.some.inj H
      go_enter Try.func10, Try.ntmps10
      go_wp2_with (first | ((with_reducible refine gate_dst (N := 4) rfl ?_); refine box_event ?hg (N := 4) ?hd (cs := #[.int .i64 a1_0, .int .i64 a1_1]) (t := 38) ?hr ?_; (case hd => rfl); (case hg => rfl); (case hr => first | (go_simp; done) | (go_simp; rfl)); intro gb428 hg w7 hbox hb; have n0_ := Aside0.mk (below_step (by repeat (first | (with_reducible first | exact HB.out | apply below_alloc | apply pw_below_drewN | apply below_drew1) | exact HB.out)) hb); have n1_ := Aside0.mk (hbox); have n2_ := Aside0.mk ((by rw [hg]; exact (below_size (by repeat (first | (with_reducible first | exact HB.out | apply below_alloc | apply pw_below_drewN | apply below_drew1) | exact HB.out))) : w.heap.size ≤ gb428)); have n3_ := Aside0.mk ((by rw [hg]; exact (below_size (by repeat (first | (with_reducible first | exact HB.out | apply below_alloc | apply pw_below_drewN | apply below_drew1) | exact HB.out))) : w.heap.size ≤ gb428)); clear HB; have HB := n0_; have BK428 := n1_; have GW428 := n2_; have GE428 := n3_; clear n0_ n1_ n2_ n3_; clear hb hbox hg) | ((with_reducible refine gate_dst (N := 5) rfl ?_); refine box_event ?hg (N := 5) ?hd (cs := #[.int .i64 a2_0, .int .i64 a2_1]) (t := 38) ?hr ?_; (case hd => rfl); (case hg => rfl); (case hr => first | (go_simp; done) | (go_simp; rfl)); intro gb429 hg w8 hbox hb; have n0_ := Aside0.mk (blk_below (g := gb428) (o := .cells #[.int .i64 a1_0, .int .i64 a1_1] 38 (0, 0)) (by (with_reducible repeat (first | refine blk_drewN ?_ _ | refine blk_drew ?_ | refine blk_alloc ?_ _)); exact BK428.out) hb); have n1_ := Aside0.mk (below_step (by repeat (first | (with_reducible first | exact HB.out | apply below_alloc | apply pw_below_drewN | apply below_drew1 | refine below_set ?_ GE428.out) | exact HB.out)) hb); have n2_ := Aside0.mk (hbox); have n3_ := Aside0.mk ((by rw [hg]; exact (below_size (by repeat (first | (with_reducible first | exact HB.out | apply below_alloc | apply pw_below_drewN | apply below_drew1 | refine below_set ?_ GE428.out) | exact HB.out))) : w.heap.size ≤ gb429)); have n4_ := Aside0.mk ((by rw [hg]; exact (below_size (by repeat (first | (with_reducible first | exact HB.out | apply below_alloc | apply pw_below_drewN | apply below_drew1 | refine below_set ?_ GE428.out) | exact HB.out))) : w.heap.size ≤ gb429)); have n5_ := Aside0.mk ((by rw [hg]; exact Nat.ne_of_lt (blk_lt (g := gb428) (o := .cells #[.int .i64 a1_0, .int .i64 a1_1] 38 (0, 0)) (by (with_reducible repeat (first | refine blk_drewN ?_ _ | refine blk_drew ?_ | refine blk_alloc ?_ _)); exact BK428.out)) : gb428 ≠ gb429)); have n6_ := Aside0.mk ((by rw [hg]; exact Nat.ne_of_gt (blk_lt (g := gb428) (o := .cells #[.int .i64 a1_0, .int .i64 a1_1] 38 (0, 0)) (by (with_reducible repeat (first | refine blk_drewN ?_ _ | refine blk_drew ?_ | refine blk_alloc ?_ _)); exact BK428.out)) : gb429 ≠ gb428)); clear BK428; clear HB; have BK428 := n0_; have HB := n1_; have BK429 := n2_; have GW429 := n3_; have GE429 := n4_; have NB428_429 := n5_; have NB429_428 := n6_; clear n0_ n1_ n2_ n3_ n4_ n5_ n6_; clear hb hbox hg) | ((with_reducible refine gate_callee (f := 27) rfl ?_); refine goesL_ (some 21) rfl rfl Try.func27 (by kernel_rfl) rfl #[] rfl (by (try simp only [List.map_toArray, List.map_cons, List.map_nil]); first | done | rfl | (simp only [List.length_drop, List.length_take]; rfl)) ?_; (with_reducible refine (quitrentlaw21_awake.calls k  true _ A4.out).mono ?_); rintro e w9 ⟨rfl, hb⟩; refine ⟨_, rfl, ?_⟩; have n0_ := Aside0.mk (blk_below (g := gb428) (o := .cells #[.int .i64 a1_0, .int .i64 a1_1] 38 (0, 0)) (by (with_reducible repeat (first | refine blk_drewN ?_ _ | refine blk_drew ?_ | refine blk_alloc ?_ _)); exact BK428.out) hb); have n1_ := Aside0.mk (blk_below (g := gb429) (o := .cells #[.int .i64 a2_0, .int .i64 a2_1] 38 (0, 0)) (by (with_reducible repeat (first | refine blk_drewN ?_ _ | refine blk_drew ?_ | refine blk_alloc ?_ _)); exact BK429.out) hb); have n2_ := Aside0.mk (below_step (by repeat (first | (with_reducible first | exact HB.out | apply below_alloc | apply pw_below_drewN | apply below_drew1 | refine below_set ?_ GE428.out | refine below_set ?_ GE429.out) | exact HB.out)) hb); clear BK428; clear BK429; clear HB; have BK428 := n0_; have BK429 := n1_; have HB := n2_; clear n0_ n1_ n2_; (try clear hb); (try clear hb2); (try clear hk); (try clear hi)))
      go_ret
      exact ⟨by first | rfl | (simp [errW_none, errW_some] <;> rfl) | (simp [*, errW_none, errW_some] <;> rfl), by repeat (first | (with_reducible first | exact HB.out | apply below_alloc | apply pw_below_drewN | apply below_drew1 | refine below_set ?_ GE428.out | refine below_set ?_ GE429.out) | exact HB.out)⟩
    · rw [if_neg c6] at H
      have c6b0 : decide (50 < (l0.length : Int)) = false := decide_eq_false c6
      have c6b1 : decide (50 < l0.length) = false := decide_eq_false (by omega)
      clear c6
      obtain ⟨y431, hy431⟩ : ∃ y_ : List (S38), y_ = (([(⟨wrap64 (33 * a1_0), wrap64 (33 * a1_1)⟩ : S38), (⟨wrap64 (33 * a2_0), wrap64 (33 * a2_1)⟩ : S38)] : List (S38))) := ⟨_, rfl⟩
      replace H : (if y431.length + l0.length < 8796093022208 then ((some (y431 ++ l0 : List (S38))).bind fun y434 => (quitrentlaw21_PlotTimes.l0 k l0 y434 (y434.length : Int) 0 a1_0 a1_1 a2_0 a2_1)) else (none)) = some r := by first | (rw [hy431]; with_reducible exact H) | (have H2_ := (Option.bind_some _ _).symm.trans H; rw [hy431]; with_reducible exact H2_) | (have H2_ := (Option.bind_some _ _).symm.trans H; with_reducible exact H2_) | with_reducible exact H | (rw [hy431]; exact H) | exact H
      have Ny431 := Aside0.mk hy431
      clear hy431
      by_cases c10 : y431.length + l0.length < 8796093022208
      · rw [if_pos c10] at H
        have LMc10 := Aside0.mk c10
        clear c10
        obtain ⟨y434, hy434⟩ : ∃ y_ : List (S38), y_ = (y431 ++ l0) := ⟨_, rfl⟩
        replace H : (quitrentlaw21_PlotTimes.l0 k l0 y434 (y434.length : Int) 0 a1_0 a1_1 a2_0 a2_1) = some r := by first | (rw [hy434]; with_reducible exact H) | (have H2_ := (Option.bind_some _ _).symm.trans H; rw [hy434]; with_reducible exact H2_) | (have H2_ := (Option.bind_some _ _).symm.trans H; with_reducible exact H2_) | with_reducible exact H | (rw [hy434]; exact H) | exact H
        have Ny434 := Aside0.mk hy434
        clear hy434
        have H' := Aside0.mk H
        clear H
        go_enter Try.func10, Try.ntmps10
        go_wp2_with (first | ((with_reducible refine gate_dst (N := 4) rfl ?_); refine box_event ?hg (N := 4) ?hd (cs := #[.int .i64 a1_0, .int .i64 a1_1]) (t := 38) ?hr ?_; (case hd => rfl); (case hg => rfl); (case hr => first | (go_simp; done) | (go_simp; rfl)); intro gb428 hg w11 hbox hb; have n0_ := Aside0.mk (below_step (by repeat (first | (with_reducible first | exact HB.out | apply below_alloc | apply pw_below_drewN | apply below_drew1) | exact HB.out)) hb); have n1_ := Aside0.mk (hbox); have n2_ := Aside0.mk ((by rw [hg]; exact (below_size (by repeat (first | (with_reducible first | exact HB.out | apply below_alloc | apply pw_below_drewN | apply below_drew1) | exact HB.out))) : w.heap.size ≤ gb428)); have n3_ := Aside0.mk ((by rw [hg]; exact (below_size (by repeat (first | (with_reducible first | exact HB.out | apply below_alloc | apply pw_below_drewN | apply below_drew1) | exact HB.out))) : w.heap.size ≤ gb428)); clear HB; have HB := n0_; have BK428 := n1_; have GW428 := n2_; have GE428 := n3_; clear n0_ n1_ n2_ n3_; clear hb hbox hg) | ((with_reducible refine gate_dst (N := 5) rfl ?_); refine box_event ?hg (N := 5) ?hd (cs := #[.int .i64 a2_0, .int .i64 a2_1]) (t := 38) ?hr ?_; (case hd => rfl); (case hg => rfl); (case hr => first | (go_simp; done) | (go_simp; rfl)); intro gb429 hg w12 hbox hb; have n0_ := Aside0.mk (blk_below (g := gb428) (o := .cells #[.int .i64 a1_0, .int .i64 a1_1] 38 (0, 0)) (by (with_reducible repeat (first | refine blk_drewN ?_ _ | refine blk_drew ?_ | refine blk_alloc ?_ _)); exact BK428.out) hb); have n1_ := Aside0.mk (below_step (by repeat (first | (with_reducible first | exact HB.out | apply below_alloc | apply pw_below_drewN | apply below_drew1 | refine below_set ?_ GE428.out) | exact HB.out)) hb); have n2_ := Aside0.mk (hbox); have n3_ := Aside0.mk ((by rw [hg]; exact (below_size (by repeat (first | (with_reducible first | exact HB.out | apply below_alloc | apply pw_below_drewN | apply below_drew1 | refine below_set ?_ GE428.out) | exact HB.out))) : w.heap.size ≤ gb429)); have n4_ := Aside0.mk ((by rw [hg]; exact (below_size (by repeat (first | (with_reducible first | exact HB.out | apply below_alloc | apply pw_below_drewN | apply below_drew1 | refine below_set ?_ GE428.out) | exact HB.out))) : w.heap.size ≤ gb429)); have n5_ := Aside0.mk ((by rw [hg]; exact Nat.ne_of_lt (blk_lt (g := gb428) (o := .cells #[.int .i64 a1_0, .int .i64 a1_1] 38 (0, 0)) (by (with_reducible repeat (first | refine blk_drewN ?_ _ | refine blk_drew ?_ | refine blk_alloc ?_ _)); exact BK428.out)) : gb428 ≠ gb429)); have n6_ := Aside0.mk ((by rw [hg]; exact Nat.ne_of_gt (blk_lt (g := gb428) (o := .cells #[.int .i64 a1_0, .int .i64 a1_1] 38 (0, 0)) (by (with_reducible repeat (first | refine blk_drewN ?_ _ | refine blk_drew ?_ | refine blk_alloc ?_ _)); exact BK428.out)) : gb429 ≠ gb428)); clear BK428; clear HB; have BK428 := n0_; have HB := n1_; have BK429 := n2_; have GW429 := n3_; have GE429 := n4_; have NB428_429 := n5_; have NB429_428 := n6_; clear n0_ n1_ n2_ n3_ n4_ n5_ n6_; clear hb hbox hg) | ((with_reducible refine gate_callee (f := 27) rfl ?_); refine goesL_ (some 21) rfl rfl Try.func27 (by kernel_rfl) rfl #[] rfl (by (try simp only [List.map_toArray, List.map_cons, List.map_nil]); first | done | rfl | (simp only [List.length_drop, List.length_take]; rfl)) ?_; (with_reducible refine (quitrentlaw21_awake.calls k  true _ A4.out).mono ?_); rintro e w13 ⟨rfl, hb⟩; refine ⟨_, rfl, ?_⟩; have n0_ := Aside0.mk (blk_below (g := gb428) (o := .cells #[.int .i64 a1_0, .int .i64 a1_1] 38 (0, 0)) (by (with_reducible repeat (first | refine blk_drewN ?_ _ | refine blk_drew ?_ | refine blk_alloc ?_ _)); exact BK428.out) hb); have n1_ := Aside0.mk (blk_below (g := gb429) (o := .cells #[.int .i64 a2_0, .int .i64 a2_1] 38 (0, 0)) (by (with_reducible repeat (first | refine blk_drewN ?_ _ | refine blk_drew ?_ | refine blk_alloc ?_ _)); exact BK429.out) hb); have n2_ := Aside0.mk (below_step (by repeat (first | (with_reducible first | exact HB.out | apply below_alloc | apply pw_below_drewN | apply below_drew1 | refine below_set ?_ GE428.out | refine below_set ?_ GE429.out) | exact HB.out)) hb); clear BK428; clear BK429; clear HB; have BK428 := n0_; have BK429 := n1_; have HB := n2_; clear n0_ n1_ n2_; (try clear hb); (try clear hb2); (try clear hk); (try clear hi); have hnb14 := NB428_429.out; have hnc14 := NB429_428.out; have hcz15_0 : w13.cell? ⟨gb428, 0, none⟩ = some (.int .i64 a1_0) := (blk_cell BK428.out 0).trans rfl; have hcz15_1 : w13.cell? ⟨gb428, 1, none⟩ = some (.int .i64 a1_1) := (blk_cell BK428.out 1).trans rfl; have hfz15_0 := blk_frozen BK428.out 0; have hfz15_1 := blk_frozen BK428.out 1; have hcz16_0 : w13.cell? ⟨gb429, 0, none⟩ = some (.int .i64 a2_0) := (blk_cell BK429.out 0).trans rfl; have hcz16_1 : w13.cell? ⟨gb429, 1, none⟩ = some (.int .i64 a2_1) := (blk_cell BK429.out 1).trans rfl; have hfz16_0 := blk_frozen BK429.out 0; have hfz16_1 := blk_frozen BK429.out 1) | ((with_reducible refine gate_dst (N := 40) rfl ?_); refine Kd.R_lit k38 _ 38 ?hg (N := 40) ?hd (xs := ([(⟨wrap64 (33 * a1_0), wrap64 (33 * a1_1)⟩ : S38), (⟨wrap64 (33 * a2_0), wrap64 (33 * a2_1)⟩ : S38)] : List (S38))) (inner := [.int .i64 (wrap64 (33 * a1_0)), .int .i64 (wrap64 (33 * a1_1)), .int .i64 (wrap64 (33 * a2_0)), .int .i64 (wrap64 (33 * a2_1))]) (ok := fun _ => True) (okp := fun _ => True) ?hr ?hp (fun _ hk => hk) trivial (Below.refl _ _) (Nat.le_refl _) (by simp) ?_; (case hd => rfl); (case hg => rfl); (case hr => first | (go_simp; done) | (go_simp; rfl)); (case hp => exact (Reps.c2 (show Kd.M k38 _ _ _ (⟨wrap64 (33 * a1_0), wrap64 (33 * a1_1)⟩ : S38) [.int .i64 (wrap64 (33 * a1_0)), .int .i64 (wrap64 (33 * a1_1))] from (k38_mkM _ _ _ (⟨wrap64 (33 * a1_0), wrap64 (33 * a1_1)⟩ : S38) )) (Reps.c2 (show Kd.M k38 _ _ _ (⟨wrap64 (33 * a2_0), wrap64 (33 * a2_1)⟩ : S38) [.int .i64 (wrap64 (33 * a2_0)), .int .i64 (wrap64 (33 * a2_1))] from (k38_mkM _ _ _ (⟨wrap64 (33 * a2_0), wrap64 (33 * a2_1)⟩ : S38) )) (Reps.none _ _)))); intro v432 w17 ho18 hb hg_ hnew_; clear hg_ hnew_; (first | rw [← Ny431.out] at ho18 | (simp only [Int.reduceToNat] at ho18; rw [← Ny431.out] at ho18)); have n0_ := Aside0.mk (Kd.R_lower (Kd.R_newB (Kd.R_newB ho18 (g := gb428) (o := .cells #[.int .i64 a1_0, .int .i64 a1_1] 38 (0, 0)) (by (with_reducible repeat (first | refine blk_drewN ?_ _ | refine blk_drew ?_ | refine blk_alloc ?_ _)); exact BK428.out)) (g := gb429) (o := .cells #[.int .i64 a2_0, .int .i64 a2_1] 38 (0, 0)) (by (with_reducible repeat (first | refine blk_drewN ?_ _ | refine blk_drew ?_ | refine blk_alloc ?_ _)); exact BK429.out)) (below_size (by repeat (first | (with_reducible first | exact HB.out | apply below_alloc | apply pw_below_drewN | apply below_drew1 | refine below_set ?_ GE428.out | refine below_set ?_ GE429.out) | exact HB.out)))); have n1_ := Aside0.mk (blk_below (g := gb428) (o := .cells #[.int .i64 a1_0, .int .i64 a1_1] 38 (0, 0)) (by (with_reducible repeat (first | refine blk_drewN ?_ _ | refine blk_drew ?_ | refine blk_alloc ?_ _)); exact BK428.out) hb); have n2_ := Aside0.mk (blk_below (g := gb429) (o := .cells #[.int .i64 a2_0, .int .i64 a2_1] 38 (0, 0)) (by (with_reducible repeat (first | refine blk_drewN ?_ _ | refine blk_drew ?_ | refine blk_alloc ?_ _)); exact BK429.out) hb); have n3_ := Aside0.mk (below_step (by repeat (first | (with_reducible first | exact HB.out | apply below_alloc | apply pw_below_drewN | apply below_drew1 | refine below_set ?_ GE428.out | refine below_set ?_ GE429.out) | exact HB.out)) hb); clear BK428; clear BK429; clear HB; have HO433 := n0_; have BK428 := n1_; have BK429 := n2_; have HB := n3_; clear n0_ n1_ n2_ n3_; clear hb ho18) | ((with_reducible refine gate_builtin (b := .append) (xs := #[.tmp 40, .tmp 41]) rfl ?_); at_builtin; refine Kd.R_append_rows k38 (w0 := w) w.heap.size rfl (.tmp 40) (.tmp 41) 36 38 (.agg #[(.int .i64 0), (.int .i64 0)]) 16 rfl Try.underlying36 info38 rfl (by decide) (by omega) v432 y431 l0 _ _ _ (fun k_ => k_ ≠ gb428 ∧ k_ ≠ gb429) (fun _ => False) rfl rfl ?aO ?aR (fun _ _ h => h) (fun _ h => h.elim) ?aF ?aB ?aS ?aL ?_; (case aR => repeat (first | exact (Kd.C_below HR0.out HB.out) | (with_reducible refine Kd.C_alloc ?_ _) | (with_reducible refine Kd.C_drewN ?_ _) | (with_reducible refine Kd.C_drew ?_))); (case aB => exact (by repeat (first | (with_reducible first | exact HB.out | apply below_alloc | apply pw_below_drewN | apply below_drew1 | refine below_set ?_ GE428.out | refine below_set ?_ GE429.out) | exact HB.out))); (case aF => exact (fun k_ hk => ⟨Kd.freshB (g := gb428) (o := .cells #[.int .i64 a1_0, .int .i64 a1_1] 38 (0, 0)) (by (with_reducible repeat (first | refine blk_drewN ?_ _ | refine blk_drew ?_ | refine blk_alloc ?_ _)); exact BK428.out) k_ hk, Kd.freshB (g := gb429) (o := .cells #[.int .i64 a2_0, .int .i64 a2_1] 38 (0, 0)) (by (with_reducible repeat (first | refine blk_drewN ?_ _ | refine blk_drew ?_ | refine blk_alloc ?_ _)); exact BK429.out) k_ hk⟩)); (case aO => exact (by (with_reducible repeat (first | apply Kd.R_alloc | apply Kd.R_drewN | apply Kd.R_drew)); exact Kd.R_mono HO433.out (fun _ hk => ⟨hk.1.2, hk.2⟩))); (case aS => exact (below_size (by repeat (first | (with_reducible first | exact HB.out | apply below_alloc | apply pw_below_drewN | apply below_drew1 | refine below_set ?_ GE428.out | refine below_set ?_ GE429.out) | exact HB.out)))); (case aL => have := LMc10.out; omega); intro v435 w19 ho hb hg hat; rw [← Ny434.out] at ho; have n0_ := Aside0.mk (blk_grown (g := gb428) (o := .cells #[.int .i64 a1_0, .int .i64 a1_1] 38 (0, 0)) (by (with_reducible repeat (first | refine blk_drewN ?_ _ | refine blk_drew ?_ | refine blk_alloc ?_ _)); exact BK428.out) hg (Kd.R_away HO433.out (fun _ hk => hk.1.2))); have n1_ := Aside0.mk (blk_grown (g := gb429) (o := .cells #[.int .i64 a2_0, .int .i64 a2_1] 38 (0, 0)) (by (with_reducible repeat (first | refine blk_drewN ?_ _ | refine blk_drew ?_ | refine blk_alloc ?_ _)); exact BK429.out) hg (Kd.R_away HO433.out (fun _ hk => hk.2))); have n2_ := Aside0.mk (hb); have n3_ := Aside0.mk (ho); clear BK428; clear BK429; clear HB; clear HO433; have BK428 := n0_; have BK429 := n1_; have HB := n2_; have HO436 := n3_; clear n0_ n1_ n2_ n3_; clear ho hb hg hat; obtain ⟨Ao20, co20, eo20⟩ := Kd.R_slice HO436.out; subst eo20))
        go_loopg [44] k (fun kq v44 w' => ∃ (x44_1 : Int), v44 = .int .i64 x44_1 ∧ Aside0 (quitrentlaw21_PlotTimes.l0 kq l0 y434 (y434.length : Int) x44_1 a1_0 a1_1 a2_0 a2_1 = some r) ∧ Aside0 (kq ≤ k) ∧ Aside0 (Kd.R k38 38 w' w.heap.size (fun k_ => k_ ≠ gb428 ∧ k_ ≠ gb429) (.slice Ao20 y434.length co20) y434) ∧ Aside0 (w'.heap[gb428]? = some (.cells #[.int .i64 a1_0, .int .i64 a1_1] 38 (0, 0))) ∧ Aside0 (w'.heap[gb429]? = some (.cells #[.int .i64 a2_0, .int .i64 a2_1] 38 (0, 0))) ∧ Aside0 (Below w.heap.size w w'))
        case atStart => exact ⟨(0), (by first | rfl | (simp; done) | (simp [*]; done)), H', ⟨Nat.le_refl _⟩, ⟨by (with_reducible repeat (first | apply Kd.R_alloc | apply Kd.R_drewN | apply Kd.R_drew)); exact HO436.out⟩, ⟨by (with_reducible repeat (first | refine blk_drewN ?_ _ | refine blk_drew ?_ | refine blk_alloc ?_ _)); exact BK428.out⟩, ⟨by (with_reducible repeat (first | refine blk_drewN ?_ _ | refine blk_drew ?_ | refine blk_alloc ?_ _)); exact BK429.out⟩, ⟨by repeat (first | (with_reducible first | exact HB.out | apply below_alloc | apply pw_below_drewN | apply below_drew1 | refine below_set ?_ GE428.out | refine below_set ?_ GE429.out) | exact HB.out)⟩⟩
        case round =>
          clear H'
          try clear c1
          try clear c2
          try clear p2
          try clear c5
          try clear c6
          try clear c6b0
          try clear c6b1
          try clear p6
          try clear c10
          try clear c14
          try clear hcz15_0
          try clear hcz15_1
          try clear hcz16_0
          try clear hcz16_1
          try clear hfz15_0
          try clear hfz15_1
          try clear hfz16_0
          try clear hfz16_1
          obtain ⟨x44_1, rfl, HA, HK1, HO_42, BK428, BK429, HB⟩ := hrel
          cases gk with
          | zero => exact absurd HA.out (by simp [quitrentlaw21_PlotTimes.l0])
          | succ k1 =>
            have H := HA.out
            clear HA
            simp only [quitrentlaw21_PlotTimes.l0] at H
            by_cases c21 : x44_1 < (y434.length : Int)
            · rw [if_pos c21] at H
              have c21b0 : decide (x44_1 < (y434.length : Int)) = true := decide_eq_true c21
              clear c21
              by_cases c22 : 0 ≤ x44_1
              · rw [if_pos c22] at H
                have c22b0 : decide (0 ≤ x44_1) = true := decide_eq_true c22
                clear c22
                by_cases c23 : x44_1 < (y434.length : Int)
                · rw [if_pos c23] at H
                  have c23b0 : decide (x44_1 < (y434.length : Int)) = true := decide_eq_true c23
                  clear c23
                  by_cases c24 : ((rd_T38 y434 x44_1).f0) < (-1000)
                  · rw [if_pos c24] at H
                    have c24b0 : decide (((rd_T38 y434 x44_1).f0) < (-1000)) = true := decide_eq_true c24
                    clear c24
                    obtain rfl := Option.some.inj H
                    have p437 : 0 ≤ (x44_1 : Int) := of_decide_eq_true (by first | (with_reducible assumption) | assumption)
                    have q437 : x44_1 < (y434.length : Int) := of_decide_eq_true (by first | (with_reducible assumption) | assumption)
                    obtain ⟨ad437, e437, hx437_0, hx437_1⟩ := at_T38 (Kd.R_reads' HO_42.out).2.2 x44_1 p437 q437
                    cases e437
                    replace p437 := eq_true p437
                    replace q437 := eq_true q437
                    go_wp2_with (first | ((with_reducible refine gate_dst (N := 8) rfl ?_); refine box_event ?hg (N := 8) ?hd (cs := #[.int .i64 0, .int .i64 0]) (t := 38) ?hr ?_; (case hd => rfl); (case hg => rfl); (case hr => first | (go_simp; done) | (go_simp; rfl)); intro gb438 hg w25 hbox hb; have n0_ := Aside0.mk (Kd.R_below (Kd.R_elderB (by (with_reducible repeat (first | apply Kd.R_alloc | apply Kd.R_drewN | apply Kd.R_drew)); exact HO_42.out) gb438 (Nat.le_of_eq hg.symm)) hb); have n1_ := Aside0.mk (blk_below (g := gb428) (o := .cells #[.int .i64 a1_0, .int .i64 a1_1] 38 (0, 0)) (by (with_reducible repeat (first | refine blk_drewN ?_ _ | refine blk_drew ?_ | refine blk_alloc ?_ _)); exact BK428.out) hb); have n2_ := Aside0.mk (blk_below (g := gb429) (o := .cells #[.int .i64 a2_0, .int .i64 a2_1] 38 (0, 0)) (by (with_reducible repeat (first | refine blk_drewN ?_ _ | refine blk_drew ?_ | refine blk_alloc ?_ _)); exact BK429.out) hb); have n3_ := Aside0.mk (below_step (by repeat (first | (with_reducible first | exact HB.out | apply below_alloc | apply pw_below_drewN | apply below_drew1 | refine below_set ?_ GE428.out | refine below_set ?_ GE429.out) | exact HB.out)) hb); have n4_ := Aside0.mk (hbox); have n5_ := Aside0.mk ((by rw [hg]; exact (below_size (by repeat (first | (with_reducible first | exact HB.out | apply below_alloc | apply pw_below_drewN | apply below_drew1 | refine below_set ?_ GE428.out | refine below_set ?_ GE429.out) | exact HB.out))) : w.heap.size ≤ gb438)); have n6_ := Aside0.mk ((by rw [hg]; exact (below_size (by repeat (first | (with_reducible first | exact HB.out | apply below_alloc | apply pw_below_drewN | apply below_drew1 | refine below_set ?_ GE428.out | refine below_set ?_ GE429.out) | exact HB.out))) : w.heap.size ≤ gb438)); have n7_ := Aside0.mk ((by rw [hg]; exact Nat.ne_of_lt (blk_lt (g := gb428) (o := .cells #[.int .i64 a1_0, .int .i64 a1_1] 38 (0, 0)) (by (with_reducible repeat (first | refine blk_drewN ?_ _ | refine blk_drew ?_ | refine blk_alloc ?_ _)); exact BK428.out)) : gb428 ≠ gb438)); have n8_ := Aside0.mk ((by rw [hg]; exact Nat.ne_of_gt (blk_lt (g := gb428) (o := .cells #[.int .i64 a1_0, .int .i64 a1_1] 38 (0, 0)) (by (with_reducible repeat (first | refine blk_drewN ?_ _ | refine blk_drew ?_ | refine blk_alloc ?_ _)); exact BK428.out)) : gb438 ≠ gb428)); have n9_ := Aside0.mk ((by rw [hg]; exact Nat.ne_of_lt (blk_lt (g := gb429) (o := .cells #[.int .i64 a2_0, .int .i64 a2_1] 38 (0, 0)) (by (with_reducible repeat (first | refine blk_drewN ?_ _ | refine blk_drew ?_ | refine blk_alloc ?_ _)); exact BK429.out)) : gb429 ≠ gb438)); have n10_ := Aside0.mk ((by rw [hg]; exact Nat.ne_of_gt (blk_lt (g := gb429) (o := .cells #[.int .i64 a2_0, .int .i64 a2_1] 38 (0, 0)) (by (with_reducible repeat (first | refine blk_drewN ?_ _ | refine blk_drew ?_ | refine blk_alloc ?_ _)); exact BK429.out)) : gb438 ≠ gb429)); clear HO_42; clear BK428; clear BK429; clear HB; have HO_42 := n0_; have BK428 := n1_; have BK429 := n2_; have HB := n3_; have BK438 := n4_; have GW438 := n5_; have GE438 := n6_; have NB428_438 := n7_; have NB438_428 := n8_; have NB429_438 := n9_; have NB438_429 := n10_; clear n0_ n1_ n2_ n3_ n4_ n5_ n6_ n7_ n8_ n9_ n10_; clear hb hbox hg; have hnb26 := NB438_428.out; have hnc26 := NB428_438.out; have hnb27 := NB438_429.out; have hnc27 := NB429_438.out; have hcz28_0 : w25.cell? ⟨gb438, 0, none⟩ = some (.int .i64 0) := (blk_cell BK438.out 0).trans rfl; have hcz28_1 : w25.cell? ⟨gb438, 1, none⟩ = some (.int .i64 0) := (blk_cell BK438.out 1).trans rfl; have hfz28_0 := blk_frozen BK438.out 0; have hfz28_1 := blk_frozen BK438.out 1))
                    go_ret
                    exact ⟨by first | rfl | (simp [errW_none, errW_some] <;> rfl) | (simp [*, errW_none, errW_some] <;> rfl), by repeat (first | (with_reducible first | exact HB.out | apply below_alloc | apply pw_below_drewN | apply below_drew1 | refine below_set ?_ GE428.out | refine below_set ?_ GE429.out | refine below_set ?_ GE438.out) | exact HB.out)⟩
                  · rw [if_neg c24] at H
                    have c24b0 : decide (((rd_T38 y434 x44_1).f0) < (-1000)) = false := decide_eq_false c24
                    clear c24
                    by_cases c29 : ((rd_T38 y434 x44_1).f0) > 1000
                    · rw [if_pos c29] at H
                      have c29b0 : decide (1000 < ((rd_T38 y434 x44_1).f0)) = true := decide_eq_true c29
                      clear c29
                      obtain rfl := Option.some.inj H
                      have p437 : 0 ≤ (x44_1 : Int) := of_decide_eq_true (by first | (with_reducible assumption) | assumption)
                      have q437 : x44_1 < (y434.length : Int) := of_decide_eq_true (by first | (with_reducible assumption) | assumption)
                      obtain ⟨ad437, e437, hx437_0, hx437_1⟩ := at_T38 (Kd.R_reads' HO_42.out).2.2 x44_1 p437 q437
                      cases e437
                      replace p437 := eq_true p437
                      replace q437 := eq_true q437
                      go_wp2_with (first | ((with_reducible refine gate_dst (N := 8) rfl ?_); refine box_event ?hg (N := 8) ?hd (cs := #[.int .i64 0, .int .i64 0]) (t := 38) ?hr ?_; (case hd => rfl); (case hg => rfl); (case hr => first | (go_simp; done) | (go_simp; rfl)); intro gb438 hg w30 hbox hb; have n0_ := Aside0.mk (Kd.R_below (Kd.R_elderB (by (with_reducible repeat (first | apply Kd.R_alloc | apply Kd.R_drewN | apply Kd.R_drew)); exact HO_42.out) gb438 (Nat.le_of_eq hg.symm)) hb); have n1_ := Aside0.mk (blk_below (g := gb428) (o := .cells #[.int .i64 a1_0, .int .i64 a1_1] 38 (0, 0)) (by (with_reducible repeat (first | refine blk_drewN ?_ _ | refine blk_drew ?_ | refine blk_alloc ?_ _)); exact BK428.out) hb); have n2_ := Aside0.mk (blk_below (g := gb429) (o := .cells #[.int .i64 a2_0, .int .i64 a2_1] 38 (0, 0)) (by (with_reducible repeat (first | refine blk_drewN ?_ _ | refine blk_drew ?_ | refine blk_alloc ?_ _)); exact BK429.out) hb); have n3_ := Aside0.mk (below_step (by repeat (first | (with_reducible first | exact HB.out | apply below_alloc | apply pw_below_drewN | apply below_drew1 | refine below_set ?_ GE428.out | refine below_set ?_ GE429.out) | exact HB.out)) hb); have n4_ := Aside0.mk (hbox); have n5_ := Aside0.mk ((by rw [hg]; exact (below_size (by repeat (first | (with_reducible first | exact HB.out | apply below_alloc | apply pw_below_drewN | apply below_drew1 | refine below_set ?_ GE428.out | refine below_set ?_ GE429.out) | exact HB.out))) : w.heap.size ≤ gb438)); have n6_ := Aside0.mk ((by rw [hg]; exact (below_size (by repeat (first | (with_reducible first | exact HB.out | apply below_alloc | apply pw_below_drewN | apply below_drew1 | refine below_set ?_ GE428.out | refine below_set ?_ GE429.out) | exact HB.out))) : w.heap.size ≤ gb438)); have n7_ := Aside0.mk ((by rw [hg]; exact Nat.ne_of_lt (blk_lt (g := gb428) (o := .cells #[.int .i64 a1_0, .int .i64 a1_1] 38 (0, 0)) (by (with_reducible repeat (first | refine blk_drewN ?_ _ | refine blk_drew ?_ | refine blk_alloc ?_ _)); exact BK428.out)) : gb428 ≠ gb438)); have n8_ := Aside0.mk ((by rw [hg]; exact Nat.ne_of_gt (blk_lt (g := gb428) (o := .cells #[.int .i64 a1_0, .int .i64 a1_1] 38 (0, 0)) (by (with_reducible repeat (first | refine blk_drewN ?_ _ | refine blk_drew ?_ | refine blk_alloc ?_ _)); exact BK428.out)) : gb438 ≠ gb428)); have n9_ := Aside0.mk ((by rw [hg]; exact Nat.ne_of_lt (blk_lt (g := gb429) (o := .cells #[.int .i64 a2_0, .int .i64 a2_1] 38 (0, 0)) (by (with_reducible repeat (first | refine blk_drewN ?_ _ | refine blk_drew ?_ | refine blk_alloc ?_ _)); exact BK429.out)) : gb429 ≠ gb438)); have n10_ := Aside0.mk ((by rw [hg]; exact Nat.ne_of_gt (blk_lt (g := gb429) (o := .cells #[.int .i64 a2_0, .int .i64 a2_1] 38 (0, 0)) (by (with_reducible repeat (first | refine blk_drewN ?_ _ | refine blk_drew ?_ | refine blk_alloc ?_ _)); exact BK429.out)) : gb438 ≠ gb429)); clear HO_42; clear BK428; clear BK429; clear HB; have HO_42 := n0_; have BK428 := n1_; have BK429 := n2_; have HB := n3_; have BK438 := n4_; have GW438 := n5_; have GE438 := n6_; have NB428_438 := n7_; have NB438_428 := n8_; have NB429_438 := n9_; have NB438_429 := n10_; clear n0_ n1_ n2_ n3_ n4_ n5_ n6_ n7_ n8_ n9_ n10_; clear hb hbox hg; have hnb31 := NB438_428.out; have hnc31 := NB428_438.out; have hnb32 := NB438_429.out; have hnc32 := NB429_438.out; have hcz33_0 : w30.cell? ⟨gb438, 0, none⟩ = some (.int .i64 0) := (blk_cell BK438.out 0).trans rfl; have hcz33_1 : w30.cell? ⟨gb438, 1, none⟩ = some (.int .i64 0) := (blk_cell BK438.out 1).trans rfl; have hfz33_0 := blk_frozen BK438.out 0; have hfz33_1 := blk_frozen BK438.out 1))
                      go_ret
                      exact ⟨by first | rfl | (simp [errW_none, errW_some] <;> rfl) | (simp [*, errW_none, errW_some] <;> rfl), by repeat (first | (with_reducible first | exact HB.out | apply below_alloc | apply pw_below_drewN | apply below_drew1 | refine below_set ?_ GE428.out | refine below_set ?_ GE429.out | refine below_set ?_ GE438.out) | exact HB.out)⟩
                    · rw [if_neg c29] at H
                      have c29b0 : decide (1000 < ((rd_T38 y434 x44_1).f0)) = false := decide_eq_false c29
                      clear c29
                      by_cases c34 : ((rd_T38 y434 x44_1).f1) < (-1000)
                      · rw [if_pos c34] at H
                        have c34b0 : decide (((rd_T38 y434 x44_1).f1) < (-1000)) = true := decide_eq_true c34
                        clear c34
                        obtain rfl := Option.some.inj H
                        have p437 : 0 ≤ (x44_1 : Int) := of_decide_eq_true (by first | (with_reducible assumption) | assumption)
                        have q437 : x44_1 < (y434.length : Int) := of_decide_eq_true (by first | (with_reducible assumption) | assumption)
                        obtain ⟨ad437, e437, hx437_0, hx437_1⟩ := at_T38 (Kd.R_reads' HO_42.out).2.2 x44_1 p437 q437
                        cases e437
                        replace p437 := eq_true p437
                        replace q437 := eq_true q437
                        go_wp2_with (first | ((with_reducible refine gate_dst (N := 8) rfl ?_); refine box_event ?hg (N := 8) ?hd (cs := #[.int .i64 0, .int .i64 0]) (t := 38) ?hr ?_; (case hd => rfl); (case hg => rfl); (case hr => first | (go_simp; done) | (go_simp; rfl)); intro gb438 hg w35 hbox hb; have n0_ := Aside0.mk (Kd.R_below (Kd.R_elderB (by (with_reducible repeat (first | apply Kd.R_alloc | apply Kd.R_drewN | apply Kd.R_drew)); exact HO_42.out) gb438 (Nat.le_of_eq hg.symm)) hb); have n1_ := Aside0.mk (blk_below (g := gb428) (o := .cells #[.int .i64 a1_0, .int .i64 a1_1] 38 (0, 0)) (by (with_reducible repeat (first | refine blk_drewN ?_ _ | refine blk_drew ?_ | refine blk_alloc ?_ _)); exact BK428.out) hb); have n2_ := Aside0.mk (blk_below (g := gb429) (o := .cells #[.int .i64 a2_0, .int .i64 a2_1] 38 (0, 0)) (by (with_reducible repeat (first | refine blk_drewN ?_ _ | refine blk_drew ?_ | refine blk_alloc ?_ _)); exact BK429.out) hb); have n3_ := Aside0.mk (below_step (by repeat (first | (with_reducible first | exact HB.out | apply below_alloc | apply pw_below_drewN | apply below_drew1 | refine below_set ?_ GE428.out | refine below_set ?_ GE429.out) | exact HB.out)) hb); have n4_ := Aside0.mk (hbox); have n5_ := Aside0.mk ((by rw [hg]; exact (below_size (by repeat (first | (with_reducible first | exact HB.out | apply below_alloc | apply pw_below_drewN | apply below_drew1 | refine below_set ?_ GE428.out | refine below_set ?_ GE429.out) | exact HB.out))) : w.heap.size ≤ gb438)); have n6_ := Aside0.mk ((by rw [hg]; exact (below_size (by repeat (first | (with_reducible first | exact HB.out | apply below_alloc | apply pw_below_drewN | apply below_drew1 | refine below_set ?_ GE428.out | refine below_set ?_ GE429.out) | exact HB.out))) : w.heap.size ≤ gb438)); have n7_ := Aside0.mk ((by rw [hg]; exact Nat.ne_of_lt (blk_lt (g := gb428) (o := .cells #[.int .i64 a1_0, .int .i64 a1_1] 38 (0, 0)) (by (with_reducible repeat (first | refine blk_drewN ?_ _ | refine blk_drew ?_ | refine blk_alloc ?_ _)); exact BK428.out)) : gb428 ≠ gb438)); have n8_ := Aside0.mk ((by rw [hg]; exact Nat.ne_of_gt (blk_lt (g := gb428) (o := .cells #[.int .i64 a1_0, .int .i64 a1_1] 38 (0, 0)) (by (with_reducible repeat (first | refine blk_drewN ?_ _ | refine blk_drew ?_ | refine blk_alloc ?_ _)); exact BK428.out)) : gb438 ≠ gb428)); have n9_ := Aside0.mk ((by rw [hg]; exact Nat.ne_of_lt (blk_lt (g := gb429) (o := .cells #[.int .i64 a2_0, .int .i64 a2_1] 38 (0, 0)) (by (with_reducible repeat (first | refine blk_drewN ?_ _ | refine blk_drew ?_ | refine blk_alloc ?_ _)); exact BK429.out)) : gb429 ≠ gb438)); have n10_ := Aside0.mk ((by rw [hg]; exact Nat.ne_of_gt (blk_lt (g := gb429) (o := .cells #[.int .i64 a2_0, .int .i64 a2_1] 38 (0, 0)) (by (with_reducible repeat (first | refine blk_drewN ?_ _ | refine blk_drew ?_ | refine blk_alloc ?_ _)); exact BK429.out)) : gb438 ≠ gb429)); clear HO_42; clear BK428; clear BK429; clear HB; have HO_42 := n0_; have BK428 := n1_; have BK429 := n2_; have HB := n3_; have BK438 := n4_; have GW438 := n5_; have GE438 := n6_; have NB428_438 := n7_; have NB438_428 := n8_; have NB429_438 := n9_; have NB438_429 := n10_; clear n0_ n1_ n2_ n3_ n4_ n5_ n6_ n7_ n8_ n9_ n10_; clear hb hbox hg; have hnb36 := NB438_428.out; have hnc36 := NB428_438.out; have hnb37 := NB438_429.out; have hnc37 := NB429_438.out; have hcz38_0 : w35.cell? ⟨gb438, 0, none⟩ = some (.int .i64 0) := (blk_cell BK438.out 0).trans rfl; have hcz38_1 : w35.cell? ⟨gb438, 1, none⟩ = some (.int .i64 0) := (blk_cell BK438.out 1).trans rfl; have hfz38_0 := blk_frozen BK438.out 0; have hfz38_1 := blk_frozen BK438.out 1))
                        go_ret
                        exact ⟨by first | rfl | (simp [errW_none, errW_some] <;> rfl) | (simp [*, errW_none, errW_some] <;> rfl), by repeat (first | (with_reducible first | exact HB.out | apply below_alloc | apply pw_below_drewN | apply below_drew1 | refine below_set ?_ GE428.out | refine below_set ?_ GE429.out | refine below_set ?_ GE438.out) | exact HB.out)⟩
                      · rw [if_neg c34] at H
                        have c34b0 : decide (((rd_T38 y434 x44_1).f1) < (-1000)) = false := decide_eq_false c34
                        clear c34
                        by_cases c39 : ((rd_T38 y434 x44_1).f1) > 1000
                        · rw [if_pos c39] at H
                          have c39b0 : decide (1000 < ((rd_T38 y434 x44_1).f1)) = true := decide_eq_true c39
                          clear c39
                          obtain rfl := Option.some.inj H
                          have p437 : 0 ≤ (x44_1 : Int) := of_decide_eq_true (by first | (with_reducible assumption) | assumption)
                          have q437 : x44_1 < (y434.length : Int) := of_decide_eq_true (by first | (with_reducible assumption) | assumption)
                          obtain ⟨ad437, e437, hx437_0, hx437_1⟩ := at_T38 (Kd.R_reads' HO_42.out).2.2 x44_1 p437 q437
                          cases e437
                          replace p437 := eq_true p437
                          replace q437 := eq_true q437
                          go_wp2_with (first | ((with_reducible refine gate_dst (N := 8) rfl ?_); refine box_event ?hg (N := 8) ?hd (cs := #[.int .i64 0, .int .i64 0]) (t := 38) ?hr ?_; (case hd => rfl); (case hg => rfl); (case hr => first | (go_simp; done) | (go_simp; rfl)); intro gb438 hg w40 hbox hb; have n0_ := Aside0.mk (Kd.R_below (Kd.R_elderB (by (with_reducible repeat (first | apply Kd.R_alloc | apply Kd.R_drewN | apply Kd.R_drew)); exact HO_42.out) gb438 (Nat.le_of_eq hg.symm)) hb); have n1_ := Aside0.mk (blk_below (g := gb428) (o := .cells #[.int .i64 a1_0, .int .i64 a1_1] 38 (0, 0)) (by (with_reducible repeat (first | refine blk_drewN ?_ _ | refine blk_drew ?_ | refine blk_alloc ?_ _)); exact BK428.out) hb); have n2_ := Aside0.mk (blk_below (g := gb429) (o := .cells #[.int .i64 a2_0, .int .i64 a2_1] 38 (0, 0)) (by (with_reducible repeat (first | refine blk_drewN ?_ _ | refine blk_drew ?_ | refine blk_alloc ?_ _)); exact BK429.out) hb); have n3_ := Aside0.mk (below_step (by repeat (first | (with_reducible first | exact HB.out | apply below_alloc | apply pw_below_drewN | apply below_drew1 | refine below_set ?_ GE428.out | refine below_set ?_ GE429.out) | exact HB.out)) hb); have n4_ := Aside0.mk (hbox); have n5_ := Aside0.mk ((by rw [hg]; exact (below_size (by repeat (first | (with_reducible first | exact HB.out | apply below_alloc | apply pw_below_drewN | apply below_drew1 | refine below_set ?_ GE428.out | refine below_set ?_ GE429.out) | exact HB.out))) : w.heap.size ≤ gb438)); have n6_ := Aside0.mk ((by rw [hg]; exact (below_size (by repeat (first | (with_reducible first | exact HB.out | apply below_alloc | apply pw_below_drewN | apply below_drew1 | refine below_set ?_ GE428.out | refine below_set ?_ GE429.out) | exact HB.out))) : w.heap.size ≤ gb438)); have n7_ := Aside0.mk ((by rw [hg]; exact Nat.ne_of_lt (blk_lt (g := gb428) (o := .cells #[.int .i64 a1_0, .int .i64 a1_1] 38 (0, 0)) (by (with_reducible repeat (first | refine blk_drewN ?_ _ | refine blk_drew ?_ | refine blk_alloc ?_ _)); exact BK428.out)) : gb428 ≠ gb438)); have n8_ := Aside0.mk ((by rw [hg]; exact Nat.ne_of_gt (blk_lt (g := gb428) (o := .cells #[.int .i64 a1_0, .int .i64 a1_1] 38 (0, 0)) (by (with_reducible repeat (first | refine blk_drewN ?_ _ | refine blk_drew ?_ | refine blk_alloc ?_ _)); exact BK428.out)) : gb438 ≠ gb428)); have n9_ := Aside0.mk ((by rw [hg]; exact Nat.ne_of_lt (blk_lt (g := gb429) (o := .cells #[.int .i64 a2_0, .int .i64 a2_1] 38 (0, 0)) (by (with_reducible repeat (first | refine blk_drewN ?_ _ | refine blk_drew ?_ | refine blk_alloc ?_ _)); exact BK429.out)) : gb429 ≠ gb438)); have n10_ := Aside0.mk ((by rw [hg]; exact Nat.ne_of_gt (blk_lt (g := gb429) (o := .cells #[.int .i64 a2_0, .int .i64 a2_1] 38 (0, 0)) (by (with_reducible repeat (first | refine blk_drewN ?_ _ | refine blk_drew ?_ | refine blk_alloc ?_ _)); exact BK429.out)) : gb438 ≠ gb429)); clear HO_42; clear BK428; clear BK429; clear HB; have HO_42 := n0_; have BK428 := n1_; have BK429 := n2_; have HB := n3_; have BK438 := n4_; have GW438 := n5_; have GE438 := n6_; have NB428_438 := n7_; have NB438_428 := n8_; have NB429_438 := n9_; have NB438_429 := n10_; clear n0_ n1_ n2_ n3_ n4_ n5_ n6_ n7_ n8_ n9_ n10_; clear hb hbox hg; have hnb41 := NB438_428.out; have hnc41 := NB428_438.out; have hnb42 := NB438_429.out; have hnc42 := NB429_438.out; have hcz43_0 : w40.cell? ⟨gb438, 0, none⟩ = some (.int .i64 0) := (blk_cell BK438.out 0).trans rfl; have hcz43_1 : w40.cell? ⟨gb438, 1, none⟩ = some (.int .i64 0) := (blk_cell BK438.out 1).trans rfl; have hfz43_0 := blk_frozen BK438.out 0; have hfz43_1 := blk_frozen BK438.out 1))
                          go_ret
                          exact ⟨by first | rfl | (simp [errW_none, errW_some] <;> rfl) | (simp [*, errW_none, errW_some] <;> rfl), by repeat (first | (with_reducible first | exact HB.out | apply below_alloc | apply pw_below_drewN | apply below_drew1 | refine below_set ?_ GE428.out | refine below_set ?_ GE429.out | refine below_set ?_ GE438.out) | exact HB.out)⟩
                        · rw [if_neg c39] at H
                          have c39b0 : decide (1000 < ((rd_T38 y434 x44_1).f1)) = false := decide_eq_false c39
                          clear c39
                          have H' := Aside0.mk H
                          clear H
                          have p437 : 0 ≤ (x44_1 : Int) := of_decide_eq_true (by first | (with_reducible assumption) | assumption)
                          have q437 : x44_1 < (y434.length : Int) := of_decide_eq_true (by first | (with_reducible assumption) | assumption)
                          obtain ⟨ad437, e437, hx437_0, hx437_1⟩ := at_T38 (Kd.R_reads' HO_42.out).2.2 x44_1 p437 q437
                          cases e437
                          replace p437 := eq_true p437
                          replace q437 := eq_true q437
                          go_wp2_with (first | ((with_reducible refine gate_dst (N := 8) rfl ?_); refine box_event ?hg (N := 8) ?hd (cs := #[.int .i64 0, .int .i64 0]) (t := 38) ?hr ?_; (case hd => rfl); (case hg => rfl); (case hr => first | (go_simp; done) | (go_simp; rfl)); intro gb438 hg w44 hbox hb; have n0_ := Aside0.mk (Kd.R_below (Kd.R_elderB (by (with_reducible repeat (first | apply Kd.R_alloc | apply Kd.R_drewN | apply Kd.R_drew)); exact HO_42.out) gb438 (Nat.le_of_eq hg.symm)) hb); have n1_ := Aside0.mk (blk_below (g := gb428) (o := .cells #[.int .i64 a1_0, .int .i64 a1_1] 38 (0, 0)) (by (with_reducible repeat (first | refine blk_drewN ?_ _ | refine blk_drew ?_ | refine blk_alloc ?_ _)); exact BK428.out) hb); have n2_ := Aside0.mk (blk_below (g := gb429) (o := .cells #[.int .i64 a2_0, .int .i64 a2_1] 38 (0, 0)) (by (with_reducible repeat (first | refine blk_drewN ?_ _ | refine blk_drew ?_ | refine blk_alloc ?_ _)); exact BK429.out) hb); have n3_ := Aside0.mk (below_step (by repeat (first | (with_reducible first | exact HB.out | apply below_alloc | apply pw_below_drewN | apply below_drew1 | refine below_set ?_ GE428.out | refine below_set ?_ GE429.out) | exact HB.out)) hb); have n4_ := Aside0.mk (hbox); have n5_ := Aside0.mk ((by rw [hg]; exact (below_size (by repeat (first | (with_reducible first | exact HB.out | apply below_alloc | apply pw_below_drewN | apply below_drew1 | refine below_set ?_ GE428.out | refine below_set ?_ GE429.out) | exact HB.out))) : w.heap.size ≤ gb438)); have n6_ := Aside0.mk ((by rw [hg]; exact (below_size (by repeat (first | (with_reducible first | exact HB.out | apply below_alloc | apply pw_below_drewN | apply below_drew1 | refine below_set ?_ GE428.out | refine below_set ?_ GE429.out) | exact HB.out))) : w.heap.size ≤ gb438)); have n7_ := Aside0.mk ((by rw [hg]; exact Nat.ne_of_lt (blk_lt (g := gb428) (o := .cells #[.int .i64 a1_0, .int .i64 a1_1] 38 (0, 0)) (by (with_reducible repeat (first | refine blk_drewN ?_ _ | refine blk_drew ?_ | refine blk_alloc ?_ _)); exact BK428.out)) : gb428 ≠ gb438)); have n8_ := Aside0.mk ((by rw [hg]; exact Nat.ne_of_gt (blk_lt (g := gb428) (o := .cells #[.int .i64 a1_0, .int .i64 a1_1] 38 (0, 0)) (by (with_reducible repeat (first | refine blk_drewN ?_ _ | refine blk_drew ?_ | refine blk_alloc ?_ _)); exact BK428.out)) : gb438 ≠ gb428)); have n9_ := Aside0.mk ((by rw [hg]; exact Nat.ne_of_lt (blk_lt (g := gb429) (o := .cells #[.int .i64 a2_0, .int .i64 a2_1] 38 (0, 0)) (by (with_reducible repeat (first | refine blk_drewN ?_ _ | refine blk_drew ?_ | refine blk_alloc ?_ _)); exact BK429.out)) : gb429 ≠ gb438)); have n10_ := Aside0.mk ((by rw [hg]; exact Nat.ne_of_gt (blk_lt (g := gb429) (o := .cells #[.int .i64 a2_0, .int .i64 a2_1] 38 (0, 0)) (by (with_reducible repeat (first | refine blk_drewN ?_ _ | refine blk_drew ?_ | refine blk_alloc ?_ _)); exact BK429.out)) : gb438 ≠ gb429)); clear HO_42; clear BK428; clear BK429; clear HB; have HO_42 := n0_; have BK428 := n1_; have BK429 := n2_; have HB := n3_; have BK438 := n4_; have GW438 := n5_; have GE438 := n6_; have NB428_438 := n7_; have NB438_428 := n8_; have NB429_438 := n9_; have NB438_429 := n10_; clear n0_ n1_ n2_ n3_ n4_ n5_ n6_ n7_ n8_ n9_ n10_; clear hb hbox hg; have hnb45 := NB438_428.out; have hnc45 := NB428_438.out; have hnb46 := NB438_429.out; have hnc46 := NB429_438.out; have hcz47_0 : w44.cell? ⟨gb438, 0, none⟩ = some (.int .i64 0) := (blk_cell BK438.out 0).trans rfl; have hcz47_1 : w44.cell? ⟨gb438, 1, none⟩ = some (.int .i64 0) := (blk_cell BK438.out 1).trans rfl; have hfz47_0 := blk_frozen BK438.out 0; have hfz47_1 := blk_frozen BK438.out 1))
                          go_roundg k1
                          case measure => have := HK1.out; omega
                          case rel => exact ⟨(wrap64 (x44_1 + 1)), (by first | rfl | (simp; done) | (simp [*]; done)), H', ⟨by have := HK1.out; omega⟩, ⟨by (with_reducible repeat (first | apply Kd.R_alloc | apply Kd.R_drewN | apply Kd.R_drew)); exact Kd.R_mono (Kd.R_far (p := ⟨gb438, 1, none⟩) (Kd.R_far (p := ⟨gb438, 0, none⟩) (Kd.R_mono HO_42.out (fun k_ hk => (⟨hk, hk.2⟩ : _ ∧ k_ ≠ gb438))) (fun _ hk => hk.2) (.int .i64 ((rd_T38 y434 x44_1).f0))) (fun _ hk => hk.2) (.int .i64 ((rd_T38 y434 x44_1).f1))) (fun _ hk => ⟨hk.1.1.1, hk.1.1.2⟩)⟩, ⟨by (with_reducible repeat (first | refine blk_drewN ?_ _ | refine blk_drew ?_ | refine blk_alloc ?_ _)); refine blk_far ?_ NB428_438.out _; (with_reducible repeat (first | refine blk_drewN ?_ _ | refine blk_drew ?_ | refine blk_alloc ?_ _)); refine blk_far ?_ NB428_438.out _; (with_reducible repeat (first | refine blk_drewN ?_ _ | refine blk_drew ?_ | refine blk_alloc ?_ _)); exact BK428.out⟩, ⟨by (with_reducible repeat (first | refine blk_drewN ?_ _ | refine blk_drew ?_ | refine blk_alloc ?_ _)); refine blk_far ?_ NB429_438.out _; (with_reducible repeat (first | refine blk_drewN ?_ _ | refine blk_drew ?_ | refine blk_alloc ?_ _)); refine blk_far ?_ NB429_438.out _; (with_reducible repeat (first | refine blk_drewN ?_ _ | refine blk_drew ?_ | refine blk_alloc ?_ _)); exact BK429.out⟩, ⟨by repeat (first | (with_reducible first | exact HB.out | apply below_alloc | apply pw_below_drewN | apply below_drew1 | refine below_set ?_ GE428.out | refine below_set ?_ GE429.out | refine below_set ?_ GE438.out) | exact HB.out)⟩⟩
                · rw [if_neg c23] at H
                  exact absurd H (by simp)
              · rw [if_neg c22] at H
                exact absurd H (by simp)
            · rw [if_neg c21] at H
              have c21b0 : decide (x44_1 < (y434.length : Int)) = false := decide_eq_false c21
              clear c21
              have HC48 := Aside0.mk H
              clear H
              go_upto_region 11 with (fail)
              go_cut [104] (fun v104 wc => ∃ (kq : Nat) (x104_47 : Bool), v104 = .bool x104_47 ∧ Aside0 (quitrentlaw21_PlotTimes.j1 kq l0 x104_47 a1_0 a1_1 a2_0 a2_1 = some r) ∧ Aside0 (kq ≤ k1) ∧ Aside0 (wc.heap[gb428]? = some (.cells #[.int .i64 a1_0, .int .i64 a1_1] 38 (0, 0))) ∧ Aside0 (wc.heap[gb429]? = some (.cells #[.int .i64 a2_0, .int .i64 a2_1] 38 (0, 0))) ∧ Aside0 (Below w.heap.size w wc))
              case first =>
                have H := HC48.out
                clear HC48
                by_cases c49 : a1_0 < (-30)
                · rw [if_pos c49] at H
                  have c49b0 : decide (a1_0 < (-30)) = true := decide_eq_true c49
                  clear c49
                  (first | rw [c49b0] | (simp only [i64_w, i32_w]; rw [c49b0]) | skip)
                  have H' := Aside0.mk H
                  clear H
                  have hnb50 := NB428_429.out
                  have hnc50 := NB429_428.out
                  have hcz51_0 : wr.cell? ⟨gb428, 0, none⟩ = some (.int .i64 a1_0) := (blk_cell BK428.out 0).trans rfl
                  have hcz51_1 : wr.cell? ⟨gb428, 1, none⟩ = some (.int .i64 a1_1) := (blk_cell BK428.out 1).trans rfl
                  have hfz51_0 := blk_frozen BK428.out 0
                  have hfz51_1 := blk_frozen BK428.out 1
                  go_wp2
                  go_meet
                  case rel => exact ⟨_, (true), (by first | rfl | (simp; done) | (simp [*]; done)), H', ⟨by have := HK1.out; first | omega | exact Nat.le_refl _⟩, ⟨by (with_reducible repeat (first | refine blk_drewN ?_ _ | refine blk_drew ?_ | refine blk_alloc ?_ _)); exact BK428.out⟩, ⟨by (with_reducible repeat (first | refine blk_drewN ?_ _ | refine blk_drew ?_ | refine blk_alloc ?_ _)); exact BK429.out⟩, ⟨by repeat (first | (with_reducible first | exact HB.out | apply below_alloc | apply pw_below_drewN | apply below_drew1 | refine below_set ?_ GE428.out | refine below_set ?_ GE429.out) | exact HB.out)⟩⟩
                · rw [if_neg c49] at H
                  have c49b0 : decide (a1_0 < (-30)) = false := decide_eq_false c49
                  clear c49
                  (first | rw [c49b0] | (simp only [i64_w, i32_w]; rw [c49b0]) | skip)
                  by_cases c52 : a1_0 > 30
                  · rw [if_pos c52] at H
                    have c52b0 : decide (30 < a1_0) = true := decide_eq_true c52
                    clear c52
                    have H' := Aside0.mk H
                    clear H
                    have hnb53 := NB428_429.out
                    have hnc53 := NB429_428.out
                    have hcz54_0 : wr.cell? ⟨gb428, 0, none⟩ = some (.int .i64 a1_0) := (blk_cell BK428.out 0).trans rfl
                    have hcz54_1 : wr.cell? ⟨gb428, 1, none⟩ = some (.int .i64 a1_1) := (blk_cell BK428.out 1).trans rfl
                    have hfz54_0 := blk_frozen BK428.out 0
                    have hfz54_1 := blk_frozen BK428.out 1
                    go_wp2
                    go_meet
                    case rel => exact ⟨_, (true), (by first | rfl | (simp; done) | (simp [*]; done)), H', ⟨by have := HK1.out; first | omega | exact Nat.le_refl _⟩, ⟨by (with_reducible repeat (first | refine blk_drewN ?_ _ | refine blk_drew ?_ | refine blk_alloc ?_ _)); exact BK428.out⟩, ⟨by (with_reducible repeat (first | refine blk_drewN ?_ _ | refine blk_drew ?_ | refine blk_alloc ?_ _)); exact BK429.out⟩, ⟨by repeat (first | (with_reducible first | exact HB.out | apply below_alloc | apply pw_below_drewN | apply below_drew1 | refine below_set ?_ GE428.out | refine below_set ?_ GE429.out) | exact HB.out)⟩⟩
                  · rw [if_neg c52] at H
                    have c52b0 : decide (30 < a1_0) = false := decide_eq_false c52
                    clear c52
                    by_cases c55 : a1_1 < (-30)
                    · rw [if_pos c55] at H
                      have c55b0 : decide (a1_1 < (-30)) = true := decide_eq_true c55
                      clear c55
                      have H' := Aside0.mk H
                      clear H
                      have hnb56 := NB428_429.out
                      have hnc56 := NB429_428.out
                      have hcz57_0 : wr.cell? ⟨gb428, 0, none⟩ = some (.int .i64 a1_0) := (blk_cell BK428.out 0).trans rfl
                      have hcz57_1 : wr.cell? ⟨gb428, 1, none⟩ = some (.int .i64 a1_1) := (blk_cell BK428.out 1).trans rfl
                      have hfz57_0 := blk_frozen BK428.out 0
                      have hfz57_1 := blk_frozen BK428.out 1
                      go_wp2
                      go_meet
                      case rel => exact ⟨_, (true), (by first | rfl | (simp; done) | (simp [*]; done)), H', ⟨by have := HK1.out; first | omega | exact Nat.le_refl _⟩, ⟨by (with_reducible repeat (first | refine blk_drewN ?_ _ | refine blk_drew ?_ | refine blk_alloc ?_ _)); exact BK428.out⟩, ⟨by (with_reducible repeat (first | refine blk_drewN ?_ _ | refine blk_drew ?_ | refine blk_alloc ?_ _)); exact BK429.out⟩, ⟨by repeat (first | (with_reducible first | exact HB.out | apply below_alloc | apply pw_below_drewN | apply below_drew1 | refine below_set ?_ GE428.out | refine below_set ?_ GE429.out) | exact HB.out)⟩⟩
                    · rw [if_neg c55] at H
                      have c55b0 : decide (a1_1 < (-30)) = false := decide_eq_false c55
                      clear c55
                      by_cases c58 : a1_1 > 30
                      · rw [if_pos c58] at H
                        have c58b0 : decide (30 < a1_1) = true := decide_eq_true c58
                        clear c58
                        have H' := Aside0.mk H
                        clear H
                        have hnb59 := NB428_429.out
                        have hnc59 := NB429_428.out
                        have hcz60_0 : wr.cell? ⟨gb428, 0, none⟩ = some (.int .i64 a1_0) := (blk_cell BK428.out 0).trans rfl
                        have hcz60_1 : wr.cell? ⟨gb428, 1, none⟩ = some (.int .i64 a1_1) := (blk_cell BK428.out 1).trans rfl
                        have hfz60_0 := blk_frozen BK428.out 0
                        have hfz60_1 := blk_frozen BK428.out 1
                        go_wp2
                        go_meet
                        case rel => exact ⟨_, (true), (by first | rfl | (simp; done) | (simp [*]; done)), H', ⟨by have := HK1.out; first | omega | exact Nat.le_refl _⟩, ⟨by (with_reducible repeat (first | refine blk_drewN ?_ _ | refine blk_drew ?_ | refine blk_alloc ?_ _)); exact BK428.out⟩, ⟨by (with_reducible repeat (first | refine blk_drewN ?_ _ | refine blk_drew ?_ | refine blk_alloc ?_ _)); exact BK429.out⟩, ⟨by repeat (first | (with_reducible first | exact HB.out | apply below_alloc | apply pw_below_drewN | apply below_drew1 | refine below_set ?_ GE428.out | refine below_set ?_ GE429.out) | exact HB.out)⟩⟩
                      · rw [if_neg c58] at H
                        have c58b0 : decide (30 < a1_1) = false := decide_eq_false c58
                        clear c58
                        by_cases c61 : a2_0 < (-30)
                        · rw [if_pos c61] at H
                          have c61b0 : decide (a2_0 < (-30)) = true := decide_eq_true c61
                          clear c61
                          have H' := Aside0.mk H
                          clear H
                          have hnb62 := NB428_429.out
                          have hnc62 := NB429_428.out
                          have hcz63_0 : wr.cell? ⟨gb428, 0, none⟩ = some (.int .i64 a1_0) := (blk_cell BK428.out 0).trans rfl
                          have hcz63_1 : wr.cell? ⟨gb428, 1, none⟩ = some (.int .i64 a1_1) := (blk_cell BK428.out 1).trans rfl
                          have hfz63_0 := blk_frozen BK428.out 0
                          have hfz63_1 := blk_frozen BK428.out 1
                          have hcz64_0 : wr.cell? ⟨gb429, 0, none⟩ = some (.int .i64 a2_0) := (blk_cell BK429.out 0).trans rfl
                          have hcz64_1 : wr.cell? ⟨gb429, 1, none⟩ = some (.int .i64 a2_1) := (blk_cell BK429.out 1).trans rfl
                          have hfz64_0 := blk_frozen BK429.out 0
                          have hfz64_1 := blk_frozen BK429.out 1
                          go_wp2
                          go_meet
                          case rel => exact ⟨_, (true), (by first | rfl | (simp; done) | (simp [*]; done)), H', ⟨by have := HK1.out; first | omega | exact Nat.le_refl _⟩, ⟨by (with_reducible repeat (first | refine blk_drewN ?_ _ | refine blk_drew ?_ | refine blk_alloc ?_ _)); exact BK428.out⟩, ⟨by (with_reducible repeat (first | refine blk_drewN ?_ _ | refine blk_drew ?_ | refine blk_alloc ?_ _)); exact BK429.out⟩, ⟨by repeat (first | (with_reducible first | exact HB.out | apply below_alloc | apply pw_below_drewN | apply below_drew1 | refine below_set ?_ GE428.out | refine below_set ?_ GE429.out) | exact HB.out)⟩⟩
                        · rw [if_neg c61] at H
                          have c61b0 : decide (a2_0 < (-30)) = false := decide_eq_false c61
                          clear c61
                          by_cases c65 : a2_0 > 30
                          · rw [if_pos c65] at H
                            have c65b0 : decide (30 < a2_0) = true := decide_eq_true c65
                            clear c65
                            have H' := Aside0.mk H
                            clear H
                            have hnb66 := NB428_429.out
                            have hnc66 := NB429_428.out
                            have hcz67_0 : wr.cell? ⟨gb428, 0, none⟩ = some (.int .i64 a1_0) := (blk_cell BK428.out 0).trans rfl
                            have hcz67_1 : wr.cell? ⟨gb428, 1, none⟩ = some (.int .i64 a1_1) := (blk_cell BK428.out 1).trans rfl
                            have hfz67_0 := blk_frozen BK428.out 0
                            have hfz67_1 := blk_frozen BK428.out 1
                            have hcz68_0 : wr.cell? ⟨gb429, 0, none⟩ = some (.int .i64 a2_0) := (blk_cell BK429.out 0).trans rfl
                            have hcz68_1 : wr.cell? ⟨gb429, 1, none⟩ = some (.int .i64 a2_1) := (blk_cell BK429.out 1).trans rfl
                            have hfz68_0 := blk_frozen BK429.out 0
                            have hfz68_1 := blk_frozen BK429.out 1
                            go_wp2
                            go_meet
                            case rel => exact ⟨_, (true), (by first | rfl | (simp; done) | (simp [*]; done)), H', ⟨by have := HK1.out; first | omega | exact Nat.le_refl _⟩, ⟨by (with_reducible repeat (first | refine blk_drewN ?_ _ | refine blk_drew ?_ | refine blk_alloc ?_ _)); exact BK428.out⟩, ⟨by (with_reducible repeat (first | refine blk_drewN ?_ _ | refine blk_drew ?_ | refine blk_alloc ?_ _)); exact BK429.out⟩, ⟨by repeat (first | (with_reducible first | exact HB.out | apply below_alloc | apply pw_below_drewN | apply below_drew1 | refine below_set ?_ GE428.out | refine below_set ?_ GE429.out) | exact HB.out)⟩⟩
                          · rw [if_neg c65] at H
                            have c65b0 : decide (30 < a2_0) = false := decide_eq_false c65
                            clear c65
                            by_cases c69 : a2_1 < (-30)
                            · rw [if_pos c69] at H
                              have c69b0 : decide (a2_1 < (-30)) = true := decide_eq_true c69
                              clear c69
                              have H' := Aside0.mk H
                              clear H
                              have hnb70 := NB428_429.out
                              have hnc70 := NB429_428.out
                              have hcz71_0 : wr.cell? ⟨gb428, 0, none⟩ = some (.int .i64 a1_0) := (blk_cell BK428.out 0).trans rfl
                              have hcz71_1 : wr.cell? ⟨gb428, 1, none⟩ = some (.int .i64 a1_1) := (blk_cell BK428.out 1).trans rfl
                              have hfz71_0 := blk_frozen BK428.out 0
                              have hfz71_1 := blk_frozen BK428.out 1
                              have hcz72_0 : wr.cell? ⟨gb429, 0, none⟩ = some (.int .i64 a2_0) := (blk_cell BK429.out 0).trans rfl
                              have hcz72_1 : wr.cell? ⟨gb429, 1, none⟩ = some (.int .i64 a2_1) := (blk_cell BK429.out 1).trans rfl
                              have hfz72_0 := blk_frozen BK429.out 0
                              have hfz72_1 := blk_frozen BK429.out 1
                              go_wp2
                              go_meet
                              case rel => exact ⟨_, (true), (by first | rfl | (simp; done) | (simp [*]; done)), H', ⟨by have := HK1.out; first | omega | exact Nat.le_refl _⟩, ⟨by (with_reducible repeat (first | refine blk_drewN ?_ _ | refine blk_drew ?_ | refine blk_alloc ?_ _)); exact BK428.out⟩, ⟨by (with_reducible repeat (first | refine blk_drewN ?_ _ | refine blk_drew ?_ | refine blk_alloc ?_ _)); exact BK429.out⟩, ⟨by repeat (first | (with_reducible first | exact HB.out | apply below_alloc | apply pw_below_drewN | apply below_drew1 | refine below_set ?_ GE428.out | refine below_set ?_ GE429.out) | exact HB.out)⟩⟩
                            · rw [if_neg c69] at H
                              have c69b0 : decide (a2_1 < (-30)) = false := decide_eq_false c69
                              clear c69
                              have H' := Aside0.mk H
                              clear H
                              have hnb73 := NB428_429.out
                              have hnc73 := NB429_428.out
                              have hcz74_0 : wr.cell? ⟨gb428, 0, none⟩ = some (.int .i64 a1_0) := (blk_cell BK428.out 0).trans rfl
                              have hcz74_1 : wr.cell? ⟨gb428, 1, none⟩ = some (.int .i64 a1_1) := (blk_cell BK428.out 1).trans rfl
                              have hfz74_0 := blk_frozen BK428.out 0
                              have hfz74_1 := blk_frozen BK428.out 1
                              have hcz75_0 : wr.cell? ⟨gb429, 0, none⟩ = some (.int .i64 a2_0) := (blk_cell BK429.out 0).trans rfl
                              have hcz75_1 : wr.cell? ⟨gb429, 1, none⟩ = some (.int .i64 a2_1) := (blk_cell BK429.out 1).trans rfl
                              have hfz75_0 := blk_frozen BK429.out 0
                              have hfz75_1 := blk_frozen BK429.out 1
                              go_wp2
                              go_meet
                              case rel => exact ⟨_, (decide (a2_1 > 30)), (by first | rfl | (simp; done) | (simp [*]; done)), H', ⟨by have := HK1.out; first | omega | exact Nat.le_refl _⟩, ⟨by (with_reducible repeat (first | refine blk_drewN ?_ _ | refine blk_drew ?_ | refine blk_alloc ?_ _)); exact BK428.out⟩, ⟨by (with_reducible repeat (first | refine blk_drewN ?_ _ | refine blk_drew ?_ | refine blk_alloc ?_ _)); exact BK429.out⟩, ⟨by repeat (first | (with_reducible first | exact HB.out | apply below_alloc | apply pw_below_drewN | apply below_drew1 | refine below_set ?_ GE428.out | refine below_set ?_ GE429.out) | exact HB.out)⟩⟩
              case rest =>
                clear HC48
                try clear c1
                try clear c2
                try clear p2
                try clear c3
                try clear c4
                try clear p4
                try clear q4
                try clear hx4
                try clear c5
                try clear c6
                try clear c6b0
                try clear c6b1
                try clear p6
                try clear c7
                try clear c10
                try clear c14
                try clear c21
                try clear c21b0
                try clear c22
                try clear c22b0
                try clear c23
                try clear c23b0
                try clear c24
                try clear c24b0
                try clear c26
                try clear c27
                try clear c29
                try clear c29b0
                try clear c31
                try clear c32
                try clear c34
                try clear c34b0
                try clear c36
                try clear c37
                try clear c39
                try clear c39b0
                try clear c41
                try clear c42
                try clear p43
                try clear q43
                try clear hx43
                try clear c45
                try clear c46
                try clear c49
                try clear c49b0
                try clear c50
                try clear c52
                try clear c52b0
                try clear c53
                try clear c55
                try clear c55b0
                try clear c56
                try clear c58
                try clear c58b0
                try clear c59
                try clear c61
                try clear c61b0
                try clear c62
                try clear p64
                try clear c65
                try clear c65b0
                try clear c66
                try clear c69
                try clear c69b0
                try clear c70
                try clear c73
                try clear hcz15_0
                try clear hcz15_1
                try clear hcz16_0
                try clear hcz16_1
                try clear hcz28_0
                try clear hcz28_1
                try clear hcz33_0
                try clear hcz33_1
                try clear hcz38_0
                try clear hcz38_1
                try clear hcz43_0
                try clear hcz43_1
                try clear hcz47_0
                try clear hcz47_1
                try clear hcz51_0
                try clear hcz51_1
                try clear hcz54_0
                try clear hcz54_1
                try clear hcz57_0
                try clear hcz57_1
                try clear hcz60_0
                try clear hcz60_1
                try clear hcz63_0
                try clear hcz63_1
                try clear hcz64_0
                try clear hcz64_1
                try clear hcz67_0
                try clear hcz67_1
                try clear hcz68_0
                try clear hcz68_1
                try clear hcz71_0
                try clear hcz71_1
                try clear hcz72_0
                try clear hcz72_1
                try clear hcz74_0
                try clear hcz74_1
                try clear hcz75_0
                try clear hcz75_1
                try clear hfz15_0
                try clear hfz15_1
                try clear hfz16_0
                try clear hfz16_1
                try clear hfz28_0
                try clear hfz28_1
                try clear hfz33_0
                try clear hfz33_1
                try clear hfz38_0
                try clear hfz38_1
                try clear hfz43_0
                try clear hfz43_1
                try clear hfz47_0
                try clear hfz47_1
                try clear hfz51_0
                try clear hfz51_1
                try clear hfz54_0
                try clear hfz54_1
                try clear hfz57_0
                try clear hfz57_1
                try clear hfz60_0
                try clear hfz60_1
                try clear hfz63_0
                try clear hfz63_1
                try clear hfz64_0
                try clear hfz64_1
                try clear hfz67_0
                try clear hfz67_1
                try clear hfz68_0
                try clear hfz68_1
                try clear hfz71_0
                try clear hfz71_1
                try clear hfz72_0
                try clear hfz72_1
                try clear hfz74_0
                try clear hfz74_1
                try clear hfz75_0
                try clear hfz75_1
                try clear hx437_0
                try clear hx437_1
                try clear p2
                try clear p437
                try clear p6
                try clear q437
                obtain ⟨kq, x104_47, rfl, HA, HJ47, BK428, BK429, HB⟩ := hcut
                cases kq with
                | zero => exact absurd HA.out (by simp [quitrentlaw21_PlotTimes.j1])
                | succ kj47 =>
                  have H := HA.out
                  clear HA
                  simp only [quitrentlaw21_PlotTimes.j1] at H
                  by_cases c76 : x104_47 = true
                  · subst c76
                    have H1 : (some true) = some r := by rw [if_pos rfl] at H; exact H
                    clear H
                    have H := H1
                    clear H1
                    obtain rfl := Option.some.inj H
                    go_wp2
                    go_ret
                    exact ⟨by first | rfl | (simp [errW_none, errW_some] <;> rfl) | (simp [*, errW_none, errW_some] <;> rfl), by repeat (first | (with_reducible first | exact HB.out | apply below_alloc | apply pw_below_drewN | apply below_drew1 | refine below_set ?_ GE428.out | refine below_set ?_ GE429.out) | exact HB.out)⟩
                  · replace c76 := Bool.eq_false_iff.mpr c76
                    subst c76
                    have H1 : ((plot_Area.f kj47 l0).bind fun bt439 => ((plot_Times.f kj47 l0 a1_0 a1_1).bind fun bt441 => ((plot_Area.f kj47 bt441.1).bind fun bt445 => ((plot_Times.f kj47 l0 a2_0 a2_1).bind fun bt447 => ((plot_Times.f kj47 bt441.1 a2_0 a2_1).bind fun bt451 => ((plot_Times.f kj47 bt447.1 a1_0 a1_1).bind fun bt455 => (if bt441.2 = 0 then (if bt447.2 = 0 then (if bt439.2 = 0 then (if bt445.2 = 0 then (if bt445.1 = (wrap64 (bt439.1 * (wrap64 ((wrap64 (a1_0 * a1_0)) + (wrap64 (a1_1 * a1_1)))))) then (if bt451.2 = bt455.2 then ((quitrentlaw21_same.f kj47 bt451.1 bt455.1).bind fun t459 => (some t459)) else (none)) else (none)) else (none)) else (none)) else (none)) else (none)))))))) = some r := by rw [if_neg (show ¬ (false = true) by decide)] at H; exact H
                    clear H
                    have H := H1
                    clear H1
                    replace H := Option.bind_eq_some_iff.mp H
                    obtain ⟨⟨t439, t440⟩, A770, H⟩ := H
                    replace H : ((plot_Times.f kj47 l0 a1_0 a1_1).bind fun bt441 => ((plot_Area.f kj47 bt441.1).bind fun bt445 => ((plot_Times.f kj47 l0 a2_0 a2_1).bind fun bt447 => ((plot_Times.f kj47 bt441.1 a2_0 a2_1).bind fun bt451 => ((plot_Times.f kj47 bt447.1 a1_0 a1_1).bind fun bt455 => (if bt441.2 = 0 then (if bt447.2 = 0 then (if t440 = 0 then (if bt445.2 = 0 then (if bt445.1 = (wrap64 (t439 * (wrap64 ((wrap64 (a1_0 * a1_0)) + (wrap64 (a1_1 * a1_1)))))) then (if bt451.2 = bt455.2 then ((quitrentlaw21_same.f kj47 bt451.1 bt455.1).bind fun t459 => (some t459)) else (none)) else (none)) else (none)) else (none)) else (none)) else (none))))))) = some r := H
                    have A77 := Aside0.mk A770
                    clear A770
                    replace H := Option.bind_eq_some_iff.mp H
                    obtain ⟨⟨t441, t444⟩, A780, H⟩ := H
                    replace H : ((plot_Area.f kj47 t441).bind fun bt445 => ((plot_Times.f kj47 l0 a2_0 a2_1).bind fun bt447 => ((plot_Times.f kj47 t441 a2_0 a2_1).bind fun bt451 => ((plot_Times.f kj47 bt447.1 a1_0 a1_1).bind fun bt455 => (if t444 = 0 then (if bt447.2 = 0 then (if t440 = 0 then (if bt445.2 = 0 then (if bt445.1 = (wrap64 (t439 * (wrap64 ((wrap64 (a1_0 * a1_0)) + (wrap64 (a1_1 * a1_1)))))) then (if bt451.2 = bt455.2 then ((quitrentlaw21_same.f kj47 bt451.1 bt455.1).bind fun t459 => (some t459)) else (none)) else (none)) else (none)) else (none)) else (none)) else (none)))))) = some r := H
                    have A78 := Aside0.mk A780
                    clear A780
                    replace H := Option.bind_eq_some_iff.mp H
                    obtain ⟨⟨t445, t446⟩, A790, H⟩ := H
                    replace H : ((plot_Times.f kj47 l0 a2_0 a2_1).bind fun bt447 => ((plot_Times.f kj47 t441 a2_0 a2_1).bind fun bt451 => ((plot_Times.f kj47 bt447.1 a1_0 a1_1).bind fun bt455 => (if t444 = 0 then (if bt447.2 = 0 then (if t440 = 0 then (if t446 = 0 then (if t445 = (wrap64 (t439 * (wrap64 ((wrap64 (a1_0 * a1_0)) + (wrap64 (a1_1 * a1_1)))))) then (if bt451.2 = bt455.2 then ((quitrentlaw21_same.f kj47 bt451.1 bt455.1).bind fun t459 => (some t459)) else (none)) else (none)) else (none)) else (none)) else (none)) else (none))))) = some r := H
                    have A79 := Aside0.mk A790
                    clear A790
                    replace H := Option.bind_eq_some_iff.mp H
                    obtain ⟨⟨t447, t450⟩, A800, H⟩ := H
                    replace H : ((plot_Times.f kj47 t441 a2_0 a2_1).bind fun bt451 => ((plot_Times.f kj47 t447 a1_0 a1_1).bind fun bt455 => (if t444 = 0 then (if t450 = 0 then (if t440 = 0 then (if t446 = 0 then (if t445 = (wrap64 (t439 * (wrap64 ((wrap64 (a1_0 * a1_0)) + (wrap64 (a1_1 * a1_1)))))) then (if bt451.2 = bt455.2 then ((quitrentlaw21_same.f kj47 bt451.1 bt455.1).bind fun t459 => (some t459)) else (none)) else (none)) else (none)) else (none)) else (none)) else (none)))) = some r := H
                    have A80 := Aside0.mk A800
                    clear A800
                    replace H := Option.bind_eq_some_iff.mp H
                    obtain ⟨⟨t451, t454⟩, A810, H⟩ := H
                    replace H : ((plot_Times.f kj47 t447 a1_0 a1_1).bind fun bt455 => (if t444 = 0 then (if t450 = 0 then (if t440 = 0 then (if t446 = 0 then (if t445 = (wrap64 (t439 * (wrap64 ((wrap64 (a1_0 * a1_0)) + (wrap64 (a1_1 * a1_1)))))) then (if t454 = bt455.2 then ((quitrentlaw21_same.f kj47 t451 bt455.1).bind fun t459 => (some t459)) else (none)) else (none)) else (none)) else (none)) else (none)) else (none))) = some r := H
                    have A81 := Aside0.mk A810
                    clear A810
                    replace H := Option.bind_eq_some_iff.mp H
                    obtain ⟨⟨t455, t458⟩, A820, H⟩ := H
                    replace H : (if t444 = 0 then (if t450 = 0 then (if t440 = 0 then (if t446 = 0 then (if t445 = (wrap64 (t439 * (wrap64 ((wrap64 (a1_0 * a1_0)) + (wrap64 (a1_1 * a1_1)))))) then (if t454 = t458 then ((quitrentlaw21_same.f kj47 t451 t455).bind fun t459 => (some t459)) else (none)) else (none)) else (none)) else (none)) else (none)) else (none)) = some r := H
                    have A82 := Aside0.mk A820
                    clear A820
                    by_cases c83 : t444 = 0
                    · rw [if_pos c83] at H
                      have c83b0 : (t444 == 0) = true := beq_iff_eq.mpr c83
                      have c83b1 : (t444 != 0) = false := bne_eq_false_iff_eq.mpr c83
                      clear c83
                      by_cases c84 : t450 = 0
                      · rw [if_pos c84] at H
                        have c84b0 : (t450 == 0) = true := beq_iff_eq.mpr c84
                        have c84b1 : (t450 != 0) = false := bne_eq_false_iff_eq.mpr c84
                        clear c84
                        by_cases c85 : t440 = 0
                        · rw [if_pos c85] at H
                          have c85b0 : (t440 == 0) = true := beq_iff_eq.mpr c85
                          have c85b1 : (t440 != 0) = false := bne_eq_false_iff_eq.mpr c85
                          clear c85
                          by_cases c86 : t446 = 0
                          · rw [if_pos c86] at H
                            have c86b0 : (t446 == 0) = true := beq_iff_eq.mpr c86
                            have c86b1 : (t446 != 0) = false := bne_eq_false_iff_eq.mpr c86
                            clear c86
                            by_cases c87 : t445 = (wrap64 (t439 * (wrap64 ((wrap64 (a1_0 * a1_0)) + (wrap64 (a1_1 * a1_1))))))
                            · rw [if_pos c87] at H
                              have c87b0 : (t445 == (wrap64 (t439 * (wrap64 ((wrap64 (a1_0 * a1_0)) + (wrap64 (a1_1 * a1_1))))))) = true := beq_iff_eq.mpr c87
                              have c87b1 : (t445 != (wrap64 (t439 * (wrap64 ((wrap64 (a1_0 * a1_0)) + (wrap64 (a1_1 * a1_1))))))) = false := bne_eq_false_iff_eq.mpr c87
                              clear c87
                              by_cases c88 : t454 = t458
                              · rw [if_pos c88] at H
                                have c88b0 : (t454 == t458) = true := beq_iff_eq.mpr c88
                                have c88b1 : (t454 != t458) = false := bne_eq_false_iff_eq.mpr c88
                                clear c88
                                replace H := Option.bind_eq_some_iff.mp H
                                obtain ⟨t459, A890, H⟩ := H
                                replace H : (some t459) = some r := H
                                have A89 := Aside0.mk A890
                                clear A890
                                obtain rfl := Option.some.inj H
                                go_wp2_with (first | ((with_reducible refine gate_callee (f := 37) rfl ?_); refine goesL_ (some 107) rfl rfl Try.func37 (by kernel_rfl) rfl #[.slice A0 l0.length c0] rfl (by (try simp only [List.map_toArray, List.map_cons, List.map_nil]); first | done | rfl | (simp only [List.length_drop, List.length_take]; rfl)) ?_; (with_reducible refine (plot_Area.calls kj47 _ _ l0 t439 t440 _ ?side1 ?side2 A77.out).mono ?_); (case side1 => repeat (first | exact (Kd.C_below HR0.out HB.out) | (with_reducible refine Kd.C_alloc ?_ _) | (with_reducible refine Kd.C_drewN ?_ _) | (with_reducible refine Kd.C_drew ?_))); (case side2 => exact HC0.out); rintro e w90 ⟨rfl, hb⟩; refine ⟨_, rfl, ?_⟩; have n0_ := Aside0.mk (blk_below (g := gb428) (o := .cells #[.int .i64 a1_0, .int .i64 a1_1] 38 (0, 0)) (by (with_reducible repeat (first | refine blk_drewN ?_ _ | refine blk_drew ?_ | refine blk_alloc ?_ _)); exact BK428.out) hb); have n1_ := Aside0.mk (blk_below (g := gb429) (o := .cells #[.int .i64 a2_0, .int .i64 a2_1] 38 (0, 0)) (by (with_reducible repeat (first | refine blk_drewN ?_ _ | refine blk_drew ?_ | refine blk_alloc ?_ _)); exact BK429.out) hb); have n2_ := Aside0.mk (below_step (by repeat (first | (with_reducible first | exact HB.out | apply below_alloc | apply pw_below_drewN | apply below_drew1 | refine below_set ?_ GE428.out | refine below_set ?_ GE429.out) | exact HB.out)) hb); clear BK428; clear BK429; clear HB; have BK428 := n0_; have BK429 := n1_; have HB := n2_; clear n0_ n1_ n2_; (try clear hb); (try clear hb2); (try clear hk); (try clear hi); have hnb91 := NB428_429.out; have hnc91 := NB429_428.out; have hcz92_0 : w90.cell? ⟨gb428, 0, none⟩ = some (.int .i64 a1_0) := (blk_cell BK428.out 0).trans rfl; have hcz92_1 : w90.cell? ⟨gb428, 1, none⟩ = some (.int .i64 a1_1) := (blk_cell BK428.out 1).trans rfl; have hfz92_0 := blk_frozen BK428.out 0; have hfz92_1 := blk_frozen BK428.out 1) | ((with_reducible refine gate_callee (f := 31) rfl ?_); refine goesL_ (some 113) rfl rfl Try.func31 (by kernel_rfl) rfl #[.slice A0 l0.length c0, .agg #[.int .i64 a1_0, .int .i64 a1_1]] rfl (by (try simp only [List.map_toArray, List.map_cons, List.map_nil]); first | done | rfl | (simp only [List.length_drop, List.length_take]; rfl)) ?_; (with_reducible refine (plot_Times.calls kj47 _ _ l0 a1_0 a1_1 t441 t444 _ ?side1 ?side2 A78.out).mono ?_); (case side1 => repeat (first | exact (Kd.C_below HR0.out HB.out) | (with_reducible refine Kd.C_alloc ?_ _) | (with_reducible refine Kd.C_drewN ?_ _) | (with_reducible refine Kd.C_drew ?_))); (case side2 => exact HC0.out); rintro e w93 ⟨v442, rfl, ho0, hb⟩; refine ⟨_, rfl, ?_⟩; have n0_ := Aside0.mk (Kd.R_lower (Kd.R_newB (Kd.R_newB ho0 (g := gb428) (o := .cells #[.int .i64 a1_0, .int .i64 a1_1] 38 (0, 0)) (by (with_reducible repeat (first | refine blk_drewN ?_ _ | refine blk_drew ?_ | refine blk_alloc ?_ _)); exact BK428.out)) (g := gb429) (o := .cells #[.int .i64 a2_0, .int .i64 a2_1] 38 (0, 0)) (by (with_reducible repeat (first | refine blk_drewN ?_ _ | refine blk_drew ?_ | refine blk_alloc ?_ _)); exact BK429.out)) (below_size (by repeat (first | (with_reducible first | exact HB.out | apply below_alloc | apply pw_below_drewN | apply below_drew1 | refine below_set ?_ GE428.out | refine below_set ?_ GE429.out) | exact HB.out)))); have n1_ := Aside0.mk (blk_below (g := gb428) (o := .cells #[.int .i64 a1_0, .int .i64 a1_1] 38 (0, 0)) (by (with_reducible repeat (first | refine blk_drewN ?_ _ | refine blk_drew ?_ | refine blk_alloc ?_ _)); exact BK428.out) hb); have n2_ := Aside0.mk (blk_below (g := gb429) (o := .cells #[.int .i64 a2_0, .int .i64 a2_1] 38 (0, 0)) (by (with_reducible repeat (first | refine blk_drewN ?_ _ | refine blk_drew ?_ | refine blk_alloc ?_ _)); exact BK429.out) hb); have n3_ := Aside0.mk (below_step (by repeat (first | (with_reducible first | exact HB.out | apply below_alloc | apply pw_below_drewN | apply below_drew1 | refine below_set ?_ GE428.out | refine below_set ?_ GE429.out) | exact HB.out)) hb); clear BK428; clear BK429; clear HB; have HO443 := n0_; have BK428 := n1_; have BK429 := n2_; have HB := n3_; clear n0_ n1_ n2_ n3_; (try clear hb); (try clear hb2); (try clear hk); (try clear hi); (try clear ho0); obtain ⟨Ao94, co94, eo94⟩ := Kd.R_slice HO443.out; subst eo94) | ((with_reducible refine gate_callee (f := 37) rfl ?_); refine goesL_ (some 118) rfl rfl Try.func37 (by kernel_rfl) rfl #[.slice Ao94 t441.length co94] rfl (by (try simp only [List.map_toArray, List.map_cons, List.map_nil]); first | done | rfl | (simp only [List.length_drop, List.length_take]; rfl)) ?_; (with_reducible refine (plot_Area.calls kj47 _ _ t441 t445 t446 _ ?side1 ?side2 A79.out).mono ?_); (case side1 => repeat (first | exact (Kd.R_reads' HO443.out).2.2 | (with_reducible refine Kd.C_alloc ?_ _) | (with_reducible refine Kd.C_drewN ?_ _) | (with_reducible refine Kd.C_drew ?_))); (case side2 => exact (Kd.R_reads' HO443.out).2.1); rintro e w95 ⟨rfl, hb⟩; refine ⟨_, rfl, ?_⟩; have n0_ := Aside0.mk (Kd.R_below (by (with_reducible repeat (first | apply Kd.R_alloc | apply Kd.R_drewN | apply Kd.R_drew)); exact HO443.out) hb); have n1_ := Aside0.mk (blk_below (g := gb428) (o := .cells #[.int .i64 a1_0, .int .i64 a1_1] 38 (0, 0)) (by (with_reducible repeat (first | refine blk_drewN ?_ _ | refine blk_drew ?_ | refine blk_alloc ?_ _)); exact BK428.out) hb); have n2_ := Aside0.mk (blk_below (g := gb429) (o := .cells #[.int .i64 a2_0, .int .i64 a2_1] 38 (0, 0)) (by (with_reducible repeat (first | refine blk_drewN ?_ _ | refine blk_drew ?_ | refine blk_alloc ?_ _)); exact BK429.out) hb); have n3_ := Aside0.mk (below_step (by repeat (first | (with_reducible first | exact HB.out | apply below_alloc | apply pw_below_drewN | apply below_drew1 | refine below_set ?_ GE428.out | refine below_set ?_ GE429.out) | exact HB.out)) hb); clear HO443; clear BK428; clear BK429; clear HB; have HO443 := n0_; have BK428 := n1_; have BK429 := n2_; have HB := n3_; clear n0_ n1_ n2_ n3_; (try clear hb); (try clear hb2); (try clear hk); (try clear hi); have hcz96_0 : w95.cell? ⟨gb429, 0, none⟩ = some (.int .i64 a2_0) := (blk_cell BK429.out 0).trans rfl; have hcz96_1 : w95.cell? ⟨gb429, 1, none⟩ = some (.int .i64 a2_1) := (blk_cell BK429.out 1).trans rfl; have hfz96_0 := blk_frozen BK429.out 0; have hfz96_1 := blk_frozen BK429.out 1) | ((with_reducible refine gate_callee (f := 31) rfl ?_); refine goesL_ (some 124) rfl rfl Try.func31 (by kernel_rfl) rfl #[.slice A0 l0.length c0, .agg #[.int .i64 a2_0, .int .i64 a2_1]] rfl (by (try simp only [List.map_toArray, List.map_cons, List.map_nil]); first | done | rfl | (simp only [List.length_drop, List.length_take]; rfl)) ?_; (with_reducible refine (plot_Times.calls kj47 _ _ l0 a2_0 a2_1 t447 t450 _ ?side1 ?side2 A80.out).mono ?_); (case side1 => repeat (first | exact (Kd.C_below HR0.out HB.out) | (with_reducible refine Kd.C_alloc ?_ _) | (with_reducible refine Kd.C_drewN ?_ _) | (with_reducible refine Kd.C_drew ?_))); (case side2 => exact HC0.out); rintro e w97 ⟨v448, rfl, ho0, hb⟩; refine ⟨_, rfl, ?_⟩; have n0_ := Aside0.mk (Kd.R_elder' (by (with_reducible repeat (first | apply Kd.R_alloc | apply Kd.R_drewN | apply Kd.R_drew)); exact HO443.out) (Kd.R_base ho0) hb); have n1_ := Aside0.mk (Kd.R_lower (Kd.R_newB (Kd.R_newB (Kd.R_new' ho0 (Kd.R_lt (by (with_reducible repeat (first | apply Kd.R_alloc | apply Kd.R_drewN | apply Kd.R_drew)); exact HO443.out))) (g := gb428) (o := .cells #[.int .i64 a1_0, .int .i64 a1_1] 38 (0, 0)) (by (with_reducible repeat (first | refine blk_drewN ?_ _ | refine blk_drew ?_ | refine blk_alloc ?_ _)); exact BK428.out)) (g := gb429) (o := .cells #[.int .i64 a2_0, .int .i64 a2_1] 38 (0, 0)) (by (with_reducible repeat (first | refine blk_drewN ?_ _ | refine blk_drew ?_ | refine blk_alloc ?_ _)); exact BK429.out)) (below_size (by repeat (first | (with_reducible first | exact HB.out | apply below_alloc | apply pw_below_drewN | apply below_drew1 | refine below_set ?_ GE428.out | refine below_set ?_ GE429.out) | exact HB.out)))); have n2_ := Aside0.mk (blk_below (g := gb428) (o := .cells #[.int .i64 a1_0, .int .i64 a1_1] 38 (0, 0)) (by (with_reducible repeat (first | refine blk_drewN ?_ _ | refine blk_drew ?_ | refine blk_alloc ?_ _)); exact BK428.out) hb); have n3_ := Aside0.mk (blk_below (g := gb429) (o := .cells #[.int .i64 a2_0, .int .i64 a2_1] 38 (0, 0)) (by (with_reducible repeat (first | refine blk_drewN ?_ _ | refine blk_drew ?_ | refine blk_alloc ?_ _)); exact BK429.out) hb); have n4_ := Aside0.mk (below_step (by repeat (first | (with_reducible first | exact HB.out | apply below_alloc | apply pw_below_drewN | apply below_drew1 | refine below_set ?_ GE428.out | refine below_set ?_ GE429.out) | exact HB.out)) hb); clear HO443; clear BK428; clear BK429; clear HB; have HO443 := n0_; have HO449 := n1_; have BK428 := n2_; have BK429 := n3_; have HB := n4_; clear n0_ n1_ n2_ n3_ n4_; (try clear hb); (try clear hb2); (try clear hk); (try clear hi); (try clear ho0); have hcz98_0 : w97.cell? ⟨gb429, 0, none⟩ = some (.int .i64 a2_0) := (blk_cell BK429.out 0).trans rfl; have hcz98_1 : w97.cell? ⟨gb429, 1, none⟩ = some (.int .i64 a2_1) := (blk_cell BK429.out 1).trans rfl; have hfz98_0 := blk_frozen BK429.out 0; have hfz98_1 := blk_frozen BK429.out 1) | ((with_reducible refine gate_callee (f := 31) rfl ?_); refine goesL_ (some 130) rfl rfl Try.func31 (by kernel_rfl) rfl #[.slice Ao94 t441.length co94, .agg #[.int .i64 a2_0, .int .i64 a2_1]] rfl (by (try simp only [List.map_toArray, List.map_cons, List.map_nil]); first | done | rfl | (simp only [List.length_drop, List.length_take]; rfl)) ?_; (with_reducible refine (plot_Times.calls kj47 _ _ t441 a2_0 a2_1 t451 t454 _ ?side1 ?side2 A81.out).mono ?_); (case side1 => repeat (first | exact (Kd.R_reads' HO443.out).2.2 | (with_reducible refine Kd.C_alloc ?_ _) | (with_reducible refine Kd.C_drewN ?_ _) | (with_reducible refine Kd.C_drew ?_))); (case side2 => exact (Kd.R_reads' HO443.out).2.1); rintro e w99 ⟨v452, rfl, ho0, hb⟩; refine ⟨_, rfl, ?_⟩; have n0_ := Aside0.mk (Kd.R_elder' (by (with_reducible repeat (first | apply Kd.R_alloc | apply Kd.R_drewN | apply Kd.R_drew)); exact HO443.out) (Kd.R_base ho0) hb); have n1_ := Aside0.mk (Kd.R_elder' (by (with_reducible repeat (first | apply Kd.R_alloc | apply Kd.R_drewN | apply Kd.R_drew)); exact HO449.out) (Kd.R_base ho0) hb); have n2_ := Aside0.mk (Kd.R_lower (Kd.R_newB (Kd.R_newB (Kd.R_new' (Kd.R_new' ho0 (Kd.R_lt (by (with_reducible repeat (first | apply Kd.R_alloc | apply Kd.R_drewN | apply Kd.R_drew)); exact HO443.out))) (Kd.R_lt (by (with_reducible repeat (first | apply Kd.R_alloc | apply Kd.R_drewN | apply Kd.R_drew)); exact HO449.out))) (g := gb428) (o := .cells #[.int .i64 a1_0, .int .i64 a1_1] 38 (0, 0)) (by (with_reducible repeat (first | refine blk_drewN ?_ _ | refine blk_drew ?_ | refine blk_alloc ?_ _)); exact BK428.out)) (g := gb429) (o := .cells #[.int .i64 a2_0, .int .i64 a2_1] 38 (0, 0)) (by (with_reducible repeat (first | refine blk_drewN ?_ _ | refine blk_drew ?_ | refine blk_alloc ?_ _)); exact BK429.out)) (below_size (by repeat (first | (with_reducible first | exact HB.out | apply below_alloc | apply pw_below_drewN | apply below_drew1 | refine below_set ?_ GE428.out | refine below_set ?_ GE429.out) | exact HB.out)))); have n3_ := Aside0.mk (blk_below (g := gb428) (o := .cells #[.int .i64 a1_0, .int .i64 a1_1] 38 (0, 0)) (by (with_reducible repeat (first | refine blk_drewN ?_ _ | refine blk_drew ?_ | refine blk_alloc ?_ _)); exact BK428.out) hb); have n4_ := Aside0.mk (blk_below (g := gb429) (o := .cells #[.int .i64 a2_0, .int .i64 a2_1] 38 (0, 0)) (by (with_reducible repeat (first | refine blk_drewN ?_ _ | refine blk_drew ?_ | refine blk_alloc ?_ _)); exact BK429.out) hb); have n5_ := Aside0.mk (below_step (by repeat (first | (with_reducible first | exact HB.out | apply below_alloc | apply pw_below_drewN | apply below_drew1 | refine below_set ?_ GE428.out | refine below_set ?_ GE429.out) | exact HB.out)) hb); clear HO443; clear HO449; clear BK428; clear BK429; clear HB; have HO443 := n0_; have HO449 := n1_; have HO453 := n2_; have BK428 := n3_; have BK429 := n4_; have HB := n5_; clear n0_ n1_ n2_ n3_ n4_ n5_; (try clear hb); (try clear hb2); (try clear hk); (try clear hi); (try clear ho0); have hcz100_0 : w99.cell? ⟨gb428, 0, none⟩ = some (.int .i64 a1_0) := (blk_cell BK428.out 0).trans rfl; have hcz100_1 : w99.cell? ⟨gb428, 1, none⟩ = some (.int .i64 a1_1) := (blk_cell BK428.out 1).trans rfl; have hfz100_0 := blk_frozen BK428.out 0; have hfz100_1 := blk_frozen BK428.out 1; obtain ⟨Ao101, co101, eo101⟩ := Kd.R_slice HO449.out; subst eo101) | ((with_reducible refine gate_callee (f := 31) rfl ?_); refine goesL_ (some 136) rfl rfl Try.func31 (by kernel_rfl) rfl #[.slice Ao101 t447.length co101, .agg #[.int .i64 a1_0, .int .i64 a1_1]] rfl (by (try simp only [List.map_toArray, List.map_cons, List.map_nil]); first | done | rfl | (simp only [List.length_drop, List.length_take]; rfl)) ?_; (with_reducible refine (plot_Times.calls kj47 _ _ t447 a1_0 a1_1 t455 t458 _ ?side1 ?side2 A82.out).mono ?_); (case side1 => repeat (first | exact (Kd.R_reads' HO449.out).2.2 | (with_reducible refine Kd.C_alloc ?_ _) | (with_reducible refine Kd.C_drewN ?_ _) | (with_reducible refine Kd.C_drew ?_))); (case side2 => exact (Kd.R_reads' HO449.out).2.1); rintro e w102 ⟨v456, rfl, ho0, hb⟩; refine ⟨_, rfl, ?_⟩; have n0_ := Aside0.mk (Kd.R_elder' (by (with_reducible repeat (first | apply Kd.R_alloc | apply Kd.R_drewN | apply Kd.R_drew)); exact HO443.out) (Kd.R_base ho0) hb); have n1_ := Aside0.mk (Kd.R_elder' (by (with_reducible repeat (first | apply Kd.R_alloc | apply Kd.R_drewN | apply Kd.R_drew)); exact HO449.out) (Kd.R_base ho0) hb); have n2_ := Aside0.mk (Kd.R_elder' (by (with_reducible repeat (first | apply Kd.R_alloc | apply Kd.R_drewN | apply Kd.R_drew)); exact HO453.out) (Kd.R_base ho0) hb); have n3_ := Aside0.mk (Kd.R_lower (Kd.R_newB (Kd.R_newB (Kd.R_new' (Kd.R_new' (Kd.R_new' ho0 (Kd.R_lt (by (with_reducible repeat (first | apply Kd.R_alloc | apply Kd.R_drewN | apply Kd.R_drew)); exact HO443.out))) (Kd.R_lt (by (with_reducible repeat (first | apply Kd.R_alloc | apply Kd.R_drewN | apply Kd.R_drew)); exact HO449.out))) (Kd.R_lt (by (with_reducible repeat (first | apply Kd.R_alloc | apply Kd.R_drewN | apply Kd.R_drew)); exact HO453.out))) (g := gb428) (o := .cells #[.int .i64 a1_0, .int .i64 a1_1] 38 (0, 0)) (by (with_reducible repeat (first | refine blk_drewN ?_ _ | refine blk_drew ?_ | refine blk_alloc ?_ _)); exact BK428.out)) (g := gb429) (o := .cells #[.int .i64 a2_0, .int .i64 a2_1] 38 (0, 0)) (by (with_reducible repeat (first | refine blk_drewN ?_ _ | refine blk_drew ?_ | refine blk_alloc ?_ _)); exact BK429.out)) (below_size (by repeat (first | (with_reducible first | exact HB.out | apply below_alloc | apply pw_below_drewN | apply below_drew1 | refine below_set ?_ GE428.out | refine below_set ?_ GE429.out) | exact HB.out)))); have n4_ := Aside0.mk (blk_below (g := gb428) (o := .cells #[.int .i64 a1_0, .int .i64 a1_1] 38 (0, 0)) (by (with_reducible repeat (first | refine blk_drewN ?_ _ | refine blk_drew ?_ | refine blk_alloc ?_ _)); exact BK428.out) hb); have n5_ := Aside0.mk (blk_below (g := gb429) (o := .cells #[.int .i64 a2_0, .int .i64 a2_1] 38 (0, 0)) (by (with_reducible repeat (first | refine blk_drewN ?_ _ | refine blk_drew ?_ | refine blk_alloc ?_ _)); exact BK429.out) hb); have n6_ := Aside0.mk (below_step (by repeat (first | (with_reducible first | exact HB.out | apply below_alloc | apply pw_below_drewN | apply below_drew1 | refine below_set ?_ GE428.out | refine below_set ?_ GE429.out) | exact HB.out)) hb); clear HO443; clear HO449; clear HO453; clear BK428; clear BK429; clear HB; have HO443 := n0_; have HO449 := n1_; have HO453 := n2_; have HO457 := n3_; have BK428 := n4_; have BK429 := n5_; have HB := n6_; clear n0_ n1_ n2_ n3_ n4_ n5_ n6_; (try clear hb); (try clear hb2); (try clear hk); (try clear hi); (try clear ho0); have hcz103_0 : w102.cell? ⟨gb428, 0, none⟩ = some (.int .i64 a1_0) := (blk_cell BK428.out 0).trans rfl; have hcz103_1 : w102.cell? ⟨gb428, 1, none⟩ = some (.int .i64 a1_1) := (blk_cell BK428.out 1).trans rfl; have hfz103_0 := blk_frozen BK428.out 0; have hfz103_1 := blk_frozen BK428.out 1; obtain ⟨Ao104, co104, eo104⟩ := Kd.R_slice HO453.out; subst eo104; obtain ⟨Ao105, co105, eo105⟩ := Kd.R_slice HO457.out; subst eo105) | (go_at_call 40; (with_reducible refine (quitrentlaw21_same.calls kj47 _ _ t451 _ _ t455 t459 _ ?side1 ?side2 ?side3 ?side4 A89.out).mono ?_); (case side1 => repeat (first | exact (Kd.R_reads' HO453.out).2.2 | (with_reducible refine Kd.C_alloc ?_ _) | (with_reducible refine Kd.C_drewN ?_ _) | (with_reducible refine Kd.C_drew ?_))); (case side2 => exact (Kd.R_reads' HO453.out).2.1); (case side3 => repeat (first | exact (Kd.R_reads' HO457.out).2.2 | (with_reducible refine Kd.C_alloc ?_ _) | (with_reducible refine Kd.C_drewN ?_ _) | (with_reducible refine Kd.C_drew ?_))); (case side4 => exact (Kd.R_reads' HO457.out).2.1); rintro e w106 ⟨rfl, hb⟩; have n0_ := Aside0.mk (Kd.R_below (by (with_reducible repeat (first | apply Kd.R_alloc | apply Kd.R_drewN | apply Kd.R_drew)); exact HO443.out) hb); have n1_ := Aside0.mk (Kd.R_below (by (with_reducible repeat (first | apply Kd.R_alloc | apply Kd.R_drewN | apply Kd.R_drew)); exact HO449.out) hb); have n2_ := Aside0.mk (Kd.R_below (by (with_reducible repeat (first | apply Kd.R_alloc | apply Kd.R_drewN | apply Kd.R_drew)); exact HO453.out) hb); have n3_ := Aside0.mk (Kd.R_below (by (with_reducible repeat (first | apply Kd.R_alloc | apply Kd.R_drewN | apply Kd.R_drew)); exact HO457.out) hb); have n4_ := Aside0.mk (blk_below (g := gb428) (o := .cells #[.int .i64 a1_0, .int .i64 a1_1] 38 (0, 0)) (by (with_reducible repeat (first | refine blk_drewN ?_ _ | refine blk_drew ?_ | refine blk_alloc ?_ _)); exact BK428.out) hb); have n5_ := Aside0.mk (blk_below (g := gb429) (o := .cells #[.int .i64 a2_0, .int .i64 a2_1] 38 (0, 0)) (by (with_reducible repeat (first | refine blk_drewN ?_ _ | refine blk_drew ?_ | refine blk_alloc ?_ _)); exact BK429.out) hb); have n6_ := Aside0.mk (below_step (by repeat (first | (with_reducible first | exact HB.out | apply below_alloc | apply pw_below_drewN | apply below_drew1 | refine below_set ?_ GE428.out | refine below_set ?_ GE429.out) | exact HB.out)) hb); clear HO443; clear HO449; clear HO453; clear HO457; clear BK428; clear BK429; clear HB; have HO443 := n0_; have HO449 := n1_; have HO453 := n2_; have HO457 := n3_; have BK428 := n4_; have BK429 := n5_; have HB := n6_; clear n0_ n1_ n2_ n3_ n4_ n5_ n6_; (try clear hb); (try clear hb2); (try clear hk); (try clear hi)))
                                go_ret
                                exact ⟨by first | rfl | (simp [errW_none, errW_some] <;> rfl) | (simp [*, errW_none, errW_some] <;> rfl), by repeat (first | (with_reducible first | exact HB.out | apply below_alloc | apply pw_below_drewN | apply below_drew1 | refine below_set ?_ GE428.out | refine below_set ?_ GE429.out) | exact HB.out)⟩
                              · rw [if_neg c88] at H; cases H
                            · rw [if_neg c87] at H; cases H
                          · rw [if_neg c86] at H; cases H
                        · rw [if_neg c85] at H; cases H
                      · rw [if_neg c84] at H; cases H
                    · rw [if_neg c83] at H; cases H
      · rw [if_neg c10] at H; cases H
  · rw [if_neg c5] at H; cases H
end Go.Proofs.Ytkfbmplhcigopaa.PPlo
