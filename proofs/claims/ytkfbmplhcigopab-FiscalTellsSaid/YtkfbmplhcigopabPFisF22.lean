-- out of the print of PFis: quitrentref04_First
import Derived.Test.YtkfbmplhcigopabPFisx0
import Derived.Test.YtkfbmplhcigopabPFisx1
import Derived.Test.YtkfbmplhcigopabPFisF28
namespace Go.Proofs.Ytkfbmplhcigopab.PFis
open Go.RowKit Go.Proofs.YtkfbmplhcigopabW.PrintWords Go.Proofs.YtkfbmplhcigopabW.PrintLast Go.Proofs.YtkfbmplhcigopabW.PrintMore
attribute [local go_sem] max2_int min2_int max_two min_two max_three min_three max_four min_four   -- for this text's walks alone
set_option linter.unusedVariables false
set_option linter.unusedSimpArgs false

/-! ### quitrentref04_First: function 22 -/
mutual
def quitrentref04_First.j0 : Nat → Int → Bool → Int → Int → Option (Int × Int)
  | 0, _, _, _, _ => none
  | k + 1, x1, x13, x194000, x194001 => if x13 = true then (some (0, 1)) else (quitrentref04_First.l0 k x1 x194001 0 x194000 x194001)
def quitrentref04_First.l0 : Nat → Int → Int → Int → Int → Int → Option (Int × Int)
  | 0, _, _, _, _, _ => none
  | k + 1, x1, x6, x7, x194000, x194001 => if x7 < x1 then ((quitrentref04_Days.f k x194000 x194001 x7).bind fun t194 => (quitrentref04_First.l0 k x1 (wrap64 (x6 + t194)) (wrap64 (x7 + 1)) x194000 x194001)) else (some (x6, 0))
end
def quitrentref04_First.f (k : Nat) (a0_0 : Int) (a0_1 : Int) (a1 : Int) : Option (Int × Int) := if a1 < 0 then (quitrentref04_First.j0 k a1 true a0_0 a0_1) else (quitrentref04_First.j0 k a1 (decide (a1 ≥ 240)) a0_0 a0_1)
theorem quitrentref04_First.mono_l : ∀ k, (∀ y0 y1 y2 y3, LeO (quitrentref04_First.j0 k y0 y1 y2 y3) (quitrentref04_First.j0 (k + 1) y0 y1 y2 y3)) ∧ (∀ y0 y1 y2 y3 y4, LeO (quitrentref04_First.l0 k y0 y1 y2 y3 y4) (quitrentref04_First.l0 (k + 1) y0 y1 y2 y3 y4))
  | 0 => ⟨fun _ _ _ _ r h => by simp [quitrentref04_First.j0] at h, fun _ _ _ _ _ r h => by simp [quitrentref04_First.l0] at h⟩
  | k + 1 => by
    obtain ⟨ih0, ih1⟩ := quitrentref04_First.mono_l k
    refine ⟨?_, ?_⟩
    · intro y0 y1 y2 y3
      unfold quitrentref04_First.j0
      repeat' first
      | (with_reducible exact ih0 _ _ _ _)
      | (with_reducible exact ih1 _ _ _ _ _)
      | (with_reducible exact quitrentref04_Days.mono _ _ _ _)
      | (with_reducible exact LeO.refl _)
      | (with_reducible exact LeO.none _)
      | (with_reducible refine LeO.ite ?_ ?_)
      | (with_reducible refine LeO.bind ?_ (fun _ => ?_))
      | exact ih0 _ _ _ _
      | exact ih1 _ _ _ _ _
      | exact quitrentref04_Days.mono _ _ _ _
      | exact LeO.none _
      | refine LeO.ite ?_ ?_
      | refine LeO.bind ?_ (fun _ => ?_)
    · intro y0 y1 y2 y3 y4
      unfold quitrentref04_First.l0
      repeat' first
      | (with_reducible exact ih0 _ _ _ _)
      | (with_reducible exact ih1 _ _ _ _ _)
      | (with_reducible exact quitrentref04_Days.mono _ _ _ _)
      | (with_reducible exact LeO.refl _)
      | (with_reducible exact LeO.none _)
      | (with_reducible refine LeO.ite ?_ ?_)
      | (with_reducible refine LeO.bind ?_ (fun _ => ?_))
      | exact ih0 _ _ _ _
      | exact ih1 _ _ _ _ _
      | exact quitrentref04_Days.mono _ _ _ _
      | exact LeO.none _
      | refine LeO.ite ?_ ?_
      | refine LeO.bind ?_ (fun _ => ?_)
theorem quitrentref04_First.mono : ∀ a0 a1 a2 k, LeO (quitrentref04_First.f k a0 a1 a2) (quitrentref04_First.f (k + 1) a0 a1 a2) := by
  intro a0 a1 a2 k
  obtain ⟨ih0, ih1⟩ := quitrentref04_First.mono_l k
  unfold quitrentref04_First.f
  repeat' first
      | (with_reducible exact ih0 _ _ _ _)
      | (with_reducible exact ih1 _ _ _ _ _)
      | (with_reducible exact quitrentref04_Days.mono _ _ _ _)
      | (with_reducible exact LeO.refl _)
      | (with_reducible exact LeO.none _)
      | (with_reducible refine LeO.ite ?_ ?_)
      | (with_reducible refine LeO.bind ?_ (fun _ => ?_))
      | exact ih0 _ _ _ _
      | exact ih1 _ _ _ _ _
      | exact quitrentref04_Days.mono _ _ _ _
      | exact LeO.none _
      | refine LeO.ite ?_ ?_
      | refine LeO.bind ?_ (fun _ => ?_)
set_option maxHeartbeats 8000000 in
set_option maxRecDepth 100000 in
theorem quitrentref04_First.calls (k : Nat) (a0_0 : Int) (a0_1 : Int) (a1 : Int) (r1 : Int) (r2 : Int) (w : World) (h : quitrentref04_First.f k a0_0 a0_1 a1 = some (r1, r2)) :
    Calls Try.prog 22 #[.agg #[.int .i64 a0_0, .int .i64 a0_1], .int .i64 a1] w fun e w' => e = .returned (.tuple #[.int .i64 r1, .int .i64 r2]) ∧ Below w.heap.size w w' := by
  have hu45 := Try.underlying45
  have HB := Aside0.mk (Below.refl w.heap.size w)
  have H : (if a1 < 0 then (quitrentref04_First.j0 k a1 true a0_0 a0_1) else (quitrentref04_First.j0 k a1 (decide (a1 ≥ 240)) a0_0 a0_1)) = some (r1, r2) := h
  clear h
  have HC3 := Aside0.mk H
  clear H
  go_enter Try.func22, Try.ntmps22
  go_upto_region 1 with (first | ((with_reducible refine gate_dst (N := 2) rfl ?_); refine box_event ?hg (N := 2) ?hd (cs := #[.int .i64 a0_0, .int .i64 a0_1]) (t := 45) ?hr ?_; (case hd => rfl); (case hg => rfl); (case hr => first | (go_simp; done) | (go_simp; rfl)); intro gb193 hg w4 hbox hb; have n0_ := Aside0.mk (below_step (by repeat (first | (with_reducible first | exact HB.out | apply below_alloc | apply pw_below_drewN | apply below_drew1) | exact HB.out)) hb); have n1_ := Aside0.mk (hbox); have n2_ := Aside0.mk ((by rw [hg]; exact (below_size (by repeat (first | (with_reducible first | exact HB.out | apply below_alloc | apply pw_below_drewN | apply below_drew1) | exact HB.out))) : w.heap.size ≤ gb193)); have n3_ := Aside0.mk ((by rw [hg]; exact (below_size (by repeat (first | (with_reducible first | exact HB.out | apply below_alloc | apply pw_below_drewN | apply below_drew1) | exact HB.out))) : w.heap.size ≤ gb193)); clear HB; have HB := n0_; have BK193 := n1_; have GW193 := n2_; have GE193 := n3_; clear n0_ n1_ n2_ n3_; clear hb hbox hg))
  (try simp only [Act.put, List.setIfInBounds_toArray, List.set_cons_zero, List.set_cons_succ])
  go_cut [13] (fun v13 wc => ∃ (kq : Nat) (x13_2 : Bool), v13 = .bool x13_2 ∧ Aside0 (quitrentref04_First.j0 kq a1 x13_2 a0_0 a0_1 = some (r1, r2)) ∧ Aside0 (kq ≤ k) ∧ Aside0 (wc.heap[gb193]? = some (.cells #[.int .i64 a0_0, .int .i64 a0_1] 45 (0, 0))) ∧ Aside0 (Below w.heap.size w wc))
  case first =>
    have H := HC3.out
    clear HC3
    by_cases c5 : a1 < 0
    · rw [if_pos c5] at H
      have c5b0 : decide (a1 < 0) = true := decide_eq_true c5
      clear c5
      (first | rw [c5b0] | (simp only [i64_w, i32_w]; rw [c5b0]) | skip)
      have H' := Aside0.mk H
      clear H
      go_wp2
      go_meet
      case rel => exact ⟨_, (true), (by first | rfl | (simp; done) | (simp [*]; done)), H', ⟨by first | omega | exact Nat.le_refl _⟩, ⟨by (with_reducible repeat (first | refine blk_drewN ?_ _ | refine blk_drew ?_ | refine blk_alloc ?_ _)); exact BK193.out⟩, ⟨by repeat (first | (with_reducible first | exact HB.out | apply below_alloc | apply pw_below_drewN | apply below_drew1 | refine below_set ?_ GE193.out) | exact HB.out)⟩⟩
    · rw [if_neg c5] at H
      have c5b0 : decide (a1 < 0) = false := decide_eq_false c5
      clear c5
      (first | rw [c5b0] | (simp only [i64_w, i32_w]; rw [c5b0]) | skip)
      have H' := Aside0.mk H
      clear H
      go_wp2
      go_meet
      case rel => exact ⟨_, (decide (a1 ≥ 240)), (by first | rfl | (simp; done) | (simp [*]; done)), H', ⟨by first | omega | exact Nat.le_refl _⟩, ⟨by (with_reducible repeat (first | refine blk_drewN ?_ _ | refine blk_drew ?_ | refine blk_alloc ?_ _)); exact BK193.out⟩, ⟨by repeat (first | (with_reducible first | exact HB.out | apply below_alloc | apply pw_below_drewN | apply below_drew1 | refine below_set ?_ GE193.out) | exact HB.out)⟩⟩
  case rest =>
    clear HC3
    try clear c2
    try clear p2
    try clear c5
    try clear c5b0
    obtain ⟨kq, x13_2, rfl, HA, HJ2, BK193, HB⟩ := hcut
    cases kq with
    | zero => exact absurd HA.out (by simp [quitrentref04_First.j0])
    | succ kj2 =>
      have H := HA.out
      clear HA
      simp only [quitrentref04_First.j0] at H
      by_cases c6 : x13_2 = true
      · subst c6
        have H1 : (some (0, 1)) = some (r1, r2) := by rw [if_pos rfl] at H; exact H
        clear H
        have H := H1
        clear H1
        simp only [Option.some.injEq, Prod.mk.injEq] at H
        obtain ⟨rfl, rfl⟩ := H
        go_wp2
        go_ret2
        exact ⟨by first | rfl | (simp [errW_none, errW_some] <;> rfl) | (simp [*, errW_none, errW_some] <;> rfl), by repeat (first | (with_reducible first | exact HB.out | apply below_alloc | apply pw_below_drewN | apply below_drew1 | refine below_set ?_ GE193.out) | exact HB.out)⟩
      · replace c6 := Bool.eq_false_iff.mpr c6
        subst c6
        have H1 : (quitrentref04_First.l0 kj2 a1 a0_1 0 a0_0 a0_1) = some (r1, r2) := by rw [if_neg (show ¬ (false = true) by decide)] at H; exact H
        clear H
        have H := H1
        clear H1
        have H' := Aside0.mk H
        clear H
        have hcz7_0 : wc.cell? ⟨gb193, 0, none⟩ = some (.int .i64 a0_0) := (blk_cell BK193.out 0).trans rfl
        have hcz7_1 : wc.cell? ⟨gb193, 1, none⟩ = some (.int .i64 a0_1) := (blk_cell BK193.out 1).trans rfl
        have hfz7_0 := blk_frozen BK193.out 0
        have hfz7_1 := blk_frozen BK193.out 1
        go_wp2
        go_loopg [6, 7] kj2 (fun kq v6 v7 w' => ∃ (x6_2 : Int) (x7_2 : Int), v6 = .int .i64 x6_2 ∧ v7 = .int .i64 x7_2 ∧ Aside0 (quitrentref04_First.l0 kq a1 x6_2 x7_2 a0_0 a0_1 = some (r1, r2)) ∧ Aside0 (kq ≤ kj2) ∧ Aside0 (w'.heap[gb193]? = some (.cells #[.int .i64 a0_0, .int .i64 a0_1] 45 (0, 0))) ∧ Aside0 (Below w.heap.size w w'))
        case atStart => exact ⟨(a0_1), (0), (by first | rfl | (simp; done) | (simp [*]; done)), (by first | rfl | (simp; done) | (simp [*]; done)), H', ⟨Nat.le_refl _⟩, ⟨by (with_reducible repeat (first | refine blk_drewN ?_ _ | refine blk_drew ?_ | refine blk_alloc ?_ _)); exact BK193.out⟩, ⟨by repeat (first | (with_reducible first | exact HB.out | apply below_alloc | apply pw_below_drewN | apply below_drew1 | refine below_set ?_ GE193.out) | exact HB.out)⟩⟩
        case round =>
          clear H'
          try clear c2
          try clear p2
          try clear c5
          try clear c5b0
          try clear c6
          try clear hcz7_0
          try clear hcz7_1
          try clear hfz7_0
          try clear hfz7_1
          try clear p2
          obtain ⟨x6_2, x7_2, rfl, rfl, HA, HK2, BK193, HB⟩ := hrel
          cases gk with
          | zero => exact absurd HA.out (by simp [quitrentref04_First.l0])
          | succ k2 =>
            have H := HA.out
            clear HA
            simp only [quitrentref04_First.l0] at H
            by_cases c8 : x7_2 < a1
            · rw [if_pos c8] at H
              have c8b0 : decide (x7_2 < a1) = true := decide_eq_true c8
              clear c8
              replace H := Option.bind_eq_some_iff.mp H
              obtain ⟨t194, A90, H⟩ := H
              replace H : (quitrentref04_First.l0 k2 a1 (wrap64 (x6_2 + t194)) (wrap64 (x7_2 + 1)) a0_0 a0_1) = some (r1, r2) := H
              have A9 := Aside0.mk A90
              clear A90
              have H' := Aside0.mk H
              clear H
              have hcz10_0 : wr.cell? ⟨gb193, 0, none⟩ = some (.int .i64 a0_0) := (blk_cell BK193.out 0).trans rfl
              have hcz10_1 : wr.cell? ⟨gb193, 1, none⟩ = some (.int .i64 a0_1) := (blk_cell BK193.out 1).trans rfl
              have hfz10_0 := blk_frozen BK193.out 0
              have hfz10_1 := blk_frozen BK193.out 1
              go_wp2_with (first | ((with_reducible refine gate_callee (f := 28) rfl ?_); refine goesL_ (some 24) rfl rfl Try.func28 (by kernel_rfl) rfl #[.agg #[.int .i64 a0_0, .int .i64 a0_1], .int .i64 x7_2] rfl (by (try simp only [List.map_toArray, List.map_cons, List.map_nil]); first | done | rfl | (simp only [List.length_drop, List.length_take]; rfl)) ?_; (with_reducible refine (quitrentref04_Days.calls k2 a0_0 a0_1 x7_2 t194 _ A9.out).mono ?_); rintro e w11 ⟨rfl, hb⟩; refine ⟨_, rfl, ?_⟩; have n0_ := Aside0.mk (blk_below (g := gb193) (o := .cells #[.int .i64 a0_0, .int .i64 a0_1] 45 (0, 0)) (by (with_reducible repeat (first | refine blk_drewN ?_ _ | refine blk_drew ?_ | refine blk_alloc ?_ _)); exact BK193.out) hb); have n1_ := Aside0.mk (below_step (by repeat (first | (with_reducible first | exact HB.out | apply below_alloc | apply pw_below_drewN | apply below_drew1 | refine below_set ?_ GE193.out) | exact HB.out)) hb); clear BK193; clear HB; have BK193 := n0_; have HB := n1_; clear n0_ n1_; (try clear hb); (try clear hb2); (try clear hk); (try clear hi)))
              go_roundg k2
              case measure => have := HJ2.out; have := HK2.out; omega
              case rel => exact ⟨(wrap64 (x6_2 + t194)), (wrap64 (x7_2 + 1)), (by first | rfl | (simp; done) | (simp [*]; done)), (by first | rfl | (simp; done) | (simp [*]; done)), H', ⟨by have := HJ2.out; have := HK2.out; omega⟩, ⟨by (with_reducible repeat (first | refine blk_drewN ?_ _ | refine blk_drew ?_ | refine blk_alloc ?_ _)); exact BK193.out⟩, ⟨by repeat (first | (with_reducible first | exact HB.out | apply below_alloc | apply pw_below_drewN | apply below_drew1 | refine below_set ?_ GE193.out) | exact HB.out)⟩⟩
            · rw [if_neg c8] at H
              have c8b0 : decide (x7_2 < a1) = false := decide_eq_false c8
              clear c8
              simp only [Option.some.injEq, Prod.mk.injEq] at H
              obtain ⟨rfl, rfl⟩ := H
              go_wp2
              go_ret2
              exact ⟨by first | rfl | (simp [errW_none, errW_some] <;> rfl) | (simp [*, errW_none, errW_some] <;> rfl), by repeat (first | (with_reducible first | exact HB.out | apply below_alloc | apply pw_below_drewN | apply below_drew1 | refine below_set ?_ GE193.out) | exact HB.out)⟩
end Go.Proofs.Ytkfbmplhcigopab.PFis
