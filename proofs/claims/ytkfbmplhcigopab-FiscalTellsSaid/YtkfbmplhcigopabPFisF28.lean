-- out of the print of PFis: quitrentref04_Days
import Derived.Test.YtkfbmplhcigopabPFisx0
import Derived.Test.YtkfbmplhcigopabPFisx1
import Derived.Test.YtkfbmplhcigopabPFisF36
import Derived.Test.YtkfbmplhcigopabPFisF38
namespace Go.Proofs.Ytkfbmplhcigopab.PFis
open Go.RowKit Go.Proofs.YtkfbmplhcigopabW.PrintWords Go.Proofs.YtkfbmplhcigopabW.PrintLast Go.Proofs.YtkfbmplhcigopabW.PrintMore
attribute [local go_sem] max2_int min2_int max_two min_two max_three min_three max_four min_four   -- for this text's walks alone
set_option linter.unusedVariables false
set_option linter.unusedSimpArgs false

/-! ### quitrentref04_Days: function 28 -/
def quitrentref04_Days.j0 : Nat → Int → Bool → Int → Int → Option (Int)
  | 0, _, _, _, _ => none
  | k + 1, x1, x16, x182000, x182001 => if x16 = true then (some 0) else (if x182000 = 0 then ((quitrentref03_Date.f k x182001).bind fun bt182 => ((quitrentref03_Long.f k (wrap64 (Int.tdiv (wrap64 ((wrap64 ((wrap64 ((wrap64 (12 * bt182.1)) + bt182.2.1)) - 1)) + x1)) 12)) (wrap64 ((Int.tmod (wrap64 ((wrap64 ((wrap64 ((wrap64 (12 * bt182.1)) + bt182.2.1)) - 1)) + x1)) 12) + 1))).bind fun t186 => (some t186))) else (if (Int.tmod x1 3) = 2 then (if (Int.tmod x1 12) = 11 then (if (wrap64 (Int.tdiv (wrap64 (71 * (wrap64 ((wrap64 (Int.tdiv x1 12)) + 1)))) 400)) > (wrap64 (Int.tdiv (wrap64 (71 * (wrap64 (Int.tdiv x1 12)))) 400)) then (some 42) else (some 35)) else (some 35)) else (some 28)))
def quitrentref04_Days.f (k : Nat) (a0_0 : Int) (a0_1 : Int) (a1 : Int) : Option (Int) := if a1 < 0 then (quitrentref04_Days.j0 k a1 true a0_0 a0_1) else (quitrentref04_Days.j0 k a1 (decide (a1 ≥ 240)) a0_0 a0_1)
theorem quitrentref04_Days.mono_l : ∀ k, (∀ y0 y1 y2 y3, LeO (quitrentref04_Days.j0 k y0 y1 y2 y3) (quitrentref04_Days.j0 (k + 1) y0 y1 y2 y3))
  | 0 => fun _ _ _ _ r h => by simp [quitrentref04_Days.j0] at h
  | k + 1 => by
    have ih0 := quitrentref04_Days.mono_l k
    · intro y0 y1 y2 y3
      unfold quitrentref04_Days.j0
      repeat' first
      | (with_reducible exact ih0 _ _ _ _)
      | (with_reducible exact quitrentref03_Date.mono _ _)
      | (with_reducible exact quitrentref03_Long.mono _ _ _)
      | (with_reducible exact LeO.refl _)
      | (with_reducible exact LeO.none _)
      | (with_reducible refine LeO.ite ?_ ?_)
      | (with_reducible refine LeO.bind ?_ (fun _ => ?_))
      | exact ih0 _ _ _ _
      | exact quitrentref03_Date.mono _ _
      | exact quitrentref03_Long.mono _ _ _
      | exact LeO.none _
      | refine LeO.ite ?_ ?_
      | refine LeO.bind ?_ (fun _ => ?_)
theorem quitrentref04_Days.mono : ∀ a0 a1 a2 k, LeO (quitrentref04_Days.f k a0 a1 a2) (quitrentref04_Days.f (k + 1) a0 a1 a2) := by
  intro a0 a1 a2 k
  have ih0 := quitrentref04_Days.mono_l k
  unfold quitrentref04_Days.f
  repeat' first
      | (with_reducible exact ih0 _ _ _ _)
      | (with_reducible exact quitrentref03_Date.mono _ _)
      | (with_reducible exact quitrentref03_Long.mono _ _ _)
      | (with_reducible exact LeO.refl _)
      | (with_reducible exact LeO.none _)
      | (with_reducible refine LeO.ite ?_ ?_)
      | (with_reducible refine LeO.bind ?_ (fun _ => ?_))
      | exact ih0 _ _ _ _
      | exact quitrentref03_Date.mono _ _
      | exact quitrentref03_Long.mono _ _ _
      | exact LeO.none _
      | refine LeO.ite ?_ ?_
      | refine LeO.bind ?_ (fun _ => ?_)
set_option maxHeartbeats 8000000 in
set_option maxRecDepth 100000 in
theorem quitrentref04_Days.calls (k : Nat) (a0_0 : Int) (a0_1 : Int) (a1 : Int) (r : Int) (w : World) (h : quitrentref04_Days.f k a0_0 a0_1 a1 = some r) :
    Calls Try.prog 28 #[.agg #[.int .i64 a0_0, .int .i64 a0_1], .int .i64 a1] w fun e w' => e = .returned (.int .i64 r) ∧ Below w.heap.size w w' := by
  have hu45 := Try.underlying45
  have HB := Aside0.mk (Below.refl w.heap.size w)
  have H : (if a1 < 0 then (quitrentref04_Days.j0 k a1 true a0_0 a0_1) else (quitrentref04_Days.j0 k a1 (decide (a1 ≥ 240)) a0_0 a0_1)) = some r := h
  clear h
  have HC3 := Aside0.mk H
  clear H
  go_enter Try.func28, Try.ntmps28
  go_upto_region 1 with (first | ((with_reducible refine gate_dst (N := 2) rfl ?_); refine box_event ?hg (N := 2) ?hd (cs := #[.int .i64 a0_0, .int .i64 a0_1]) (t := 45) ?hr ?_; (case hd => rfl); (case hg => rfl); (case hr => first | (go_simp; done) | (go_simp; rfl)); intro gb181 hg w4 hbox hb; have n0_ := Aside0.mk (below_step (by repeat (first | (with_reducible first | exact HB.out | apply below_alloc | apply pw_below_drewN | apply below_drew1) | exact HB.out)) hb); have n1_ := Aside0.mk (hbox); have n2_ := Aside0.mk ((by rw [hg]; exact (below_size (by repeat (first | (with_reducible first | exact HB.out | apply below_alloc | apply pw_below_drewN | apply below_drew1) | exact HB.out))) : w.heap.size ≤ gb181)); have n3_ := Aside0.mk ((by rw [hg]; exact (below_size (by repeat (first | (with_reducible first | exact HB.out | apply below_alloc | apply pw_below_drewN | apply below_drew1) | exact HB.out))) : w.heap.size ≤ gb181)); clear HB; have HB := n0_; have BK181 := n1_; have GW181 := n2_; have GE181 := n3_; clear n0_ n1_ n2_ n3_; clear hb hbox hg))
  (try simp only [Act.put, List.setIfInBounds_toArray, List.set_cons_zero, List.set_cons_succ])
  go_cut [16] (fun v16 wc => ∃ (kq : Nat) (x16_2 : Bool), v16 = .bool x16_2 ∧ Aside0 (quitrentref04_Days.j0 kq a1 x16_2 a0_0 a0_1 = some r) ∧ Aside0 (kq ≤ k) ∧ Aside0 (wc.heap[gb181]? = some (.cells #[.int .i64 a0_0, .int .i64 a0_1] 45 (0, 0))) ∧ Aside0 (Below w.heap.size w wc))
  case first =>
    have H := HC3.out
    clear HC3
    by_cases c5 : a1 < 0
    · rw [if_pos c5] at H
      have c5b0 : decide (a1 < 0) = true := decide_eq_true c5
      clear c5
      (first | rw [c5b0] | (simp only [i64_w, i32_w]; rw [c5b0]) | skip)
      have H' := Aside0.mk H
      clear H
      go_wp2
      go_meet
      case rel => exact ⟨_, (true), (by first | rfl | (simp; done) | (simp [*]; done)), H', ⟨by first | omega | exact Nat.le_refl _⟩, ⟨by (with_reducible repeat (first | refine blk_drewN ?_ _ | refine blk_drew ?_ | refine blk_alloc ?_ _)); exact BK181.out⟩, ⟨by repeat (first | (with_reducible first | exact HB.out | apply below_alloc | apply pw_below_drewN | apply below_drew1 | refine below_set ?_ GE181.out) | exact HB.out)⟩⟩
    · rw [if_neg c5] at H
      have c5b0 : decide (a1 < 0) = false := decide_eq_false c5
      clear c5
      (first | rw [c5b0] | (simp only [i64_w, i32_w]; rw [c5b0]) | skip)
      have H' := Aside0.mk H
      clear H
      go_wp2
      go_meet
      case rel => exact ⟨_, (decide (a1 ≥ 240)), (by first | rfl | (simp; done) | (simp [*]; done)), H', ⟨by first | omega | exact Nat.le_refl _⟩, ⟨by (with_reducible repeat (first | refine blk_drewN ?_ _ | refine blk_drew ?_ | refine blk_alloc ?_ _)); exact BK181.out⟩, ⟨by repeat (first | (with_reducible first | exact HB.out | apply below_alloc | apply pw_below_drewN | apply below_drew1 | refine below_set ?_ GE181.out) | exact HB.out)⟩⟩
  case rest =>
    clear HC3
    try clear c2
    try clear p2
    try clear c5
    try clear c5b0
    obtain ⟨kq, x16_2, rfl, HA, HJ2, BK181, HB⟩ := hcut
    cases kq with
    | zero => exact absurd HA.out (by simp [quitrentref04_Days.j0])
    | succ kj2 =>
      have H := HA.out
      clear HA
      simp only [quitrentref04_Days.j0] at H
      by_cases c6 : x16_2 = true
      · subst c6
        have H1 : (some 0) = some r := by rw [if_pos rfl] at H; exact H
        clear H
        have H := H1
        clear H1
        obtain rfl := Option.some.inj H
        go_wp2
        go_ret
        exact ⟨by first | rfl | (simp [errW_none, errW_some] <;> rfl) | (simp [*, errW_none, errW_some] <;> rfl), by repeat (first | (with_reducible first | exact HB.out | apply below_alloc | apply pw_below_drewN | apply below_drew1 | refine below_set ?_ GE181.out) | exact HB.out)⟩
      · replace c6 := Bool.eq_false_iff.mpr c6
        subst c6
        have H1 : (if a0_0 = 0 then ((quitrentref03_Date.f kj2 a0_1).bind fun bt182 => ((quitrentref03_Long.f kj2 (wrap64 (Int.tdiv (wrap64 ((wrap64 ((wrap64 ((wrap64 (12 * bt182.1)) + bt182.2.1)) - 1)) + a1)) 12)) (wrap64 ((Int.tmod (wrap64 ((wrap64 ((wrap64 ((wrap64 (12 * bt182.1)) + bt182.2.1)) - 1)) + a1)) 12) + 1))).bind fun t186 => (some t186))) else (if (Int.tmod a1 3) = 2 then (if (Int.tmod a1 12) = 11 then (if (wrap64 (Int.tdiv (wrap64 (71 * (wrap64 ((wrap64 (Int.tdiv a1 12)) + 1)))) 400)) > (wrap64 (Int.tdiv (wrap64 (71 * (wrap64 (Int.tdiv a1 12)))) 400)) then (some 42) else (some 35)) else (some 35)) else (some 28))) = some r := by rw [if_neg (show ¬ (false = true) by decide)] at H; exact H
        clear H
        have H := H1
        clear H1
        by_cases c7 : a0_0 = 0
        · rw [if_pos c7] at H
          have c7b0 : (a0_0 == 0) = true := beq_iff_eq.mpr c7
          have c7b1 : (a0_0 != 0) = false := bne_eq_false_iff_eq.mpr c7
          clear c7
          replace H := Option.bind_eq_some_iff.mp H
          obtain ⟨⟨t182, t183, t184, t185⟩, A80, H⟩ := H
          replace H : ((quitrentref03_Long.f kj2 (wrap64 (Int.tdiv (wrap64 ((wrap64 ((wrap64 ((wrap64 (12 * t182)) + t183)) - 1)) + a1)) 12)) (wrap64 ((Int.tmod (wrap64 ((wrap64 ((wrap64 ((wrap64 (12 * t182)) + t183)) - 1)) + a1)) 12) + 1))).bind fun t186 => (some t186)) = some r := H
          have A8 := Aside0.mk A80
          clear A80
          replace H := Option.bind_eq_some_iff.mp H
          obtain ⟨t186, A90, H⟩ := H
          replace H : (some t186) = some r := H
          have A9 := Aside0.mk A90
          clear A90
          obtain rfl := Option.some.inj H
          have hcz10_0 : wc.cell? ⟨gb181, 0, none⟩ = some (.int .i64 a0_0) := (blk_cell BK181.out 0).trans rfl
          have hcz10_1 : wc.cell? ⟨gb181, 1, none⟩ = some (.int .i64 a0_1) := (blk_cell BK181.out 1).trans rfl
          have hfz10_0 := blk_frozen BK181.out 0
          have hfz10_1 := blk_frozen BK181.out 1
          go_wp2_with (first | ((with_reducible refine gate_callee (f := 36) rfl ?_); refine goesL_ (some 23) rfl rfl Try.func36 (by kernel_rfl) rfl #[.int .i64 a0_1] rfl (by (try simp only [List.map_toArray, List.map_cons, List.map_nil]); first | done | rfl | (simp only [List.length_drop, List.length_take]; rfl)) ?_; (with_reducible refine (quitrentref03_Date.calls kj2 a0_1 t182 t183 t184 t185 _ A8.out).mono ?_); rintro e w11 ⟨rfl, hb⟩; refine ⟨_, rfl, ?_⟩; have n0_ := Aside0.mk (blk_below (g := gb181) (o := .cells #[.int .i64 a0_0, .int .i64 a0_1] 45 (0, 0)) (by (with_reducible repeat (first | refine blk_drewN ?_ _ | refine blk_drew ?_ | refine blk_alloc ?_ _)); exact BK181.out) hb); have n1_ := Aside0.mk (below_step (by repeat (first | (with_reducible first | exact HB.out | apply below_alloc | apply pw_below_drewN | apply below_drew1 | refine below_set ?_ GE181.out) | exact HB.out)) hb); clear BK181; clear HB; have BK181 := n0_; have HB := n1_; clear n0_ n1_; (try clear hb); (try clear hb2); (try clear hk); (try clear hi)) | ((with_reducible refine gate_callee (f := 38) rfl ?_); refine goesL_ (some 40) rfl rfl Try.func38 (by kernel_rfl) rfl #[.int .i64 (wrap64 (Int.tdiv (wrap64 ((wrap64 ((wrap64 ((wrap64 (12 * t182)) + t183)) - 1)) + a1)) 12)), .int .i64 (wrap64 ((Int.tmod (wrap64 ((wrap64 ((wrap64 ((wrap64 (12 * t182)) + t183)) - 1)) + a1)) 12) + 1))] rfl (by (try simp only [List.map_toArray, List.map_cons, List.map_nil]); first | done | rfl | (simp only [List.length_drop, List.length_take]; rfl)) ?_; (with_reducible refine (quitrentref03_Long.calls kj2 (wrap64 (Int.tdiv (wrap64 ((wrap64 ((wrap64 ((wrap64 (12 * t182)) + t183)) - 1)) + a1)) 12)) (wrap64 ((Int.tmod (wrap64 ((wrap64 ((wrap64 ((wrap64 (12 * t182)) + t183)) - 1)) + a1)) 12) + 1)) t186 _ A9.out).mono ?_); rintro e w12 ⟨rfl, hb⟩; refine ⟨_, rfl, ?_⟩; have n0_ := Aside0.mk (blk_below (g := gb181) (o := .cells #[.int .i64 a0_0, .int .i64 a0_1] 45 (0, 0)) (by (with_reducible repeat (first | refine blk_drewN ?_ _ | refine blk_drew ?_ | refine blk_alloc ?_ _)); exact BK181.out) hb); have n1_ := Aside0.mk (below_step (by repeat (first | (with_reducible first | exact HB.out | apply below_alloc | apply pw_below_drewN | apply below_drew1 | refine below_set ?_ GE181.out) | exact HB.out)) hb); clear BK181; clear HB; have BK181 := n0_; have HB := n1_; clear n0_ n1_; (try clear hb); (try clear hb2); (try clear hk); (try clear hi)))
          go_ret
          exact ⟨by first | rfl | (simp [errW_none, errW_some] <;> rfl) | (simp [*, errW_none, errW_some] <;> rfl), by repeat (first | (with_reducible first | exact HB.out | apply below_alloc | apply pw_below_drewN | apply below_drew1 | refine below_set ?_ GE181.out) | exact HB.out)⟩
        · rw [if_neg c7] at H
          have c7b0 : (a0_0 == 0) = false := beq_eq_false_iff_ne.mpr c7
          have c7b1 : (a0_0 != 0) = true := bne_iff_ne.mpr c7
          by_cases c13 : (Int.tmod a1 3) = 2
          · rw [if_pos c13] at H
            have c13b0 : ((Int.tmod a1 3) == 2) = true := beq_iff_eq.mpr c13
            have c13b1 : ((Int.tmod a1 3) != 2) = false := bne_eq_false_iff_eq.mpr c13
            clear c13
            by_cases c14 : (Int.tmod a1 12) = 11
            · rw [if_pos c14] at H
              have c14b0 : ((Int.tmod a1 12) == 11) = true := beq_iff_eq.mpr c14
              have c14b1 : ((Int.tmod a1 12) != 11) = false := bne_eq_false_iff_eq.mpr c14
              clear c14
              by_cases c15 : (wrap64 (Int.tdiv (wrap64 (71 * (wrap64 ((wrap64 (Int.tdiv a1 12)) + 1)))) 400)) > (wrap64 (Int.tdiv (wrap64 (71 * (wrap64 (Int.tdiv a1 12)))) 400))
              · rw [if_pos c15] at H
                have c15b0 : decide ((wrap64 (Int.tdiv (wrap64 (71 * (wrap64 (Int.tdiv a1 12)))) 400)) < (wrap64 (Int.tdiv (wrap64 (71 * (wrap64 ((wrap64 (Int.tdiv a1 12)) + 1)))) 400))) = true := decide_eq_true c15
                clear c15
                obtain rfl := Option.some.inj H
                have hcz16_0 : wc.cell? ⟨gb181, 0, none⟩ = some (.int .i64 a0_0) := (blk_cell BK181.out 0).trans rfl
                have hcz16_1 : wc.cell? ⟨gb181, 1, none⟩ = some (.int .i64 a0_1) := (blk_cell BK181.out 1).trans rfl
                have hfz16_0 := blk_frozen BK181.out 0
                have hfz16_1 := blk_frozen BK181.out 1
                go_wp2
                go_ret
                exact ⟨by first | rfl | (simp [errW_none, errW_some] <;> rfl) | (simp [*, errW_none, errW_some] <;> rfl), by repeat (first | (with_reducible first | exact HB.out | apply below_alloc | apply pw_below_drewN | apply below_drew1 | refine below_set ?_ GE181.out) | exact HB.out)⟩
              · rw [if_neg c15] at H
                have c15b0 : decide ((wrap64 (Int.tdiv (wrap64 (71 * (wrap64 (Int.tdiv a1 12)))) 400)) < (wrap64 (Int.tdiv (wrap64 (71 * (wrap64 ((wrap64 (Int.tdiv a1 12)) + 1)))) 400))) = false := decide_eq_false c15
                clear c15
                obtain rfl := Option.some.inj H
                have hcz17_0 : wc.cell? ⟨gb181, 0, none⟩ = some (.int .i64 a0_0) := (blk_cell BK181.out 0).trans rfl
                have hcz17_1 : wc.cell? ⟨gb181, 1, none⟩ = some (.int .i64 a0_1) := (blk_cell BK181.out 1).trans rfl
                have hfz17_0 := blk_frozen BK181.out 0
                have hfz17_1 := blk_frozen BK181.out 1
                go_wp2
                go_ret
                exact ⟨by first | rfl | (simp [errW_none, errW_some] <;> rfl) | (simp [*, errW_none, errW_some] <;> rfl), by repeat (first | (with_reducible first | exact HB.out | apply below_alloc | apply pw_below_drewN | apply below_drew1 | refine below_set ?_ GE181.out) | exact HB.out)⟩
            · rw [if_neg c14] at H
              have c14b0 : ((Int.tmod a1 12) == 11) = false := beq_eq_false_iff_ne.mpr c14
              have c14b1 : ((Int.tmod a1 12) != 11) = true := bne_iff_ne.mpr c14
              obtain rfl := Option.some.inj H
              have hcz18_0 : wc.cell? ⟨gb181, 0, none⟩ = some (.int .i64 a0_0) := (blk_cell BK181.out 0).trans rfl
              have hcz18_1 : wc.cell? ⟨gb181, 1, none⟩ = some (.int .i64 a0_1) := (blk_cell BK181.out 1).trans rfl
              have hfz18_0 := blk_frozen BK181.out 0
              have hfz18_1 := blk_frozen BK181.out 1
              go_wp2
              go_ret
              exact ⟨by first | rfl | (simp [errW_none, errW_some] <;> rfl) | (simp [*, errW_none, errW_some] <;> rfl), by repeat (first | (with_reducible first | exact HB.out | apply below_alloc | apply pw_below_drewN | apply below_drew1 | refine below_set ?_ GE181.out) | exact HB.out)⟩
          · rw [if_neg c13] at H
            have c13b0 : ((Int.tmod a1 3) == 2) = false := beq_eq_false_iff_ne.mpr c13
            have c13b1 : ((Int.tmod a1 3) != 2) = true := bne_iff_ne.mpr c13
            obtain rfl := Option.some.inj H
            have hcz19_0 : wc.cell? ⟨gb181, 0, none⟩ = some (.int .i64 a0_0) := (blk_cell BK181.out 0).trans rfl
            have hcz19_1 : wc.cell? ⟨gb181, 1, none⟩ = some (.int .i64 a0_1) := (blk_cell BK181.out 1).trans rfl
            have hfz19_0 := blk_frozen BK181.out 0
            have hfz19_1 := blk_frozen BK181.out 1
            go_wp2
            go_ret
            exact ⟨by first | rfl | (simp [errW_none, errW_some] <;> rfl) | (simp [*, errW_none, errW_some] <;> rfl), by repeat (first | (with_reducible first | exact HB.out | apply below_alloc | apply pw_below_drewN | apply below_drew1 | refine below_set ?_ GE181.out) | exact HB.out)⟩
end Go.Proofs.Ytkfbmplhcigopab.PFis
