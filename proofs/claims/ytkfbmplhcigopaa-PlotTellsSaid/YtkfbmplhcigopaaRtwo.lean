/- What the document's points tell: may, check, fits, Times, Moved, Mirror, Area as lists, and that these are the lists of the program's. No condition. -/
import Derived.Test.YtkfbmplhcigopaaPPlox0
import Derived.Test.YtkfbmplhcigopaaPPlox1
import Derived.Test.YtkfbmplhcigopaaPloP
set_option linter.unusedSimpArgs false
set_option linter.unusedVariables false
namespace Go.Proofs.Ytkfbmplhcigopaa.PPlo
open Go.RowKit Go.Proofs.YtkfbmplhcigopaaW.PrintWords Go.Proofs.YtkfbmplhcigopaaW.PrintLast Go.Proofs.YtkfbmplhcigopaaW.PrintMore
attribute [local go_sem] max2_int min2_int max_two min_two max_three min_three max_four min_four   -- for this text's walks alone

/-! ### quitrentref21_may: function 66 -/
def quitrentref21_may.f (a0_0 : Int) (a0_1 : Int) : Option (Bool) := if a0_0 ≥ (-1048576) then (if a0_0 ≤ 1048576 then (if a0_1 ≥ (-1048576) then (some (decide (a0_1 ≤ 1048576))) else (some false)) else (some false)) else (some false)
set_option maxHeartbeats 8000000 in
set_option maxRecDepth 100000 in
theorem quitrentref21_may.calls (a0_0 : Int) (a0_1 : Int) (r : Bool) (w : World) (h : quitrentref21_may.f a0_0 a0_1 = some r) :
    Calls Try.prog 66 #[.agg #[.int .i64 a0_0, .int .i64 a0_1]] w fun e w' => e = .returned (.bool r) ∧ Below w.heap.size w w' := by
  have hu41 := Try.underlying41
  have HB := Aside0.mk (Below.refl w.heap.size w)
  have H : (if a0_0 ≥ (-1048576) then (if a0_0 ≤ 1048576 then (if a0_1 ≥ (-1048576) then (some (decide (a0_1 ≤ 1048576))) else (some false)) else (some false)) else (some false)) = some r := h
  clear h
  by_cases c2 : a0_0 ≥ (-1048576)
  · rw [if_pos c2] at H
    have c2b0 : decide ((-1048576) ≤ a0_0) = true := decide_eq_true c2
    clear c2
    by_cases c3 : a0_0 ≤ 1048576
    · rw [if_pos c3] at H
      have c3b0 : decide (a0_0 ≤ 1048576) = true := decide_eq_true c3
      clear c3
      by_cases c4 : a0_1 ≥ (-1048576)
      · rw [if_pos c4] at H
        have c4b0 : decide ((-1048576) ≤ a0_1) = true := decide_eq_true c4
        clear c4
        obtain rfl := Option.some.inj H
        go_enter Try.func66, Try.ntmps66
        go_wp2_with (first | ((with_reducible refine gate_dst (N := 1) rfl ?_); refine box_event ?hg (N := 1) ?hd (cs := #[.int .i64 a0_0, .int .i64 a0_1]) (t := 41) ?hr ?_; (case hd => rfl); (case hg => rfl); (case hr => first | (go_simp; done) | (go_simp; rfl)); intro gb229 hg w5 hbox hb; have n0_ := Aside0.mk (below_step (by repeat (first | (with_reducible first | exact HB.out | apply below_alloc | apply pw_below_drewN | apply below_drew1) | exact HB.out)) hb); have n1_ := Aside0.mk (hbox); have n2_ := Aside0.mk ((by rw [hg]; exact (below_size (by repeat (first | (with_reducible first | exact HB.out | apply below_alloc | apply pw_below_drewN | apply below_drew1) | exact HB.out))) : w.heap.size ≤ gb229)); have n3_ := Aside0.mk ((by rw [hg]; exact (below_size (by repeat (first | (with_reducible first | exact HB.out | apply below_alloc | apply pw_below_drewN | apply below_drew1) | exact HB.out))) : w.heap.size ≤ gb229)); clear HB; have HB := n0_; have BK229 := n1_; have GW229 := n2_; have GE229 := n3_; clear n0_ n1_ n2_ n3_; clear hb hbox hg; have hcz6_0 : w5.cell? ⟨gb229, 0, none⟩ = some (.int .i64 a0_0) := (blk_cell BK229.out 0).trans rfl; have hcz6_1 : w5.cell? ⟨gb229, 1, none⟩ = some (.int .i64 a0_1) := (blk_cell BK229.out 1).trans rfl; have hfz6_0 := blk_frozen BK229.out 0; have hfz6_1 := blk_frozen BK229.out 1))
        go_ret
        exact ⟨by first | rfl | (simp [errW_none, errW_some] <;> rfl) | (simp [*, errW_none, errW_some] <;> rfl), by repeat (first | (with_reducible first | exact HB.out | apply below_alloc | apply pw_below_drewN | apply below_drew1 | refine below_set ?_ GE229.out) | exact HB.out)⟩
      · rw [if_neg c4] at H
        have c4b0 : decide ((-1048576) ≤ a0_1) = false := decide_eq_false c4
        clear c4
        obtain rfl := Option.some.inj H
        go_enter Try.func66, Try.ntmps66
        go_wp2_with (first | ((with_reducible refine gate_dst (N := 1) rfl ?_); refine box_event ?hg (N := 1) ?hd (cs := #[.int .i64 a0_0, .int .i64 a0_1]) (t := 41) ?hr ?_; (case hd => rfl); (case hg => rfl); (case hr => first | (go_simp; done) | (go_simp; rfl)); intro gb229 hg w7 hbox hb; have n0_ := Aside0.mk (below_step (by repeat (first | (with_reducible first | exact HB.out | apply below_alloc | apply pw_below_drewN | apply below_drew1) | exact HB.out)) hb); have n1_ := Aside0.mk (hbox); have n2_ := Aside0.mk ((by rw [hg]; exact (below_size (by repeat (first | (with_reducible first | exact HB.out | apply below_alloc | apply pw_below_drewN | apply below_drew1) | exact HB.out))) : w.heap.size ≤ gb229)); have n3_ := Aside0.mk ((by rw [hg]; exact (below_size (by repeat (first | (with_reducible first | exact HB.out | apply below_alloc | apply pw_below_drewN | apply below_drew1) | exact HB.out))) : w.heap.size ≤ gb229)); clear HB; have HB := n0_; have BK229 := n1_; have GW229 := n2_; have GE229 := n3_; clear n0_ n1_ n2_ n3_; clear hb hbox hg; have hcz8_0 : w7.cell? ⟨gb229, 0, none⟩ = some (.int .i64 a0_0) := (blk_cell BK229.out 0).trans rfl; have hcz8_1 : w7.cell? ⟨gb229, 1, none⟩ = some (.int .i64 a0_1) := (blk_cell BK229.out 1).trans rfl; have hfz8_0 := blk_frozen BK229.out 0; have hfz8_1 := blk_frozen BK229.out 1))
        go_ret
        exact ⟨by first | rfl | (simp [errW_none, errW_some] <;> rfl) | (simp [*, errW_none, errW_some] <;> rfl), by repeat (first | (with_reducible first | exact HB.out | apply below_alloc | apply pw_below_drewN | apply below_drew1 | refine below_set ?_ GE229.out) | exact HB.out)⟩
    · rw [if_neg c3] at H
      have c3b0 : decide (a0_0 ≤ 1048576) = false := decide_eq_false c3
      clear c3
      obtain rfl := Option.some.inj H
      go_enter Try.func66, Try.ntmps66
      go_wp2_with (first | ((with_reducible refine gate_dst (N := 1) rfl ?_); refine box_event ?hg (N := 1) ?hd (cs := #[.int .i64 a0_0, .int .i64 a0_1]) (t := 41) ?hr ?_; (case hd => rfl); (case hg => rfl); (case hr => first | (go_simp; done) | (go_simp; rfl)); intro gb229 hg w9 hbox hb; have n0_ := Aside0.mk (below_step (by repeat (first | (with_reducible first | exact HB.out | apply below_alloc | apply pw_below_drewN | apply below_drew1) | exact HB.out)) hb); have n1_ := Aside0.mk (hbox); have n2_ := Aside0.mk ((by rw [hg]; exact (below_size (by repeat (first | (with_reducible first | exact HB.out | apply below_alloc | apply pw_below_drewN | apply below_drew1) | exact HB.out))) : w.heap.size ≤ gb229)); have n3_ := Aside0.mk ((by rw [hg]; exact (below_size (by repeat (first | (with_reducible first | exact HB.out | apply below_alloc | apply pw_below_drewN | apply below_drew1) | exact HB.out))) : w.heap.size ≤ gb229)); clear HB; have HB := n0_; have BK229 := n1_; have GW229 := n2_; have GE229 := n3_; clear n0_ n1_ n2_ n3_; clear hb hbox hg; have hcz10_0 : w9.cell? ⟨gb229, 0, none⟩ = some (.int .i64 a0_0) := (blk_cell BK229.out 0).trans rfl; have hcz10_1 : w9.cell? ⟨gb229, 1, none⟩ = some (.int .i64 a0_1) := (blk_cell BK229.out 1).trans rfl; have hfz10_0 := blk_frozen BK229.out 0; have hfz10_1 := blk_frozen BK229.out 1))
      go_ret
      exact ⟨by first | rfl | (simp [errW_none, errW_some] <;> rfl) | (simp [*, errW_none, errW_some] <;> rfl), by repeat (first | (with_reducible first | exact HB.out | apply below_alloc | apply pw_below_drewN | apply below_drew1 | refine below_set ?_ GE229.out) | exact HB.out)⟩
  · rw [if_neg c2] at H
    have c2b0 : decide ((-1048576) ≤ a0_0) = false := decide_eq_false c2
    clear c2
    obtain rfl := Option.some.inj H
    go_enter Try.func66, Try.ntmps66
    go_wp2_with (first | ((with_reducible refine gate_dst (N := 1) rfl ?_); refine box_event ?hg (N := 1) ?hd (cs := #[.int .i64 a0_0, .int .i64 a0_1]) (t := 41) ?hr ?_; (case hd => rfl); (case hg => rfl); (case hr => first | (go_simp; done) | (go_simp; rfl)); intro gb229 hg w11 hbox hb; have n0_ := Aside0.mk (below_step (by repeat (first | (with_reducible first | exact HB.out | apply below_alloc | apply pw_below_drewN | apply below_drew1) | exact HB.out)) hb); have n1_ := Aside0.mk (hbox); have n2_ := Aside0.mk ((by rw [hg]; exact (below_size (by repeat (first | (with_reducible first | exact HB.out | apply below_alloc | apply pw_below_drewN | apply below_drew1) | exact HB.out))) : w.heap.size ≤ gb229)); have n3_ := Aside0.mk ((by rw [hg]; exact (below_size (by repeat (first | (with_reducible first | exact HB.out | apply below_alloc | apply pw_below_drewN | apply below_drew1) | exact HB.out))) : w.heap.size ≤ gb229)); clear HB; have HB := n0_; have BK229 := n1_; have GW229 := n2_; have GE229 := n3_; clear n0_ n1_ n2_ n3_; clear hb hbox hg; have hcz12_0 : w11.cell? ⟨gb229, 0, none⟩ = some (.int .i64 a0_0) := (blk_cell BK229.out 0).trans rfl; have hcz12_1 : w11.cell? ⟨gb229, 1, none⟩ = some (.int .i64 a0_1) := (blk_cell BK229.out 1).trans rfl; have hfz12_0 := blk_frozen BK229.out 0; have hfz12_1 := blk_frozen BK229.out 1))
    go_ret
    exact ⟨by first | rfl | (simp [errW_none, errW_some] <;> rfl) | (simp [*, errW_none, errW_some] <;> rfl), by repeat (first | (with_reducible first | exact HB.out | apply below_alloc | apply pw_below_drewN | apply below_drew1 | refine below_set ?_ GE229.out) | exact HB.out)⟩

-- NOT PRINTED: function 30 (quitrentref21_Stairs)
end Go.Proofs.Ytkfbmplhcigopaa.PPlo
namespace Go.Proofs.Ytkfbmplhcigopaa.PPlo
open Go.RowKit Go.Proofs.YtkfbmplhcigopaaW.PrintWords Go.Proofs.YtkfbmplhcigopaaW.PrintLast Go.Proofs.YtkfbmplhcigopaaW.PrintMore
attribute [local go_sem] max2_int min2_int max_two min_two max_three min_three max_four min_four   -- for this text's walks alone

/-! ### quitrentref21_check: function 70 -/
def quitrentref21_check.l0 : Nat → List (S41) → Int → Option (Int)
  | 0, _, _ => none
  | k + 1, x0, x5 => if x5 < (x0.length : Int) then (if 0 ≤ x5 then ((quitrentref21_may.f ((rd_T41 x0 x5).f0) ((rd_T41 x0 x5).f1)).bind fun t242 => (if t242 = true then (quitrentref21_check.l0 k x0 (wrap64 (x5 + 1))) else (some 1))) else (none)) else (some 0)
def quitrentref21_check.f (k : Nat) (l0 : List (S41)) (a1_0 : Int) (a1_1 : Int) : Option (Int) := if (l0.length : Int) > 1000 then (some 4) else ((quitrentref21_may.f a1_0 a1_1).bind fun t240 => (if t240 = true then (quitrentref21_check.l0 k l0 0) else (some 1)))
theorem quitrentref21_check.mono_l : ∀ k, (∀ y0 y1, LeO (quitrentref21_check.l0 k y0 y1) (quitrentref21_check.l0 (k + 1) y0 y1))
  | 0 => fun _ _ r h => by simp [quitrentref21_check.l0] at h
  | k + 1 => by
    have ih0 := quitrentref21_check.mono_l k
    · intro y0 y1
      unfold quitrentref21_check.l0
      repeat' first
      | (with_reducible exact ih0 _ _)
      | (with_reducible exact LeO.refl _)
      | (with_reducible exact LeO.none _)
      | (with_reducible refine LeO.ite ?_ ?_)
      | (with_reducible refine LeO.bind ?_ (fun _ => ?_))
      | exact ih0 _ _
      | exact LeO.none _
      | refine LeO.ite ?_ ?_
      | refine LeO.bind ?_ (fun _ => ?_)
theorem quitrentref21_check.mono : ∀ a0 a1 a2 k, LeO (quitrentref21_check.f k a0 a1 a2) (quitrentref21_check.f (k + 1) a0 a1 a2) := by
  intro a0 a1 a2 k
  have ih0 := quitrentref21_check.mono_l k
  unfold quitrentref21_check.f
  repeat' first
      | (with_reducible exact ih0 _ _)
      | (with_reducible exact LeO.refl _)
      | (with_reducible exact LeO.none _)
      | (with_reducible refine LeO.ite ?_ ?_)
      | (with_reducible refine LeO.bind ?_ (fun _ => ?_))
      | exact ih0 _ _
      | exact LeO.none _
      | refine LeO.ite ?_ ?_
      | refine LeO.bind ?_ (fun _ => ?_)
set_option maxHeartbeats 8000000 in
set_option maxRecDepth 100000 in
theorem quitrentref21_check.calls (k : Nat) (A0 : Option Addr) (c0 : Nat) (l0 : List (S41)) (a1_0 : Int) (a1_1 : Int) (r : Int) (w : World) (hr0 : Kd.C k41 w A0 l0.length l0) (hc0 : l0.length ≤ c0) (h : quitrentref21_check.f k l0 a1_0 a1_1 = some r) :
    Calls Try.prog 70 #[.slice A0 l0.length c0, .agg #[.int .i64 a1_0, .int .i64 a1_1]] w fun e w' => e = .returned (.int .i64 r) ∧ Below w.heap.size w w' := by
  have hu41 := Try.underlying41
  have HR0 := Aside0.mk hr0
  have HC0 := Aside0.mk hc0
  clear hr0 hc0
  have HB := Aside0.mk (Below.refl w.heap.size w)
  have H : (if (l0.length : Int) > 1000 then (some 4) else ((quitrentref21_may.f a1_0 a1_1).bind fun t240 => (if t240 = true then (quitrentref21_check.l0 k l0 0) else (some 1)))) = some r := h
  clear h
  by_cases c3 : (l0.length : Int) > 1000
  · rw [if_pos c3] at H
    have c3b0 : decide (1000 < (l0.length : Int)) = true := decide_eq_true c3
    have c3b1 : decide (1000 < l0.length) = true := decide_eq_true (by omega)
    clear c3
    obtain rfl := Option.some.inj H
    go_enter Try.func70, Try.ntmps70
    go_wp2_with (first | ((with_reducible refine gate_dst (N := 3) rfl ?_); refine box_event ?hg (N := 3) ?hd (cs := #[.int .i64 a1_0, .int .i64 a1_1]) (t := 41) ?hr ?_; (case hd => rfl); (case hg => rfl); (case hr => first | (go_simp; done) | (go_simp; rfl)); intro gb239 hg w4 hbox hb; have n0_ := Aside0.mk (below_step (by repeat (first | (with_reducible first | exact HB.out | apply below_alloc | apply pw_below_drewN | apply below_drew1) | exact HB.out)) hb); have n1_ := Aside0.mk (hbox); have n2_ := Aside0.mk ((by rw [hg]; exact (below_size (by repeat (first | (with_reducible first | exact HB.out | apply below_alloc | apply pw_below_drewN | apply below_drew1) | exact HB.out))) : w.heap.size ≤ gb239)); have n3_ := Aside0.mk ((by rw [hg]; exact (below_size (by repeat (first | (with_reducible first | exact HB.out | apply below_alloc | apply pw_below_drewN | apply below_drew1) | exact HB.out))) : w.heap.size ≤ gb239)); clear HB; have HB := n0_; have BK239 := n1_; have GW239 := n2_; have GE239 := n3_; clear n0_ n1_ n2_ n3_; clear hb hbox hg))
    go_ret
    exact ⟨by first | rfl | (simp [errW_none, errW_some] <;> rfl) | (simp [*, errW_none, errW_some] <;> rfl), by repeat (first | (with_reducible first | exact HB.out | apply below_alloc | apply pw_below_drewN | apply below_drew1 | refine below_set ?_ GE239.out) | exact HB.out)⟩
  · rw [if_neg c3] at H
    have c3b0 : decide (1000 < (l0.length : Int)) = false := decide_eq_false c3
    have c3b1 : decide (1000 < l0.length) = false := decide_eq_false (by omega)
    clear c3
    replace H := Option.bind_eq_some_iff.mp H
    obtain ⟨t240, A50, H⟩ := H
    replace H : (if t240 = true then (quitrentref21_check.l0 k l0 0) else (some 1)) = some r := H
    have A5 := Aside0.mk A50
    clear A50
    by_cases c6 : t240 = true
    · subst c6
      have H1 : (quitrentref21_check.l0 k l0 0) = some r := by rw [if_pos rfl] at H; exact H
      clear H
      have H := H1
      clear H1
      have H' := Aside0.mk H
      clear H
      go_enter Try.func70, Try.ntmps70
      go_wp2_with (first | ((with_reducible refine gate_dst (N := 3) rfl ?_); refine box_event ?hg (N := 3) ?hd (cs := #[.int .i64 a1_0, .int .i64 a1_1]) (t := 41) ?hr ?_; (case hd => rfl); (case hg => rfl); (case hr => first | (go_simp; done) | (go_simp; rfl)); intro gb239 hg w7 hbox hb; have n0_ := Aside0.mk (below_step (by repeat (first | (with_reducible first | exact HB.out | apply below_alloc | apply pw_below_drewN | apply below_drew1) | exact HB.out)) hb); have n1_ := Aside0.mk (hbox); have n2_ := Aside0.mk ((by rw [hg]; exact (below_size (by repeat (first | (with_reducible first | exact HB.out | apply below_alloc | apply pw_below_drewN | apply below_drew1) | exact HB.out))) : w.heap.size ≤ gb239)); have n3_ := Aside0.mk ((by rw [hg]; exact (below_size (by repeat (first | (with_reducible first | exact HB.out | apply below_alloc | apply pw_below_drewN | apply below_drew1) | exact HB.out))) : w.heap.size ≤ gb239)); clear HB; have HB := n0_; have BK239 := n1_; have GW239 := n2_; have GE239 := n3_; clear n0_ n1_ n2_ n3_; clear hb hbox hg; have hcz8_0 : w7.cell? ⟨gb239, 0, none⟩ = some (.int .i64 a1_0) := (blk_cell BK239.out 0).trans rfl; have hcz8_1 : w7.cell? ⟨gb239, 1, none⟩ = some (.int .i64 a1_1) := (blk_cell BK239.out 1).trans rfl; have hfz8_0 := blk_frozen BK239.out 0; have hfz8_1 := blk_frozen BK239.out 1) | ((with_reducible refine gate_callee (f := 66) rfl ?_); refine goesL_ (some 10) rfl rfl Try.func66 (by kernel_rfl) rfl #[.agg #[.int .i64 a1_0, .int .i64 a1_1]] rfl (by (try simp only [List.map_toArray, List.map_cons, List.map_nil]); first | done | rfl | (simp only [List.length_drop, List.length_take]; rfl)) ?_; (with_reducible refine (quitrentref21_may.calls a1_0 a1_1 true _ A5.out).mono ?_); rintro e w9 ⟨rfl, hb⟩; refine ⟨_, rfl, ?_⟩; have n0_ := Aside0.mk (blk_below (g := gb239) (o := .cells #[.int .i64 a1_0, .int .i64 a1_1] 41 (0, 0)) (by (with_reducible repeat (first | refine blk_drewN ?_ _ | refine blk_drew ?_ | refine blk_alloc ?_ _)); exact BK239.out) hb); have n1_ := Aside0.mk (below_step (by repeat (first | (with_reducible first | exact HB.out | apply below_alloc | apply pw_below_drewN | apply below_drew1 | refine below_set ?_ GE239.out) | exact HB.out)) hb); clear BK239; clear HB; have BK239 := n0_; have HB := n1_; clear n0_ n1_; (try clear hb); (try clear hb2); (try clear hk); (try clear hi)))
      go_loopg [5] k (fun kq v5 w' => ∃ (x5_1 : Int), v5 = .int .i64 x5_1 ∧ Aside0 (quitrentref21_check.l0 kq l0 x5_1 = some r) ∧ Aside0 (kq ≤ k) ∧ Aside0 (w'.heap[gb239]? = some (.cells #[.int .i64 a1_0, .int .i64 a1_1] 41 (0, 0))) ∧ Aside0 (Below w.heap.size w w'))
      case atStart => exact ⟨(0), (by first | rfl | (simp; done) | (simp [*]; done)), H', ⟨Nat.le_refl _⟩, ⟨by (with_reducible repeat (first | refine blk_drewN ?_ _ | refine blk_drew ?_ | refine blk_alloc ?_ _)); exact BK239.out⟩, ⟨by repeat (first | (with_reducible first | exact HB.out | apply below_alloc | apply pw_below_drewN | apply below_drew1 | refine below_set ?_ GE239.out) | exact HB.out)⟩⟩
      case round =>
        clear H'
        try clear p2
        try clear c3
        try clear c3b0
        try clear c3b1
        try clear c6
        try clear c7
        try clear hcz8_0
        try clear hcz8_1
        try clear hfz8_0
        try clear hfz8_1
        obtain ⟨x5_1, rfl, HA, HK1, BK239, HB⟩ := hrel
        cases gk with
        | zero => exact absurd HA.out (by simp [quitrentref21_check.l0])
        | succ k1 =>
          have H := HA.out
          clear HA
          simp only [quitrentref21_check.l0] at H
          by_cases c10 : x5_1 < (l0.length : Int)
          · rw [if_pos c10] at H
            have c10b0 : decide (x5_1 < (l0.length : Int)) = true := decide_eq_true c10
            clear c10
            by_cases c11 : 0 ≤ x5_1
            · rw [if_pos c11] at H
              have c11b0 : decide (0 ≤ x5_1) = true := decide_eq_true c11
              clear c11
              replace H := Option.bind_eq_some_iff.mp H
              obtain ⟨t242, A120, H⟩ := H
              replace H : (if t242 = true then (quitrentref21_check.l0 k1 l0 (wrap64 (x5_1 + 1))) else (some 1)) = some r := H
              have A12 := Aside0.mk A120
              clear A120
              by_cases c13 : t242 = true
              · subst c13
                have H1 : (quitrentref21_check.l0 k1 l0 (wrap64 (x5_1 + 1))) = some r := by rw [if_pos rfl] at H; exact H
                clear H
                have H := H1
                clear H1
                have H' := Aside0.mk H
                clear H
                have p241 : 0 ≤ (x5_1 : Int) := of_decide_eq_true (by first | (with_reducible assumption) | assumption)
                have q241 : x5_1 < (l0.length : Int) := of_decide_eq_true (by first | (with_reducible assumption) | assumption)
                obtain ⟨ad241, e241, hx241_0, hx241_1⟩ := at_T41 HR0.out x5_1 p241 q241
                cases e241
                replace hx241_0 := (HB.out.cell (World.block_lt_of_cell? w _ hx241_0)).trans hx241_0
                replace hx241_1 := (HB.out.cell (World.block_lt_of_cell? w _ hx241_1)).trans hx241_1
                replace p241 := eq_true p241
                replace q241 := eq_true q241
                go_wp2_with (first | ((with_reducible refine gate_callee (f := 66) rfl ?_); refine goesL_ (some 22) rfl rfl Try.func66 (by kernel_rfl) rfl #[.agg #[.int .i64 ((rd_T41 l0 x5_1).f0), .int .i64 ((rd_T41 l0 x5_1).f1)]] rfl (by (try simp only [List.map_toArray, List.map_cons, List.map_nil]); first | done | rfl | (simp only [List.length_drop, List.length_take]; rfl)) ?_; (with_reducible refine (quitrentref21_may.calls ((rd_T41 l0 x5_1).f0) ((rd_T41 l0 x5_1).f1) true _ A12.out).mono ?_); rintro e w14 ⟨rfl, hb⟩; refine ⟨_, rfl, ?_⟩; have n0_ := Aside0.mk (blk_below (g := gb239) (o := .cells #[.int .i64 a1_0, .int .i64 a1_1] 41 (0, 0)) (by (with_reducible repeat (first | refine blk_drewN ?_ _ | refine blk_drew ?_ | refine blk_alloc ?_ _)); exact BK239.out) hb); have n1_ := Aside0.mk (below_step (by repeat (first | (with_reducible first | exact HB.out | apply below_alloc | apply pw_below_drewN | apply below_drew1 | refine below_set ?_ GE239.out) | exact HB.out)) hb); clear BK239; clear HB; have BK239 := n0_; have HB := n1_; clear n0_ n1_; (try clear hb); (try clear hb2); (try clear hk); (try clear hi)))
                go_roundg k1
                case measure => have := HK1.out; omega
                case rel => exact ⟨(wrap64 (x5_1 + 1)), (by first | rfl | (simp; done) | (simp [*]; done)), H', ⟨by have := HK1.out; omega⟩, ⟨by (with_reducible repeat (first | refine blk_drewN ?_ _ | refine blk_drew ?_ | refine blk_alloc ?_ _)); exact BK239.out⟩, ⟨by repeat (first | (with_reducible first | exact HB.out | apply below_alloc | apply pw_below_drewN | apply below_drew1 | refine below_set ?_ GE239.out) | exact HB.out)⟩⟩
              · replace c13 := Bool.eq_false_iff.mpr c13
                subst c13
                have H1 : (some 1) = some r := by rw [if_neg (show ¬ (false = true) by decide)] at H; exact H
                clear H
                have H := H1
                clear H1
                obtain rfl := Option.some.inj H
                have p241 : 0 ≤ (x5_1 : Int) := of_decide_eq_true (by first | (with_reducible assumption) | assumption)
                have q241 : x5_1 < (l0.length : Int) := of_decide_eq_true (by first | (with_reducible assumption) | assumption)
                obtain ⟨ad241, e241, hx241_0, hx241_1⟩ := at_T41 HR0.out x5_1 p241 q241
                cases e241
                replace hx241_0 := (HB.out.cell (World.block_lt_of_cell? w _ hx241_0)).trans hx241_0
                replace hx241_1 := (HB.out.cell (World.block_lt_of_cell? w _ hx241_1)).trans hx241_1
                replace p241 := eq_true p241
                replace q241 := eq_true q241
                go_wp2_with (first | ((with_reducible refine gate_callee (f := 66) rfl ?_); refine goesL_ (some 22) rfl rfl Try.func66 (by kernel_rfl) rfl #[.agg #[.int .i64 ((rd_T41 l0 x5_1).f0), .int .i64 ((rd_T41 l0 x5_1).f1)]] rfl (by (try simp only [List.map_toArray, List.map_cons, List.map_nil]); first | done | rfl | (simp only [List.length_drop, List.length_take]; rfl)) ?_; (with_reducible refine (quitrentref21_may.calls ((rd_T41 l0 x5_1).f0) ((rd_T41 l0 x5_1).f1) false _ A12.out).mono ?_); rintro e w15 ⟨rfl, hb⟩; refine ⟨_, rfl, ?_⟩; have n0_ := Aside0.mk (blk_below (g := gb239) (o := .cells #[.int .i64 a1_0, .int .i64 a1_1] 41 (0, 0)) (by (with_reducible repeat (first | refine blk_drewN ?_ _ | refine blk_drew ?_ | refine blk_alloc ?_ _)); exact BK239.out) hb); have n1_ := Aside0.mk (below_step (by repeat (first | (with_reducible first | exact HB.out | apply below_alloc | apply pw_below_drewN | apply below_drew1 | refine below_set ?_ GE239.out) | exact HB.out)) hb); clear BK239; clear HB; have BK239 := n0_; have HB := n1_; clear n0_ n1_; (try clear hb); (try clear hb2); (try clear hk); (try clear hi)))
                go_ret
                exact ⟨by first | rfl | (simp [errW_none, errW_some] <;> rfl) | (simp [*, errW_none, errW_some] <;> rfl), by repeat (first | (with_reducible first | exact HB.out | apply below_alloc | apply pw_below_drewN | apply below_drew1 | refine below_set ?_ GE239.out) | exact HB.out)⟩
            · rw [if_neg c11] at H
              exact absurd H (by simp)
          · rw [if_neg c10] at H
            have c10b0 : decide (x5_1 < (l0.length : Int)) = false := decide_eq_false c10
            clear c10
            obtain rfl := Option.some.inj H
            go_wp2
            go_ret
            exact ⟨by first | rfl | (simp [errW_none, errW_some] <;> rfl) | (simp [*, errW_none, errW_some] <;> rfl), by repeat (first | (with_reducible first | exact HB.out | apply below_alloc | apply pw_below_drewN | apply below_drew1 | refine below_set ?_ GE239.out) | exact HB.out)⟩
    · replace c6 := Bool.eq_false_iff.mpr c6
      subst c6
      have H1 : (some 1) = some r := by rw [if_neg (show ¬ (false = true) by decide)] at H; exact H
      clear H
      have H := H1
      clear H1
      obtain rfl := Option.some.inj H
      go_enter Try.func70, Try.ntmps70
      go_wp2_with (first | ((with_reducible refine gate_dst (N := 3) rfl ?_); refine box_event ?hg (N := 3) ?hd (cs := #[.int .i64 a1_0, .int .i64 a1_1]) (t := 41) ?hr ?_; (case hd => rfl); (case hg => rfl); (case hr => first | (go_simp; done) | (go_simp; rfl)); intro gb239 hg w16 hbox hb; have n0_ := Aside0.mk (below_step (by repeat (first | (with_reducible first | exact HB.out | apply below_alloc | apply pw_below_drewN | apply below_drew1) | exact HB.out)) hb); have n1_ := Aside0.mk (hbox); have n2_ := Aside0.mk ((by rw [hg]; exact (below_size (by repeat (first | (with_reducible first | exact HB.out | apply below_alloc | apply pw_below_drewN | apply below_drew1) | exact HB.out))) : w.heap.size ≤ gb239)); have n3_ := Aside0.mk ((by rw [hg]; exact (below_size (by repeat (first | (with_reducible first | exact HB.out | apply below_alloc | apply pw_below_drewN | apply below_drew1) | exact HB.out))) : w.heap.size ≤ gb239)); clear HB; have HB := n0_; have BK239 := n1_; have GW239 := n2_; have GE239 := n3_; clear n0_ n1_ n2_ n3_; clear hb hbox hg; have hcz17_0 : w16.cell? ⟨gb239, 0, none⟩ = some (.int .i64 a1_0) := (blk_cell BK239.out 0).trans rfl; have hcz17_1 : w16.cell? ⟨gb239, 1, none⟩ = some (.int .i64 a1_1) := (blk_cell BK239.out 1).trans rfl; have hfz17_0 := blk_frozen BK239.out 0; have hfz17_1 := blk_frozen BK239.out 1) | ((with_reducible refine gate_callee (f := 66) rfl ?_); refine goesL_ (some 10) rfl rfl Try.func66 (by kernel_rfl) rfl #[.agg #[.int .i64 a1_0, .int .i64 a1_1]] rfl (by (try simp only [List.map_toArray, List.map_cons, List.map_nil]); first | done | rfl | (simp only [List.length_drop, List.length_take]; rfl)) ?_; (with_reducible refine (quitrentref21_may.calls a1_0 a1_1 false _ A5.out).mono ?_); rintro e w18 ⟨rfl, hb⟩; refine ⟨_, rfl, ?_⟩; have n0_ := Aside0.mk (blk_below (g := gb239) (o := .cells #[.int .i64 a1_0, .int .i64 a1_1] 41 (0, 0)) (by (with_reducible repeat (first | refine blk_drewN ?_ _ | refine blk_drew ?_ | refine blk_alloc ?_ _)); exact BK239.out) hb); have n1_ := Aside0.mk (below_step (by repeat (first | (with_reducible first | exact HB.out | apply below_alloc | apply pw_below_drewN | apply below_drew1 | refine below_set ?_ GE239.out) | exact HB.out)) hb); clear BK239; clear HB; have BK239 := n0_; have HB := n1_; clear n0_ n1_; (try clear hb); (try clear hb2); (try clear hk); (try clear hi)))
      go_ret
      exact ⟨by first | rfl | (simp [errW_none, errW_some] <;> rfl) | (simp [*, errW_none, errW_some] <;> rfl), by repeat (first | (with_reducible first | exact HB.out | apply below_alloc | apply pw_below_drewN | apply below_drew1 | refine below_set ?_ GE239.out) | exact HB.out)⟩
end Go.Proofs.Ytkfbmplhcigopaa.PPlo
namespace Go.Proofs.Ytkfbmplhcigopaa.PPlo
open Go.RowKit Go.Proofs.YtkfbmplhcigopaaW.PrintWords Go.Proofs.YtkfbmplhcigopaaW.PrintLast Go.Proofs.YtkfbmplhcigopaaW.PrintMore
attribute [local go_sem] max2_int min2_int max_two min_two max_three min_three max_four min_four   -- for this text's walks alone

/-! ### quitrentref21_fits: function 71 -/
def quitrentref21_fits.l0 : Nat → List (S41) → Int → Option ((List (S41)) × Int)
  | 0, _, _ => none
  | k + 1, x0, x4 => if x4 < (x0.length : Int) then (if 0 ≤ x4 then ((quitrentref21_may.f ((rd_T41 x0 x4).f0) ((rd_T41 x0 x4).f1)).bind fun t244 => (if t244 = true then (quitrentref21_fits.l0 k x0 (wrap64 (x4 + 1))) else (some (([] : List (S41)), 3)))) else (none)) else (some (x0, 0))
def quitrentref21_fits.f (k : Nat) (l0 : List (S41)) : Option ((List (S41)) × Int) := quitrentref21_fits.l0 k l0 0
theorem quitrentref21_fits.mono_l : ∀ k, (∀ y0 y1, LeO (quitrentref21_fits.l0 k y0 y1) (quitrentref21_fits.l0 (k + 1) y0 y1))
  | 0 => fun _ _ r h => by simp [quitrentref21_fits.l0] at h
  | k + 1 => by
    have ih0 := quitrentref21_fits.mono_l k
    · intro y0 y1
      unfold quitrentref21_fits.l0
      repeat' first
      | (with_reducible exact ih0 _ _)
      | (with_reducible exact LeO.refl _)
      | (with_reducible exact LeO.none _)
      | (with_reducible refine LeO.ite ?_ ?_)
      | (with_reducible refine LeO.bind ?_ (fun _ => ?_))
      | exact ih0 _ _
      | exact LeO.none _
      | refine LeO.ite ?_ ?_
      | refine LeO.bind ?_ (fun _ => ?_)
theorem quitrentref21_fits.mono : ∀ a0 k, LeO (quitrentref21_fits.f k a0) (quitrentref21_fits.f (k + 1) a0) := by
  intro a0 k
  have ih0 := quitrentref21_fits.mono_l k
  unfold quitrentref21_fits.f
  repeat' first
      | (with_reducible exact ih0 _ _)
      | (with_reducible exact LeO.refl _)
      | (with_reducible exact LeO.none _)
      | (with_reducible refine LeO.ite ?_ ?_)
      | (with_reducible refine LeO.bind ?_ (fun _ => ?_))
      | exact ih0 _ _
      | exact LeO.none _
      | refine LeO.ite ?_ ?_
      | refine LeO.bind ?_ (fun _ => ?_)
set_option maxHeartbeats 8000000 in
set_option maxRecDepth 100000 in
theorem quitrentref21_fits.calls (k : Nat) (P0_ : Nat → Prop) (u9000_ : Value) (l0 : List (S41)) (r1 : List (S41)) (r2 : Int) (w0 w : World) (hB : Below w0.heap.size w0 w) (ho0 : Kd.R k41 41 w w0.heap.size P0_ u9000_ l0) (h : quitrentref21_fits.f k l0 = some (r1, r2)) :
    Calls Try.prog 71 #[u9000_] w fun e w' => ∃ v0_ : Value, e = .returned (.tuple #[v0_, .int .i64 r2]) ∧ Kd.R k41 41 w' w0.heap.size (fun k_ => (P0_ k_ ∨ w.heap.size ≤ k_)) v0_ r1 ∧ Below w0.heap.size w0 w' ∧ Kept w w' (fun k_ => P0_ k_) := by
  have hu41 := Try.underlying41
  have HO0 := Aside0.mk (show Kd.R k41 41 w w0.heap.size (fun k_ => (P0_ k_ ∨ w.heap.size ≤ k_)) u9000_ l0 from Kd.R_mono ho0 (fun k_ hk => (.inl hk)))
  have HK := Aside0.mk (Kept.refl w (fun k_ => P0_ k_))
  have HW0 := Aside0.mk hB.size
  have HB := Aside0.mk hB
  clear hB
  have H : (quitrentref21_fits.l0 k l0 0) = some (r1, r2) := h
  clear h
  have H' := Aside0.mk H
  clear H
  go_enter Try.func71, Try.ntmps71
  go_wp2
  go_loopg [4] k (fun kq v4 w' => ∃ (x4_1 : Int), v4 = .int .i64 x4_1 ∧ Aside0 (quitrentref21_fits.l0 kq l0 x4_1 = some (r1, r2)) ∧ Aside0 (kq ≤ k) ∧ Aside0 (Kd.R k41 41 w' w0.heap.size (fun k_ => (P0_ k_ ∨ w.heap.size ≤ k_)) u9000_ l0) ∧ Aside0 (Kept w w' (fun k_ => P0_ k_)) ∧ Aside0 (Below w0.heap.size w0 w'))
  case atStart => exact ⟨(0), (by first | rfl | (simp; done) | (simp [*]; done)), H', ⟨Nat.le_refl _⟩, ⟨by (with_reducible repeat (first | apply Kd.R_alloc | apply Kd.R_drewN | apply Kd.R_drew)); exact HO0.out⟩, ⟨by repeat (first | (with_reducible first | exact HK.out | apply Kept.alloc | apply Kept.drewN | apply Kept.drew) | exact HK.out)⟩, ⟨by repeat (first | (with_reducible first | exact HB.out | apply below_alloc | apply pw_below_drewN | apply below_drew1) | exact HB.out)⟩⟩
  case round =>
    clear H'
    obtain ⟨x4_1, rfl, HA, HK1, HO_0, HK, HB⟩ := hrel
    cases gk with
    | zero => exact absurd HA.out (by simp [quitrentref21_fits.l0])
    | succ k1 =>
      have H := HA.out
      clear HA
      simp only [quitrentref21_fits.l0] at H
      by_cases c2 : x4_1 < (l0.length : Int)
      · rw [if_pos c2] at H
        have c2b0 : decide (x4_1 < (l0.length : Int)) = true := decide_eq_true c2
        clear c2
        by_cases c3 : 0 ≤ x4_1
        · rw [if_pos c3] at H
          have c3b0 : decide (0 ≤ x4_1) = true := decide_eq_true c3
          clear c3
          replace H := Option.bind_eq_some_iff.mp H
          obtain ⟨t244, A40, H⟩ := H
          replace H : (if t244 = true then (quitrentref21_fits.l0 k1 l0 (wrap64 (x4_1 + 1))) else (some (([] : List (S41)), 3))) = some (r1, r2) := H
          have A4 := Aside0.mk A40
          clear A40
          by_cases c5 : t244 = true
          · subst c5
            have H1 : (quitrentref21_fits.l0 k1 l0 (wrap64 (x4_1 + 1))) = some (r1, r2) := by rw [if_pos rfl] at H; exact H
            clear H
            have H := H1
            clear H1
            have H' := Aside0.mk H
            clear H
            obtain ⟨Ao6, co6, eo6⟩ := Kd.R_slice HO_0.out
            subst eo6
            have p243 : 0 ≤ (x4_1 : Int) := of_decide_eq_true (by first | (with_reducible assumption) | assumption)
            have q243 : x4_1 < (l0.length : Int) := of_decide_eq_true (by first | (with_reducible assumption) | assumption)
            obtain ⟨ad243, e243, hx243_0, hx243_1⟩ := at_T41 (Kd.R_reads' HO_0.out).2.2 x4_1 p243 q243
            cases e243
            replace p243 := eq_true p243
            replace q243 := eq_true q243
            go_wp2_with (first | ((with_reducible refine gate_callee (f := 66) rfl ?_); refine goesL_ (some 15) rfl rfl Try.func66 (by kernel_rfl) rfl #[.agg #[.int .i64 ((rd_T41 l0 x4_1).f0), .int .i64 ((rd_T41 l0 x4_1).f1)]] rfl (by (try simp only [List.map_toArray, List.map_cons, List.map_nil]); first | done | rfl | (simp only [List.length_drop, List.length_take]; rfl)) ?_; (with_reducible refine (quitrentref21_may.calls ((rd_T41 l0 x4_1).f0) ((rd_T41 l0 x4_1).f1) true _ A4.out).mono ?_); rintro e w7 ⟨rfl, hb⟩; refine ⟨_, rfl, ?_⟩; have n0_ := Aside0.mk (Kd.R_below (by (with_reducible repeat (first | apply Kd.R_alloc | apply Kd.R_drewN | apply Kd.R_drew)); exact HO_0.out) hb); have n1_ := Aside0.mk (Kept.below (S := (fun k_ => P0_ k_)) (by repeat (first | (with_reducible first | exact HK.out | apply Kept.alloc | apply Kept.drewN | apply Kept.drew) | exact HK.out)) hb); have n2_ := Aside0.mk (below_step (by repeat (first | (with_reducible first | exact HB.out | apply below_alloc | apply pw_below_drewN | apply below_drew1) | exact HB.out)) hb); clear HO_0; clear HK; clear HB; have HO_0 := n0_; have HK := n1_; have HB := n2_; clear n0_ n1_ n2_; (try clear hb); (try clear hb2); (try clear hk); (try clear hi)))
            go_roundg k1
            case measure => have := HK1.out; omega
            case rel => exact ⟨(wrap64 (x4_1 + 1)), (by first | rfl | (simp; done) | (simp [*]; done)), H', ⟨by have := HK1.out; omega⟩, ⟨by (with_reducible repeat (first | apply Kd.R_alloc | apply Kd.R_drewN | apply Kd.R_drew)); exact HO_0.out⟩, ⟨by repeat (first | (with_reducible first | exact HK.out | apply Kept.alloc | apply Kept.drewN | apply Kept.drew) | exact HK.out)⟩, ⟨by repeat (first | (with_reducible first | exact HB.out | apply below_alloc | apply pw_below_drewN | apply below_drew1) | exact HB.out)⟩⟩
          · replace c5 := Bool.eq_false_iff.mpr c5
            subst c5
            have H1 : (some (([] : List (S41)), 3)) = some (r1, r2) := by rw [if_neg (show ¬ (false = true) by decide)] at H; exact H
            clear H
            have H := H1
            clear H1
            simp only [Option.some.injEq, Prod.mk.injEq] at H
            obtain ⟨rfl, rfl⟩ := H
            obtain ⟨Ao8, co8, eo8⟩ := Kd.R_slice HO_0.out
            subst eo8
            have p243 : 0 ≤ (x4_1 : Int) := of_decide_eq_true (by first | (with_reducible assumption) | assumption)
            have q243 : x4_1 < (l0.length : Int) := of_decide_eq_true (by first | (with_reducible assumption) | assumption)
            obtain ⟨ad243, e243, hx243_0, hx243_1⟩ := at_T41 (Kd.R_reads' HO_0.out).2.2 x4_1 p243 q243
            cases e243
            replace p243 := eq_true p243
            replace q243 := eq_true q243
            go_wp2_with (first | ((with_reducible refine gate_callee (f := 66) rfl ?_); refine goesL_ (some 15) rfl rfl Try.func66 (by kernel_rfl) rfl #[.agg #[.int .i64 ((rd_T41 l0 x4_1).f0), .int .i64 ((rd_T41 l0 x4_1).f1)]] rfl (by (try simp only [List.map_toArray, List.map_cons, List.map_nil]); first | done | rfl | (simp only [List.length_drop, List.length_take]; rfl)) ?_; (with_reducible refine (quitrentref21_may.calls ((rd_T41 l0 x4_1).f0) ((rd_T41 l0 x4_1).f1) false _ A4.out).mono ?_); rintro e w9 ⟨rfl, hb⟩; refine ⟨_, rfl, ?_⟩; have n0_ := Aside0.mk (Kd.R_below (by (with_reducible repeat (first | apply Kd.R_alloc | apply Kd.R_drewN | apply Kd.R_drew)); exact HO_0.out) hb); have n1_ := Aside0.mk (Kept.below (S := (fun k_ => P0_ k_)) (by repeat (first | (with_reducible first | exact HK.out | apply Kept.alloc | apply Kept.drewN | apply Kept.drew) | exact HK.out)) hb); have n2_ := Aside0.mk (below_step (by repeat (first | (with_reducible first | exact HB.out | apply below_alloc | apply pw_below_drewN | apply below_drew1) | exact HB.out)) hb); clear HO_0; clear HK; clear HB; have HO_0 := n0_; have HK := n1_; have HB := n2_; clear n0_ n1_ n2_; (try clear hb); (try clear hb2); (try clear hk); (try clear hi)))
            go_ret2
            exact ⟨_, by first | rfl | (simp [errW_none, errW_some] <;> rfl) | (simp [*, errW_none, errW_some] <;> rfl), by first | exact Kd.R_nil _ _ _ _ _ | exact Kd.N_nil _ _ _ _ _ | exact Kd.V_nil _ _ _ _ _ | exact Kd.Q_nil _ _ _ _ _ | exact Kd.S_nil _ _ _ _ _, by repeat (first | (with_reducible first | exact HB.out | apply below_alloc | apply pw_below_drewN | apply below_drew1) | exact HB.out), by repeat (first | (with_reducible first | exact HK.out | apply Kept.alloc | apply Kept.drewN | apply Kept.drew) | exact HK.out)⟩
        · rw [if_neg c3] at H
          exact absurd H (by simp)
      · rw [if_neg c2] at H
        have c2b0 : decide (x4_1 < (l0.length : Int)) = false := decide_eq_false c2
        clear c2
        simp only [Option.some.injEq, Prod.mk.injEq] at H
        obtain ⟨rfl, rfl⟩ := H
        obtain ⟨Ao10, co10, eo10⟩ := Kd.R_slice HO_0.out
        subst eo10
        go_wp2
        go_ret2
        exact ⟨_, by first | rfl | (simp [errW_none, errW_some] <;> rfl) | (simp [*, errW_none, errW_some] <;> rfl), by (with_reducible repeat (first | apply Kd.R_alloc | apply Kd.R_drewN | apply Kd.R_drew)); exact HO_0.out, by repeat (first | (with_reducible first | exact HB.out | apply below_alloc | apply pw_below_drewN | apply below_drew1) | exact HB.out), by repeat (first | (with_reducible first | exact HK.out | apply Kept.alloc | apply Kept.drewN | apply Kept.drew) | exact HK.out)⟩
end Go.Proofs.Ytkfbmplhcigopaa.PPlo
namespace Go.Proofs.Ytkfbmplhcigopaa.PPlo
open Go.RowKit Go.Proofs.YtkfbmplhcigopaaW.PrintWords Go.Proofs.YtkfbmplhcigopaaW.PrintLast Go.Proofs.YtkfbmplhcigopaaW.PrintMore
attribute [local go_sem] max2_int min2_int max_two min_two max_three min_three max_four min_four   -- for this text's walks alone

/-! ### quitrentref21_Times: function 32 -/
def quitrentref21_Times.l0 : Nat → List (S41) → List (S41) → Int → Int → Int → Option ((List (S41)) × Int)
  | 0, _, _, _, _, _ => none
  | k + 1, x0, x7, x8, x246000, x246001 => if x8 < (x0.length : Int) then (if 0 ≤ x8 then (if x7.length < 8796093022208 then (quitrentref21_Times.l0 k x0 (x7 ++ [(⟨wrap64 ((wrap64 (((rd_T41 x0 x8).f0) * x246000)) - (wrap64 (((rd_T41 x0 x8).f1) * x246001))), wrap64 ((wrap64 (((rd_T41 x0 x8).f0) * x246001)) + (wrap64 (((rd_T41 x0 x8).f1) * x246000)))⟩ : S41)]) (wrap64 (x8 + 1)) x246000 x246001) else (none)) else (none)) else ((quitrentref21_fits.f k x7).bind fun bt255 => (some (bt255.1, bt255.2)))
def quitrentref21_Times.f (k : Nat) (l0 : List (S41)) (a1_0 : Int) (a1_1 : Int) : Option ((List (S41)) × Int) := (quitrentref21_check.f k l0 a1_0 a1_1).bind fun t246 => (if t246 = 0 then (quitrentref21_Times.l0 k l0 (([] : List (S41))) 0 a1_0 a1_1) else (some (([] : List (S41)), t246)))
theorem quitrentref21_Times.mono_l : ∀ k, (∀ y0 y1 y2 y3 y4, LeO (quitrentref21_Times.l0 k y0 y1 y2 y3 y4) (quitrentref21_Times.l0 (k + 1) y0 y1 y2 y3 y4))
  | 0 => fun _ _ _ _ _ r h => by simp [quitrentref21_Times.l0] at h
  | k + 1 => by
    have ih0 := quitrentref21_Times.mono_l k
    · intro y0 y1 y2 y3 y4
      unfold quitrentref21_Times.l0
      repeat' first
      | (with_reducible exact ih0 _ _ _ _ _)
      | (with_reducible exact quitrentref21_check.mono _ _ _ _)
      | (with_reducible exact quitrentref21_fits.mono _ _)
      | (with_reducible exact LeO.refl _)
      | (with_reducible exact LeO.none _)
      | (with_reducible refine LeO.ite ?_ ?_)
      | (with_reducible refine LeO.bind ?_ (fun _ => ?_))
      | exact ih0 _ _ _ _ _
      | exact quitrentref21_check.mono _ _ _ _
      | exact quitrentref21_fits.mono _ _
      | exact LeO.none _
      | refine LeO.ite ?_ ?_
      | refine LeO.bind ?_ (fun _ => ?_)
theorem quitrentref21_Times.mono : ∀ a0 a1 a2 k, LeO (quitrentref21_Times.f k a0 a1 a2) (quitrentref21_Times.f (k + 1) a0 a1 a2) := by
  intro a0 a1 a2 k
  have ih0 := quitrentref21_Times.mono_l k
  unfold quitrentref21_Times.f
  repeat' first
      | (with_reducible exact ih0 _ _ _ _ _)
      | (with_reducible exact quitrentref21_check.mono _ _ _ _)
      | (with_reducible exact quitrentref21_fits.mono _ _)
      | (with_reducible exact LeO.refl _)
      | (with_reducible exact LeO.none _)
      | (with_reducible refine LeO.ite ?_ ?_)
      | (with_reducible refine LeO.bind ?_ (fun _ => ?_))
      | exact ih0 _ _ _ _ _
      | exact quitrentref21_check.mono _ _ _ _
      | exact quitrentref21_fits.mono _ _
      | exact LeO.none _
      | refine LeO.ite ?_ ?_
      | refine LeO.bind ?_ (fun _ => ?_)
set_option maxHeartbeats 8000000 in
set_option maxRecDepth 100000 in
theorem quitrentref21_Times.calls (k : Nat) (A0 : Option Addr) (c0 : Nat) (l0 : List (S41)) (a1_0 : Int) (a1_1 : Int) (r1 : List (S41)) (r2 : Int) (w : World) (hr0 : Kd.C k41 w A0 l0.length l0) (hc0 : l0.length ≤ c0) (h : quitrentref21_Times.f k l0 a1_0 a1_1 = some (r1, r2)) :
    Calls Try.prog 32 #[.slice A0 l0.length c0, .agg #[.int .i64 a1_0, .int .i64 a1_1]] w fun e w' => ∃ v0_ : Value, e = .returned (.tuple #[v0_, .int .i64 r2]) ∧ Kd.R k41 41 w' w.heap.size (fun _ => True) v0_ r1 ∧ Below w.heap.size w w' := by
  have hu41 := Try.underlying41
  have HR0 := Aside0.mk hr0
  have HC0 := Aside0.mk hc0
  clear hr0 hc0
  have HB := Aside0.mk (Below.refl w.heap.size w)
  have H : ((quitrentref21_check.f k l0 a1_0 a1_1).bind fun t246 => (if t246 = 0 then (quitrentref21_Times.l0 k l0 (([] : List (S41))) 0 a1_0 a1_1) else (some (([] : List (S41)), t246)))) = some (r1, r2) := h
  clear h
  replace H := Option.bind_eq_some_iff.mp H
  obtain ⟨t246, A30, H⟩ := H
  replace H : (if t246 = 0 then (quitrentref21_Times.l0 k l0 (([] : List (S41))) 0 a1_0 a1_1) else (some (([] : List (S41)), t246))) = some (r1, r2) := H
  have A3 := Aside0.mk A30
  clear A30
  by_cases c4 : t246 = 0
  · rw [if_pos c4] at H
    have c4b0 : (t246 == 0) = true := beq_iff_eq.mpr c4
    have c4b1 : (t246 != 0) = false := bne_eq_false_iff_eq.mpr c4
    clear c4
    obtain ⟨y247, hy247⟩ : ∃ y_ : List (S41), y_ = (([] : List (S41))) := ⟨_, rfl⟩
    replace H : (quitrentref21_Times.l0 k l0 y247 0 a1_0 a1_1) = some (r1, r2) := by first | (rw [hy247]; with_reducible exact H) | (have H2_ := (Option.bind_some _ _).symm.trans H; rw [hy247]; with_reducible exact H2_) | (have H2_ := (Option.bind_some _ _).symm.trans H; with_reducible exact H2_) | with_reducible exact H | (rw [hy247]; exact H) | exact H
    have Ny247 := Aside0.mk hy247
    clear hy247
    have H' := Aside0.mk H
    clear H
    go_enter Try.func32, Try.ntmps32
    go_wp2_with (first | ((with_reducible refine gate_dst (N := 3) rfl ?_); refine box_event ?hg (N := 3) ?hd (cs := #[.int .i64 a1_0, .int .i64 a1_1]) (t := 41) ?hr ?_; (case hd => rfl); (case hg => rfl); (case hr => first | (go_simp; done) | (go_simp; rfl)); intro gb245 hg w5 hbox hb; have n0_ := Aside0.mk (below_step (by repeat (first | (with_reducible first | exact HB.out | apply below_alloc | apply pw_below_drewN | apply below_drew1) | exact HB.out)) hb); have n1_ := Aside0.mk (hbox); have n2_ := Aside0.mk ((by rw [hg]; exact (below_size (by repeat (first | (with_reducible first | exact HB.out | apply below_alloc | apply pw_below_drewN | apply below_drew1) | exact HB.out))) : w.heap.size ≤ gb245)); have n3_ := Aside0.mk ((by rw [hg]; exact (below_size (by repeat (first | (with_reducible first | exact HB.out | apply below_alloc | apply pw_below_drewN | apply below_drew1) | exact HB.out))) : w.heap.size ≤ gb245)); clear HB; have HB := n0_; have BK245 := n1_; have GW245 := n2_; have GE245 := n3_; clear n0_ n1_ n2_ n3_; clear hb hbox hg; have hcz6_0 : w5.cell? ⟨gb245, 0, none⟩ = some (.int .i64 a1_0) := (blk_cell BK245.out 0).trans rfl; have hcz6_1 : w5.cell? ⟨gb245, 1, none⟩ = some (.int .i64 a1_1) := (blk_cell BK245.out 1).trans rfl; have hfz6_0 := blk_frozen BK245.out 0; have hfz6_1 := blk_frozen BK245.out 1) | ((with_reducible refine gate_callee (f := 70) rfl ?_); refine goesL_ (some 12) rfl rfl Try.func70 (by kernel_rfl) rfl #[.slice A0 l0.length c0, .agg #[.int .i64 a1_0, .int .i64 a1_1]] rfl (by (try simp only [List.map_toArray, List.map_cons, List.map_nil]); first | done | rfl | (simp only [List.length_drop, List.length_take]; rfl)) ?_; (with_reducible refine (quitrentref21_check.calls k _ _ l0 a1_0 a1_1 t246 _ ?side1 ?side2 A3.out).mono ?_); (case side1 => repeat (first | exact (Kd.C_below HR0.out HB.out) | (with_reducible refine Kd.C_alloc ?_ _) | (with_reducible refine Kd.C_drewN ?_ _) | (with_reducible refine Kd.C_drew ?_))); (case side2 => exact HC0.out); rintro e w7 ⟨rfl, hb⟩; refine ⟨_, rfl, ?_⟩; have n0_ := Aside0.mk (blk_below (g := gb245) (o := .cells #[.int .i64 a1_0, .int .i64 a1_1] 41 (0, 0)) (by (with_reducible repeat (first | refine blk_drewN ?_ _ | refine blk_drew ?_ | refine blk_alloc ?_ _)); exact BK245.out) hb); have n1_ := Aside0.mk (below_step (by repeat (first | (with_reducible first | exact HB.out | apply below_alloc | apply pw_below_drewN | apply below_drew1 | refine below_set ?_ GE245.out) | exact HB.out)) hb); clear BK245; clear HB; have BK245 := n0_; have HB := n1_; clear n0_ n1_; (try clear hb); (try clear hb2); (try clear hk); (try clear hi)) | ((with_reducible refine gate_dst (N := 16) rfl ?_); refine Kd.R_lit k41 _ 41 ?hg (N := 16) ?hd (xs := ([] : List (S41))) (inner := []) (ok := fun _ => True) (okp := fun _ => True) ?hr ?hp (fun _ hk => hk) trivial (Below.refl _ _) (Nat.le_refl _) (by simp) ?_; (case hd => rfl); (case hg => rfl); (case hr => first | (go_simp; done) | (go_simp; rfl)); (case hp => exact (Reps.none _ _)); intro v248 w8 ho9 hb hg_ hnew_; clear hg_ hnew_; (first | rw [← Ny247.out] at ho9 | (simp only [Int.reduceToNat] at ho9; rw [← Ny247.out] at ho9)); have n0_ := Aside0.mk (Kd.R_lower (Kd.R_newB ho9 (g := gb245) (o := .cells #[.int .i64 a1_0, .int .i64 a1_1] 41 (0, 0)) (by (with_reducible repeat (first | refine blk_drewN ?_ _ | refine blk_drew ?_ | refine blk_alloc ?_ _)); exact BK245.out)) (below_size (by repeat (first | (with_reducible first | exact HB.out | apply below_alloc | apply pw_below_drewN | apply below_drew1 | refine below_set ?_ GE245.out) | exact HB.out)))); have n1_ := Aside0.mk (blk_below (g := gb245) (o := .cells #[.int .i64 a1_0, .int .i64 a1_1] 41 (0, 0)) (by (with_reducible repeat (first | refine blk_drewN ?_ _ | refine blk_drew ?_ | refine blk_alloc ?_ _)); exact BK245.out) hb); have n2_ := Aside0.mk (below_step (by repeat (first | (with_reducible first | exact HB.out | apply below_alloc | apply pw_below_drewN | apply below_drew1 | refine below_set ?_ GE245.out) | exact HB.out)) hb); clear BK245; clear HB; have HO249 := n0_; have BK245 := n1_; have HB := n2_; clear n0_ n1_ n2_; clear hb ho9))
    go_loopg [7, 8] k (fun kq v7 v8 w' => ∃ (x7_1 : List (S41)) (x8_1 : Int), v8 = .int .i64 x8_1 ∧ Aside0 (quitrentref21_Times.l0 kq l0 x7_1 x8_1 a1_0 a1_1 = some (r1, r2)) ∧ Aside0 (kq ≤ k) ∧ Aside0 (Kd.R k41 41 w' w.heap.size (fun k_ => k_ ≠ gb245) v7 x7_1) ∧ Aside0 (w'.heap[gb245]? = some (.cells #[.int .i64 a1_0, .int .i64 a1_1] 41 (0, 0))) ∧ Aside0 (Below w.heap.size w w'))
    case atStart => exact ⟨(y247), (0), (by first | rfl | (simp; done) | (simp [*]; done)), H', ⟨Nat.le_refl _⟩, ⟨by (with_reducible repeat (first | apply Kd.R_alloc | apply Kd.R_drewN | apply Kd.R_drew)); exact Kd.R_mono HO249.out (fun _ hk => hk.2)⟩, ⟨by (with_reducible repeat (first | refine blk_drewN ?_ _ | refine blk_drew ?_ | refine blk_alloc ?_ _)); exact BK245.out⟩, ⟨by repeat (first | (with_reducible first | exact HB.out | apply below_alloc | apply pw_below_drewN | apply below_drew1 | refine below_set ?_ GE245.out) | exact HB.out)⟩⟩
    case round =>
      clear H'
      try clear p2
      try clear c3
      try clear c4
      try clear c4b0
      try clear c4b1
      try clear c7
      try clear hcz6_0
      try clear hcz6_1
      try clear hfz6_0
      try clear hfz6_1
      obtain ⟨x7_1, x8_1, rfl, HA, HK1, HO_7, BK245, HB⟩ := hrel
      cases gk with
      | zero => exact absurd HA.out (by simp [quitrentref21_Times.l0])
      | succ k1 =>
        have H := HA.out
        clear HA
        simp only [quitrentref21_Times.l0] at H
        by_cases c10 : x8_1 < (l0.length : Int)
        · rw [if_pos c10] at H
          have c10b0 : decide (x8_1 < (l0.length : Int)) = true := decide_eq_true c10
          clear c10
          by_cases c11 : 0 ≤ x8_1
          · rw [if_pos c11] at H
            have c11b0 : decide (0 ≤ x8_1) = true := decide_eq_true c11
            clear c11
            by_cases c12 : x7_1.length < 8796093022208
            · rw [if_pos c12] at H
              have LMc12 := Aside0.mk c12
              clear c12
              obtain ⟨y252, hy252⟩ : ∃ y_ : List (S41), y_ = (x7_1 ++ [(⟨wrap64 ((wrap64 (((rd_T41 l0 x8_1).f0) * a1_0)) - (wrap64 (((rd_T41 l0 x8_1).f1) * a1_1))), wrap64 ((wrap64 (((rd_T41 l0 x8_1).f0) * a1_1)) + (wrap64 (((rd_T41 l0 x8_1).f1) * a1_0)))⟩ : S41)]) := ⟨_, rfl⟩
              replace H : (quitrentref21_Times.l0 k1 l0 y252 (wrap64 (x8_1 + 1)) a1_0 a1_1) = some (r1, r2) := by first | (rw [hy252]; with_reducible exact H) | (have H2_ := (Option.bind_some _ _).symm.trans H; rw [hy252]; with_reducible exact H2_) | (have H2_ := (Option.bind_some _ _).symm.trans H; with_reducible exact H2_) | with_reducible exact H | (rw [hy252]; exact H) | exact H
              have Ny252 := Aside0.mk hy252
              clear hy252
              have H' := Aside0.mk H
              clear H
              have p250 : 0 ≤ (x8_1 : Int) := of_decide_eq_true (by first | (with_reducible assumption) | assumption)
              have q250 : x8_1 < (l0.length : Int) := of_decide_eq_true (by first | (with_reducible assumption) | assumption)
              obtain ⟨ad250, e250, hx250_0, hx250_1⟩ := at_T41 HR0.out x8_1 p250 q250
              cases e250
              replace hx250_0 := (HB.out.cell (World.block_lt_of_cell? w _ hx250_0)).trans hx250_0
              replace hx250_1 := (HB.out.cell (World.block_lt_of_cell? w _ hx250_1)).trans hx250_1
              replace p250 := eq_true p250
              replace q250 := eq_true q250
              go_wp2_with (first | ((with_reducible refine gate_dst (N := 9) rfl ?_); refine box_event ?hg (N := 9) ?hd (cs := #[.int .i64 0, .int .i64 0]) (t := 41) ?hr ?_; (case hd => rfl); (case hg => rfl); (case hr => first | (go_simp; done) | (go_simp; rfl)); intro gb251 hg w13 hbox hb; have n0_ := Aside0.mk (Kd.R_below (Kd.R_elderB (by (with_reducible repeat (first | apply Kd.R_alloc | apply Kd.R_drewN | apply Kd.R_drew)); exact HO_7.out) gb251 (Nat.le_of_eq hg.symm)) hb); have n1_ := Aside0.mk (blk_below (g := gb245) (o := .cells #[.int .i64 a1_0, .int .i64 a1_1] 41 (0, 0)) (by (with_reducible repeat (first | refine blk_drewN ?_ _ | refine blk_drew ?_ | refine blk_alloc ?_ _)); exact BK245.out) hb); have n2_ := Aside0.mk (below_step (by repeat (first | (with_reducible first | exact HB.out | apply below_alloc | apply pw_below_drewN | apply below_drew1 | refine below_set ?_ GE245.out) | exact HB.out)) hb); have n3_ := Aside0.mk (hbox); have n4_ := Aside0.mk ((by rw [hg]; exact (below_size (by repeat (first | (with_reducible first | exact HB.out | apply below_alloc | apply pw_below_drewN | apply below_drew1 | refine below_set ?_ GE245.out) | exact HB.out))) : w.heap.size ≤ gb251)); have n5_ := Aside0.mk ((by rw [hg]; exact (below_size (by repeat (first | (with_reducible first | exact HB.out | apply below_alloc | apply pw_below_drewN | apply below_drew1 | refine below_set ?_ GE245.out) | exact HB.out))) : w.heap.size ≤ gb251)); have n6_ := Aside0.mk ((by rw [hg]; exact Nat.ne_of_lt (blk_lt (g := gb245) (o := .cells #[.int .i64 a1_0, .int .i64 a1_1] 41 (0, 0)) (by (with_reducible repeat (first | refine blk_drewN ?_ _ | refine blk_drew ?_ | refine blk_alloc ?_ _)); exact BK245.out)) : gb245 ≠ gb251)); have n7_ := Aside0.mk ((by rw [hg]; exact Nat.ne_of_gt (blk_lt (g := gb245) (o := .cells #[.int .i64 a1_0, .int .i64 a1_1] 41 (0, 0)) (by (with_reducible repeat (first | refine blk_drewN ?_ _ | refine blk_drew ?_ | refine blk_alloc ?_ _)); exact BK245.out)) : gb251 ≠ gb245)); clear HO_7; clear BK245; clear HB; have HO_7 := n0_; have BK245 := n1_; have HB := n2_; have BK251 := n3_; have GW251 := n4_; have GE251 := n5_; have NB245_251 := n6_; have NB251_245 := n7_; clear n0_ n1_ n2_ n3_ n4_ n5_ n6_ n7_; clear hb hbox hg; have hnb14 := NB251_245.out; have hnc14 := NB245_251.out; have hcz15_0 : w13.cell? ⟨gb251, 0, none⟩ = some (.int .i64 0) := (blk_cell BK251.out 0).trans rfl; have hcz15_1 : w13.cell? ⟨gb251, 1, none⟩ = some (.int .i64 0) := (blk_cell BK251.out 1).trans rfl; have hfz15_0 := blk_frozen BK251.out 0; have hfz15_1 := blk_frozen BK251.out 1; have hcz16_0 : w13.cell? ⟨gb245, 0, none⟩ = some (.int .i64 a1_0) := (blk_cell BK245.out 0).trans rfl; have hcz16_1 : w13.cell? ⟨gb245, 1, none⟩ = some (.int .i64 a1_1) := (blk_cell BK245.out 1).trans rfl; have hfz16_0 := blk_frozen BK245.out 0; have hfz16_1 := blk_frozen BK245.out 1) | ((with_reducible refine gate_builtin (b := .append) (xs := #[.tmp 27, .tmp 51]) rfl ?_); at_builtin; refine Kd.R_append k41 (w0 := w) w.heap.size rfl (.tmp 27) (.tmp 51) 39 41 (.agg #[(.int .i64 0), (.int .i64 0)]) 16 rfl Try.underlying39 info41 rfl (by decide) (by omega) u7 x7_1 (⟨wrap64 ((wrap64 (((rd_T41 l0 x8_1).f0) * a1_0)) - (wrap64 (((rd_T41 l0 x8_1).f1) * a1_1))), wrap64 ((wrap64 (((rd_T41 l0 x8_1).f0) * a1_1)) + (wrap64 (((rd_T41 l0 x8_1).f1) * a1_0)))⟩ : S41) [.int .i64 (wrap64 ((wrap64 (((rd_T41 l0 x8_1).f0) * a1_0)) - (wrap64 (((rd_T41 l0 x8_1).f1) * a1_1)))), .int .i64 (wrap64 ((wrap64 (((rd_T41 l0 x8_1).f0) * a1_1)) + (wrap64 (((rd_T41 l0 x8_1).f1) * a1_0))))] (fun k_ => k_ ≠ gb245 ∧ k_ ≠ gb251) (fun _ => False) rfl (by first | (go_simp; done) | (go_simp; rfl)) ?aP (fun _ hk => hk.elim) ?aF ?aO ?aB ?aS ?aL ?_; (case aP => exact k41_mkM _ _ _ (⟨wrap64 ((wrap64 (((rd_T41 l0 x8_1).f0) * a1_0)) - (wrap64 (((rd_T41 l0 x8_1).f1) * a1_1))), wrap64 ((wrap64 (((rd_T41 l0 x8_1).f0) * a1_1)) + (wrap64 (((rd_T41 l0 x8_1).f1) * a1_0)))⟩ : S41)); (case aB => exact (by repeat (first | (with_reducible first | exact HB.out | apply below_alloc | apply pw_below_drewN | apply below_drew1 | refine below_set ?_ GE245.out | refine below_set ?_ GE251.out) | exact HB.out))); (case aF => exact (fun k_ hk => ⟨Kd.freshB (g := gb245) (o := .cells #[.int .i64 a1_0, .int .i64 a1_1] 41 (0, 0)) (by (with_reducible repeat (first | refine blk_drewN ?_ _ | refine blk_drew ?_ | refine blk_alloc ?_ _)); refine blk_far ?_ NB245_251.out _; (with_reducible repeat (first | refine blk_drewN ?_ _ | refine blk_drew ?_ | refine blk_alloc ?_ _)); refine blk_far ?_ NB245_251.out _; (with_reducible repeat (first | refine blk_drewN ?_ _ | refine blk_drew ?_ | refine blk_alloc ?_ _)); exact BK245.out) k_ hk, Kd.freshB (g := gb251) (o := .cells #[.int .i64 ((rd_T41 l0 x8_1).f0), .int .i64 ((rd_T41 l0 x8_1).f1)] 41 (0, 0)) (by (with_reducible repeat (first | refine blk_drewN ?_ _ | refine blk_drew ?_ | refine blk_alloc ?_ _)); refine blk_put (cs := #[.int .i64 ((rd_T41 l0 x8_1).f0), .int .i64 0]) ?_ 1 _ rfl; (with_reducible repeat (first | refine blk_drewN ?_ _ | refine blk_drew ?_ | refine blk_alloc ?_ _)); refine blk_put (cs := #[.int .i64 0, .int .i64 0]) ?_ 0 _ rfl; (with_reducible repeat (first | refine blk_drewN ?_ _ | refine blk_drew ?_ | refine blk_alloc ?_ _)); exact BK251.out) k_ hk⟩)); (case aO => exact (by (with_reducible repeat (first | apply Kd.R_alloc | apply Kd.R_drewN | apply Kd.R_drew)); exact Kd.R_mono (Kd.R_far (p := ⟨gb251, 1, none⟩) (Kd.R_far (p := ⟨gb251, 0, none⟩) (Kd.R_mono HO_7.out (fun k_ hk => (⟨hk, hk.2⟩ : _ ∧ k_ ≠ gb251))) (fun _ hk => hk.2) (.int .i64 ((rd_T41 l0 x8_1).f0))) (fun _ hk => hk.2) (.int .i64 ((rd_T41 l0 x8_1).f1))) (fun _ hk => ⟨hk.1.1, hk.1.2⟩))); (case aS => exact (below_size (by repeat (first | (with_reducible first | exact HB.out | apply below_alloc | apply pw_below_drewN | apply below_drew1 | refine below_set ?_ GE245.out | refine below_set ?_ GE251.out) | exact HB.out)))); (case aL => have := LMc12.out; omega); intro v253 w17 ho hb hg hat; rw [← Ny252.out] at ho; have n0_ := Aside0.mk (blk_grown (g := gb245) (o := .cells #[.int .i64 a1_0, .int .i64 a1_1] 41 (0, 0)) (by (with_reducible repeat (first | refine blk_drewN ?_ _ | refine blk_drew ?_ | refine blk_alloc ?_ _)); refine blk_far ?_ NB245_251.out _; (with_reducible repeat (first | refine blk_drewN ?_ _ | refine blk_drew ?_ | refine blk_alloc ?_ _)); refine blk_far ?_ NB245_251.out _; (with_reducible repeat (first | refine blk_drewN ?_ _ | refine blk_drew ?_ | refine blk_alloc ?_ _)); exact BK245.out) hg (Kd.R_away HO_7.out (fun _ hk => hk.1))); have n1_ := Aside0.mk (blk_grown (g := gb251) (o := .cells #[.int .i64 ((rd_T41 l0 x8_1).f0), .int .i64 ((rd_T41 l0 x8_1).f1)] 41 (0, 0)) (by (with_reducible repeat (first | refine blk_drewN ?_ _ | refine blk_drew ?_ | refine blk_alloc ?_ _)); refine blk_put (cs := #[.int .i64 ((rd_T41 l0 x8_1).f0), .int .i64 0]) ?_ 1 _ rfl; (with_reducible repeat (first | refine blk_drewN ?_ _ | refine blk_drew ?_ | refine blk_alloc ?_ _)); refine blk_put (cs := #[.int .i64 0, .int .i64 0]) ?_ 0 _ rfl; (with_reducible repeat (first | refine blk_drewN ?_ _ | refine blk_drew ?_ | refine blk_alloc ?_ _)); exact BK251.out) hg (Kd.R_away HO_7.out (fun _ hk => hk.2))); have n2_ := Aside0.mk (hb); have n3_ := Aside0.mk (ho); clear BK245; clear BK251; clear HB; clear HO_7; have BK245 := n0_; have BK251 := n1_; have HB := n2_; have HO254 := n3_; clear n0_ n1_ n2_ n3_; clear ho hb hg hat))
              go_roundg k1
              case measure => have := HK1.out; omega
              case rel => exact ⟨(y252), (wrap64 (x8_1 + 1)), (by first | rfl | (simp; done) | (simp [*]; done)), H', ⟨by have := HK1.out; omega⟩, ⟨by (with_reducible repeat (first | apply Kd.R_alloc | apply Kd.R_drewN | apply Kd.R_drew)); exact Kd.R_mono HO254.out (fun _ hk => hk.1)⟩, ⟨by (with_reducible repeat (first | refine blk_drewN ?_ _ | refine blk_drew ?_ | refine blk_alloc ?_ _)); exact BK245.out⟩, ⟨by repeat (first | (with_reducible first | exact HB.out | apply below_alloc | apply pw_below_drewN | apply below_drew1 | refine below_set ?_ GE245.out | refine below_set ?_ GE251.out) | exact HB.out)⟩⟩
            · rw [if_neg c12] at H
              exact absurd H (by simp)
          · rw [if_neg c11] at H
            exact absurd H (by simp)
        · rw [if_neg c10] at H
          have c10b0 : decide (x8_1 < (l0.length : Int)) = false := decide_eq_false c10
          clear c10
          replace H := Option.bind_eq_some_iff.mp H
          obtain ⟨⟨t255, t258⟩, A180, H⟩ := H
          replace H : (some (t255, t258)) = some (r1, r2) := H
          have A18 := Aside0.mk A180
          clear A180
          simp only [Option.some.injEq, Prod.mk.injEq] at H
          obtain ⟨rfl, rfl⟩ := H
          obtain ⟨Ao19, co19, eo19⟩ := Kd.R_slice HO_7.out
          subst eo19
          go_wp2_with (first | ((with_reducible refine gate_callee (f := 71) rfl ?_); refine goesL_ (some 54) rfl rfl Try.func71 (by kernel_rfl) rfl #[.slice Ao19 x7_1.length co19] rfl (by (try simp only [List.map_toArray, List.map_cons, List.map_nil]); first | done | rfl | (simp only [List.length_drop, List.length_take]; rfl)) ?_; (with_reducible refine (quitrentref21_fits.calls k1 (fun k_ => some k_ = (.slice Ao19 x7_1.length co19 : Value).ownBlock) (.slice Ao19 x7_1.length co19) x7_1 t255 t258 w _ ?side1 ?side2 A18.out).mono ?_); (case side1 => repeat (first | (with_reducible first | exact HB.out | apply below_alloc | apply pw_below_drewN | apply below_drew1 | refine below_set ?_ GE245.out) | exact HB.out)); (case side2 => exact Kd.R_tight rfl HO_7.out); rintro e w20 ⟨v256, rfl, ho0, hb, hkp⟩; refine ⟨_, rfl, ?_⟩; have n0_ := Aside0.mk (blk_kept (by (with_reducible repeat (first | refine blk_drewN ?_ _ | refine blk_drew ?_ | refine blk_alloc ?_ _)); exact BK245.out) hkp (fun hs_ => (fun e_ => (Kd.R_away HO_7.out (fun _ hk => hk)) e_) hs_)); have n1_ := Aside0.mk (Kd.R_mono (ok' := fun k_ => k_ ≠ gb245) ho0 (fun k_ hk_ => Or.elim hk_ (fun hs_ => fun e_ => (Kd.R_away HO_7.out (fun _ hk => hk)) (by rw [← e_]; exact hs_)) (fun hn_ => (Kd.freshB (g := gb245) (o := .cells #[.int .i64 a1_0, .int .i64 a1_1] 41 (0, 0)) (by (with_reducible repeat (first | refine blk_drewN ?_ _ | refine blk_drew ?_ | refine blk_alloc ?_ _)); exact BK245.out) k_ hn_)))); have n2_ := Aside0.mk (hb); clear BK245; clear HB; clear HO_7; have BK245 := n0_; have HO257 := n1_; have HB := n2_; clear n0_ n1_ n2_; (try clear hb); (try clear hkp); (try clear ho0)))
          go_ret2
          exact ⟨_, by first | rfl | (simp [errW_none, errW_some] <;> rfl) | (simp [*, errW_none, errW_some] <;> rfl), by (with_reducible repeat (first | apply Kd.R_alloc | apply Kd.R_drewN | apply Kd.R_drew)); exact Kd.R_mono HO257.out (fun _ hk => trivial), by repeat (first | (with_reducible first | exact HB.out | apply below_alloc | apply pw_below_drewN | apply below_drew1 | refine below_set ?_ GE245.out) | exact HB.out)⟩
  · rw [if_neg c4] at H
    have c4b0 : (t246 == 0) = false := beq_eq_false_iff_ne.mpr c4
    have c4b1 : (t246 != 0) = true := bne_iff_ne.mpr c4
    simp only [Option.some.injEq, Prod.mk.injEq] at H
    obtain ⟨rfl, rfl⟩ := H
    go_enter Try.func32, Try.ntmps32
    go_wp2_with (first | ((with_reducible refine gate_dst (N := 3) rfl ?_); refine box_event ?hg (N := 3) ?hd (cs := #[.int .i64 a1_0, .int .i64 a1_1]) (t := 41) ?hr ?_; (case hd => rfl); (case hg => rfl); (case hr => first | (go_simp; done) | (go_simp; rfl)); intro gb245 hg w21 hbox hb; have n0_ := Aside0.mk (below_step (by repeat (first | (with_reducible first | exact HB.out | apply below_alloc | apply pw_below_drewN | apply below_drew1) | exact HB.out)) hb); have n1_ := Aside0.mk (hbox); have n2_ := Aside0.mk ((by rw [hg]; exact (below_size (by repeat (first | (with_reducible first | exact HB.out | apply below_alloc | apply pw_below_drewN | apply below_drew1) | exact HB.out))) : w.heap.size ≤ gb245)); have n3_ := Aside0.mk ((by rw [hg]; exact (below_size (by repeat (first | (with_reducible first | exact HB.out | apply below_alloc | apply pw_below_drewN | apply below_drew1) | exact HB.out))) : w.heap.size ≤ gb245)); clear HB; have HB := n0_; have BK245 := n1_; have GW245 := n2_; have GE245 := n3_; clear n0_ n1_ n2_ n3_; clear hb hbox hg; have hcz22_0 : w21.cell? ⟨gb245, 0, none⟩ = some (.int .i64 a1_0) := (blk_cell BK245.out 0).trans rfl; have hcz22_1 : w21.cell? ⟨gb245, 1, none⟩ = some (.int .i64 a1_1) := (blk_cell BK245.out 1).trans rfl; have hfz22_0 := blk_frozen BK245.out 0; have hfz22_1 := blk_frozen BK245.out 1) | ((with_reducible refine gate_callee (f := 70) rfl ?_); refine goesL_ (some 12) rfl rfl Try.func70 (by kernel_rfl) rfl #[.slice A0 l0.length c0, .agg #[.int .i64 a1_0, .int .i64 a1_1]] rfl (by (try simp only [List.map_toArray, List.map_cons, List.map_nil]); first | done | rfl | (simp only [List.length_drop, List.length_take]; rfl)) ?_; (with_reducible refine (quitrentref21_check.calls k _ _ l0 a1_0 a1_1 t246 _ ?side1 ?side2 A3.out).mono ?_); (case side1 => repeat (first | exact (Kd.C_below HR0.out HB.out) | (with_reducible refine Kd.C_alloc ?_ _) | (with_reducible refine Kd.C_drewN ?_ _) | (with_reducible refine Kd.C_drew ?_))); (case side2 => exact HC0.out); rintro e w23 ⟨rfl, hb⟩; refine ⟨_, rfl, ?_⟩; have n0_ := Aside0.mk (blk_below (g := gb245) (o := .cells #[.int .i64 a1_0, .int .i64 a1_1] 41 (0, 0)) (by (with_reducible repeat (first | refine blk_drewN ?_ _ | refine blk_drew ?_ | refine blk_alloc ?_ _)); exact BK245.out) hb); have n1_ := Aside0.mk (below_step (by repeat (first | (with_reducible first | exact HB.out | apply below_alloc | apply pw_below_drewN | apply below_drew1 | refine below_set ?_ GE245.out) | exact HB.out)) hb); clear BK245; clear HB; have BK245 := n0_; have HB := n1_; clear n0_ n1_; (try clear hb); (try clear hb2); (try clear hk); (try clear hi)))
    go_ret2
    exact ⟨_, by first | rfl | (simp [errW_none, errW_some] <;> rfl) | (simp [*, errW_none, errW_some] <;> rfl), by first | exact Kd.R_nil _ _ _ _ _ | exact Kd.N_nil _ _ _ _ _ | exact Kd.V_nil _ _ _ _ _ | exact Kd.Q_nil _ _ _ _ _ | exact Kd.S_nil _ _ _ _ _, by repeat (first | (with_reducible first | exact HB.out | apply below_alloc | apply pw_below_drewN | apply below_drew1 | refine below_set ?_ GE245.out) | exact HB.out)⟩
end Go.Proofs.Ytkfbmplhcigopaa.PPlo
namespace Go.Proofs.Ytkfbmplhcigopaa.PPlo
open Go.RowKit Go.Proofs.YtkfbmplhcigopaaW.PrintWords Go.Proofs.YtkfbmplhcigopaaW.PrintLast Go.Proofs.YtkfbmplhcigopaaW.PrintMore
attribute [local go_sem] max2_int min2_int max_two min_two max_three min_three max_four min_four   -- for this text's walks alone

/-! ### quitrentref21_Moved: function 34 -/
def quitrentref21_Moved.l0 : Nat → List (S41) → List (S41) → Int → Int → Int → Option ((List (S41)) × Int)
  | 0, _, _, _, _, _ => none
  | k + 1, x0, x7, x8, x260000, x260001 => if x8 < (x0.length : Int) then (if 0 ≤ x8 then (if x7.length < 8796093022208 then (quitrentref21_Moved.l0 k x0 (x7 ++ [(⟨wrap64 (((rd_T41 x0 x8).f0) + x260000), wrap64 (((rd_T41 x0 x8).f1) + x260001)⟩ : S41)]) (wrap64 (x8 + 1)) x260000 x260001) else (none)) else (none)) else ((quitrentref21_fits.f k x7).bind fun bt269 => (some (bt269.1, bt269.2)))
def quitrentref21_Moved.f (k : Nat) (l0 : List (S41)) (a1_0 : Int) (a1_1 : Int) : Option ((List (S41)) × Int) := (quitrentref21_check.f k l0 a1_0 a1_1).bind fun t260 => (if t260 = 0 then (quitrentref21_Moved.l0 k l0 (([] : List (S41))) 0 a1_0 a1_1) else (some (([] : List (S41)), t260)))
theorem quitrentref21_Moved.mono_l : ∀ k, (∀ y0 y1 y2 y3 y4, LeO (quitrentref21_Moved.l0 k y0 y1 y2 y3 y4) (quitrentref21_Moved.l0 (k + 1) y0 y1 y2 y3 y4))
  | 0 => fun _ _ _ _ _ r h => by simp [quitrentref21_Moved.l0] at h
  | k + 1 => by
    have ih0 := quitrentref21_Moved.mono_l k
    · intro y0 y1 y2 y3 y4
      unfold quitrentref21_Moved.l0
      repeat' first
      | (with_reducible exact ih0 _ _ _ _ _)
      | (with_reducible exact quitrentref21_check.mono _ _ _ _)
      | (with_reducible exact quitrentref21_fits.mono _ _)
      | (with_reducible exact LeO.refl _)
      | (with_reducible exact LeO.none _)
      | (with_reducible refine LeO.ite ?_ ?_)
      | (with_reducible refine LeO.bind ?_ (fun _ => ?_))
      | exact ih0 _ _ _ _ _
      | exact quitrentref21_check.mono _ _ _ _
      | exact quitrentref21_fits.mono _ _
      | exact LeO.none _
      | refine LeO.ite ?_ ?_
      | refine LeO.bind ?_ (fun _ => ?_)
theorem quitrentref21_Moved.mono : ∀ a0 a1 a2 k, LeO (quitrentref21_Moved.f k a0 a1 a2) (quitrentref21_Moved.f (k + 1) a0 a1 a2) := by
  intro a0 a1 a2 k
  have ih0 := quitrentref21_Moved.mono_l k
  unfold quitrentref21_Moved.f
  repeat' first
      | (with_reducible exact ih0 _ _ _ _ _)
      | (with_reducible exact quitrentref21_check.mono _ _ _ _)
      | (with_reducible exact quitrentref21_fits.mono _ _)
      | (with_reducible exact LeO.refl _)
      | (with_reducible exact LeO.none _)
      | (with_reducible refine LeO.ite ?_ ?_)
      | (with_reducible refine LeO.bind ?_ (fun _ => ?_))
      | exact ih0 _ _ _ _ _
      | exact quitrentref21_check.mono _ _ _ _
      | exact quitrentref21_fits.mono _ _
      | exact LeO.none _
      | refine LeO.ite ?_ ?_
      | refine LeO.bind ?_ (fun _ => ?_)
def quitrentref21_Moved.T8 : Bool × List (List Nat × List Nat) := (true, [([], []), ([], []), ([], []), ([1, 2], [1, 2]), ([3], [3]), ([4], [4]), ([], []), ([6], [6]), ([5, 7], [5, 7]), ([], []), ([], []), ([9, 10], [9, 10]), ([11], [11]), ([12], [12]), ([], []), ([14], [14]), ([13, 15], [13, 15]), ([8, 16], [8, 16]), ([17], [17]), ([0, 18], [0, 18]), ([19, 19, 0, 1, 2, 3, 4, 5, 6, 7, 8, 9, 10, 11, 12, 13, 14, 15, 16, 17, 18, 19], [0, 19])])
def quitrentref21_Moved.B8 : List Nat := [0, 0, 0, 6, 14, 30, 0, 64, 254, 0, 0, 1536, 3584, 7680, 0, 16384, 65024, 131070, 262142, 524287, 1048575]
theorem quitrentref21_Moved.tab8 : rtab .any (opsOf Try.f34 8) = quitrentref21_Moved.T8 := by kernel_rfl
theorem quitrentref21_Moved.bits8 : waitsOk quitrentref21_Moved.T8.2 quitrentref21_Moved.B8 = true := by kernel_rfl
set_option maxHeartbeats 8000000 in
set_option maxRecDepth 100000 in
theorem quitrentref21_Moved.calls (k : Nat) (A0 : Option Addr) (c0 : Nat) (l0 : List (S41)) (a1_0 : Int) (a1_1 : Int) (r1 : List (S41)) (r2 : Int) (w : World) (hr0 : Kd.C k41 w A0 l0.length l0) (hc0 : l0.length ≤ c0) (h : quitrentref21_Moved.f k l0 a1_0 a1_1 = some (r1, r2)) :
    Calls Try.prog 34 #[.slice A0 l0.length c0, .agg #[.int .i64 a1_0, .int .i64 a1_1]] w fun e w' => ∃ v0_ : Value, e = .returned (.tuple #[v0_, .int .i64 r2]) ∧ Kd.R k41 41 w' w.heap.size (fun _ => True) v0_ r1 ∧ Below w.heap.size w w' := by
  have hu41 := Try.underlying41
  have HR0 := Aside0.mk hr0
  have HC0 := Aside0.mk hc0
  clear hr0 hc0
  have HB := Aside0.mk (Below.refl w.heap.size w)
  have H : ((quitrentref21_check.f k l0 a1_0 a1_1).bind fun t260 => (if t260 = 0 then (quitrentref21_Moved.l0 k l0 (([] : List (S41))) 0 a1_0 a1_1) else (some (([] : List (S41)), t260)))) = some (r1, r2) := h
  clear h
  replace H := Option.bind_eq_some_iff.mp H
  obtain ⟨t260, A30, H⟩ := H
  replace H : (if t260 = 0 then (quitrentref21_Moved.l0 k l0 (([] : List (S41))) 0 a1_0 a1_1) else (some (([] : List (S41)), t260))) = some (r1, r2) := H
  have A3 := Aside0.mk A30
  clear A30
  by_cases c4 : t260 = 0
  · rw [if_pos c4] at H
    have c4b0 : (t260 == 0) = true := beq_iff_eq.mpr c4
    have c4b1 : (t260 != 0) = false := bne_eq_false_iff_eq.mpr c4
    clear c4
    obtain ⟨y261, hy261⟩ : ∃ y_ : List (S41), y_ = (([] : List (S41))) := ⟨_, rfl⟩
    replace H : (quitrentref21_Moved.l0 k l0 y261 0 a1_0 a1_1) = some (r1, r2) := by first | (rw [hy261]; with_reducible exact H) | (have H2_ := (Option.bind_some _ _).symm.trans H; rw [hy261]; with_reducible exact H2_) | (have H2_ := (Option.bind_some _ _).symm.trans H; with_reducible exact H2_) | with_reducible exact H | (rw [hy261]; exact H) | exact H
    have Ny261 := Aside0.mk hy261
    clear hy261
    have H' := Aside0.mk H
    clear H
    go_enter Try.func34, Try.ntmps34
    go_wp2_with (first | ((with_reducible refine gate_dst (N := 3) rfl ?_); refine box_event ?hg (N := 3) ?hd (cs := #[.int .i64 a1_0, .int .i64 a1_1]) (t := 41) ?hr ?_; (case hd => rfl); (case hg => rfl); (case hr => first | (go_simp; done) | (go_simp; rfl)); intro gb259 hg w5 hbox hb; have n0_ := Aside0.mk (below_step (by repeat (first | (with_reducible first | exact HB.out | apply below_alloc | apply pw_below_drewN | apply below_drew1) | exact HB.out)) hb); have n1_ := Aside0.mk (hbox); have n2_ := Aside0.mk ((by rw [hg]; exact (below_size (by repeat (first | (with_reducible first | exact HB.out | apply below_alloc | apply pw_below_drewN | apply below_drew1) | exact HB.out))) : w.heap.size ≤ gb259)); have n3_ := Aside0.mk ((by rw [hg]; exact (below_size (by repeat (first | (with_reducible first | exact HB.out | apply below_alloc | apply pw_below_drewN | apply below_drew1) | exact HB.out))) : w.heap.size ≤ gb259)); clear HB; have HB := n0_; have BK259 := n1_; have GW259 := n2_; have GE259 := n3_; clear n0_ n1_ n2_ n3_; clear hb hbox hg; have hcz6_0 : w5.cell? ⟨gb259, 0, none⟩ = some (.int .i64 a1_0) := (blk_cell BK259.out 0).trans rfl; have hcz6_1 : w5.cell? ⟨gb259, 1, none⟩ = some (.int .i64 a1_1) := (blk_cell BK259.out 1).trans rfl; have hfz6_0 := blk_frozen BK259.out 0; have hfz6_1 := blk_frozen BK259.out 1) | ((with_reducible refine gate_callee (f := 70) rfl ?_); refine goesL_ (some 11) rfl rfl Try.func70 (by kernel_rfl) rfl #[.slice A0 l0.length c0, .agg #[.int .i64 a1_0, .int .i64 a1_1]] rfl (by (try simp only [List.map_toArray, List.map_cons, List.map_nil]); first | done | rfl | (simp only [List.length_drop, List.length_take]; rfl)) ?_; (with_reducible refine (quitrentref21_check.calls k _ _ l0 a1_0 a1_1 t260 _ ?side1 ?side2 A3.out).mono ?_); (case side1 => repeat (first | exact (Kd.C_below HR0.out HB.out) | (with_reducible refine Kd.C_alloc ?_ _) | (with_reducible refine Kd.C_drewN ?_ _) | (with_reducible refine Kd.C_drew ?_))); (case side2 => exact HC0.out); rintro e w7 ⟨rfl, hb⟩; refine ⟨_, rfl, ?_⟩; have n0_ := Aside0.mk (blk_below (g := gb259) (o := .cells #[.int .i64 a1_0, .int .i64 a1_1] 41 (0, 0)) (by (with_reducible repeat (first | refine blk_drewN ?_ _ | refine blk_drew ?_ | refine blk_alloc ?_ _)); exact BK259.out) hb); have n1_ := Aside0.mk (below_step (by repeat (first | (with_reducible first | exact HB.out | apply below_alloc | apply pw_below_drewN | apply below_drew1 | refine below_set ?_ GE259.out) | exact HB.out)) hb); clear BK259; clear HB; have BK259 := n0_; have HB := n1_; clear n0_ n1_; (try clear hb); (try clear hb2); (try clear hk); (try clear hi)) | ((with_reducible refine gate_dst (N := 15) rfl ?_); refine Kd.R_lit k41 _ 41 ?hg (N := 15) ?hd (xs := ([] : List (S41))) (inner := []) (ok := fun _ => True) (okp := fun _ => True) ?hr ?hp (fun _ hk => hk) trivial (Below.refl _ _) (Nat.le_refl _) (by simp) ?_; (case hd => rfl); (case hg => rfl); (case hr => first | (go_simp; done) | (go_simp; rfl)); (case hp => exact (Reps.none _ _)); intro v262 w8 ho9 hb hg_ hnew_; clear hg_ hnew_; (first | rw [← Ny261.out] at ho9 | (simp only [Int.reduceToNat] at ho9; rw [← Ny261.out] at ho9)); have n0_ := Aside0.mk (Kd.R_lower (Kd.R_newB ho9 (g := gb259) (o := .cells #[.int .i64 a1_0, .int .i64 a1_1] 41 (0, 0)) (by (with_reducible repeat (first | refine blk_drewN ?_ _ | refine blk_drew ?_ | refine blk_alloc ?_ _)); exact BK259.out)) (below_size (by repeat (first | (with_reducible first | exact HB.out | apply below_alloc | apply pw_below_drewN | apply below_drew1 | refine below_set ?_ GE259.out) | exact HB.out)))); have n1_ := Aside0.mk (blk_below (g := gb259) (o := .cells #[.int .i64 a1_0, .int .i64 a1_1] 41 (0, 0)) (by (with_reducible repeat (first | refine blk_drewN ?_ _ | refine blk_drew ?_ | refine blk_alloc ?_ _)); exact BK259.out) hb); have n2_ := Aside0.mk (below_step (by repeat (first | (with_reducible first | exact HB.out | apply below_alloc | apply pw_below_drewN | apply below_drew1 | refine below_set ?_ GE259.out) | exact HB.out)) hb); clear BK259; clear HB; have HO263 := n0_; have BK259 := n1_; have HB := n2_; clear n0_ n1_ n2_; clear hb ho9))
    go_loopg [7, 8] k (fun kq v7 v8 w' => ∃ (x7_1 : List (S41)) (x8_1 : Int), v8 = .int .i64 x8_1 ∧ Aside0 (quitrentref21_Moved.l0 kq l0 x7_1 x8_1 a1_0 a1_1 = some (r1, r2)) ∧ Aside0 (kq ≤ k) ∧ Aside0 (Kd.R k41 41 w' w.heap.size (fun k_ => k_ ≠ gb259) v7 x7_1) ∧ Aside0 (w'.heap[gb259]? = some (.cells #[.int .i64 a1_0, .int .i64 a1_1] 41 (0, 0))) ∧ Aside0 (Below w.heap.size w w'))
    case atStart => exact ⟨(y261), (0), (by first | rfl | (simp; done) | (simp [*]; done)), H', ⟨Nat.le_refl _⟩, ⟨by (with_reducible repeat (first | apply Kd.R_alloc | apply Kd.R_drewN | apply Kd.R_drew)); exact Kd.R_mono HO263.out (fun _ hk => hk.2)⟩, ⟨by (with_reducible repeat (first | refine blk_drewN ?_ _ | refine blk_drew ?_ | refine blk_alloc ?_ _)); exact BK259.out⟩, ⟨by repeat (first | (with_reducible first | exact HB.out | apply below_alloc | apply pw_below_drewN | apply below_drew1 | refine below_set ?_ GE259.out) | exact HB.out)⟩⟩
    case round =>
      clear H'
      try clear p2
      try clear c3
      try clear c4
      try clear c4b0
      try clear c4b1
      try clear c7
      try clear hcz6_0
      try clear hcz6_1
      try clear hfz6_0
      try clear hfz6_1
      obtain ⟨x7_1, x8_1, rfl, HA, HK1, HO_7, BK259, HB⟩ := hrel
      cases gk with
      | zero => exact absurd HA.out (by simp [quitrentref21_Moved.l0])
      | succ k1 =>
        have H := HA.out
        clear HA
        simp only [quitrentref21_Moved.l0] at H
        by_cases c10 : x8_1 < (l0.length : Int)
        · rw [if_pos c10] at H
          have c10b0 : decide (x8_1 < (l0.length : Int)) = true := decide_eq_true c10
          clear c10
          by_cases c11 : 0 ≤ x8_1
          · rw [if_pos c11] at H
            have c11b0 : decide (0 ≤ x8_1) = true := decide_eq_true c11
            clear c11
            by_cases c12 : x7_1.length < 8796093022208
            · rw [if_pos c12] at H
              have LMc12 := Aside0.mk c12
              clear c12
              obtain ⟨y266, hy266⟩ : ∃ y_ : List (S41), y_ = (x7_1 ++ [(⟨wrap64 (((rd_T41 l0 x8_1).f0) + a1_0), wrap64 (((rd_T41 l0 x8_1).f1) + a1_1)⟩ : S41)]) := ⟨_, rfl⟩
              replace H : (quitrentref21_Moved.l0 k1 l0 y266 (wrap64 (x8_1 + 1)) a1_0 a1_1) = some (r1, r2) := by first | (rw [hy266]; with_reducible exact H) | (have H2_ := (Option.bind_some _ _).symm.trans H; rw [hy266]; with_reducible exact H2_) | (have H2_ := (Option.bind_some _ _).symm.trans H; with_reducible exact H2_) | with_reducible exact H | (rw [hy266]; exact H) | exact H
              have Ny266 := Aside0.mk hy266
              clear hy266
              have H' := Aside0.mk H
              clear H
              try go_wp2
              have n0_ := Aside0.mk (Kd.R_drew HO_7.out)
              have n1_ := Aside0.mk (blk_drew BK259.out)
              have n2_ := Aside0.mk (below_drew1 HB.out)
              clear HO_7
              clear BK259
              clear HB
              have HO_7 := n0_
              have BK259 := n1_
              have HB := n2_
              clear n0_ n1_ n2_
              have p264 : 0 ≤ (x8_1 : Int) := of_decide_eq_true (by first | (with_reducible assumption) | assumption)
              have q264 : x8_1 < (l0.length : Int) := of_decide_eq_true (by first | (with_reducible assumption) | assumption)
              obtain ⟨ad264, e264, hx264_0, hx264_1⟩ := at_T41 HR0.out x8_1 p264 q264
              have hw264_1 := hx264_1
              have hw264_0 := hx264_0
              cases e264
              replace hx264_0 := (HB.out.cell (World.block_lt_of_cell? w _ hx264_0)).trans hx264_0
              replace hx264_1 := (HB.out.cell (World.block_lt_of_cell? w _ hx264_1)).trans hx264_1
              replace p264 := eq_true p264
              replace q264 := eq_true q264
              have p265 : 0 ≤ (x8_1 : Int) := of_decide_eq_true (by first | (with_reducible assumption) | assumption)
              have q265 : x8_1 < (l0.length : Int) := of_decide_eq_true (by first | (with_reducible assumption) | assumption)
              obtain ⟨ad265, e265, hx265_0, hx265_1⟩ := at_T41 HR0.out x8_1 p265 q265
              have hw265_1 := hx265_1
              have hw265_0 := hx265_0
              obtain rfl : ad264 = ad265 := (by injection e265)
              replace hx265_0 := (HB.out.cell (World.block_lt_of_cell? w _ hx265_0)).trans hx265_0
              replace hx265_1 := (HB.out.cell (World.block_lt_of_cell? w _ hx265_1)).trans hx265_1
              replace p265 := eq_true p265
              replace q265 := eq_true q265
              refine start_ (n := 21) (S := fun w' => w'.cell? ⟨gb259, 0, none⟩ = some (.int .i64 a1_0) ∧ w'.cell? ⟨gb259, 1, none⟩ = some (.int .i64 a1_1) ∧ w'.cell? (ad264.add ((x8_1).toNat * 2)) = some (.int .i64 ((rd_T41 l0 x8_1).f0)) ∧ w'.cell? ⟨(ad264.add ((x8_1).toNat * 2)).block, (ad264.add ((x8_1).toNat * 2)).off + 1, none⟩ = some (.int .i64 ((rd_T41 l0 x8_1).f1)) ∧ w'.cell? (ad264.add ((x8_1).toNat * 2)) = some (.int .i64 ((rd_T41 l0 x8_1).f0)) ∧ w'.cell? ⟨(ad264.add ((x8_1).toNat * 2)).block, (ad264.add ((x8_1).toNat * 2)).off + 1, none⟩ = some (.int .i64 ((rd_T41 l0 x8_1).f1))) (ds := []) #[false, false, false, false, false, false, false, false, false, false, false, false, false, false, false, false, false, false, false, false, false] (by kernel_rfl) rfl rfl ⟨(blk_cell BK259.out 0).trans rfl, (blk_cell BK259.out 1).trans rfl, ((HB.out.cell (World.block_lt_of_cell? w _ hw264_0)).trans hw264_0), ((HB.out.cell (World.block_lt_of_cell? w _ hw264_1)).trans hw264_1), ((HB.out.cell (World.block_lt_of_cell? w _ hw265_0)).trans hw265_0), ((HB.out.cell (World.block_lt_of_cell? w _ hw265_1)).trans hw265_1)⟩ (fun hHeld => ?_); refine with_tabW quitrentref21_Moved.tab8 quitrentref21_Moved.bits8 (fun HT_ HW_ => ?_)
              generalize wr.drew = w13 at HO_7 BK259 HB hx264_0 hx264_1 hx265_0 hx265_1 hHeld ⊢
              refine pure_ (i := 0) (N := some 22) (v := ?_) (a' := ?_) #[true, false, false, false, false, false, false, false, false, false, false, false, false, false, false, false, false, false, false, false, false] rfl rfl (any_of HT_.out (by kernel_rfl)) (fun _ _ _ h => h) (Or.inl ⟨by rfl, ?_⟩) ?_ ?_
              rotate_left
              · intro w'
                go_simp
                with_reducible rfl
              rotate_left
              · simp only [Act.put, List.setIfInBounds_toArray, List.set_cons_zero, List.set_cons_succ, i64_w, i32_w]
                rfl
              refine pure_ (i := 1) (N := some 23) (v := ?_) (a' := ?_) #[true, true, false, false, false, false, false, false, false, false, false, false, false, false, false, false, false, false, false, false, false] rfl rfl (any_of HT_.out (by kernel_rfl)) (fun _ _ _ h => h) (Or.inl ⟨by rfl, ?_⟩) ?_ ?_
              rotate_left
              · intro w'
                go_simp
                with_reducible rfl
              rotate_left
              · simp only [Act.put, List.setIfInBounds_toArray, List.set_cons_zero, List.set_cons_succ, i64_w, i32_w]
                rfl
              refine pure_ (i := 2) (N := some 24) (v := ?_) (a' := ?_) #[true, true, true, false, false, false, false, false, false, false, false, false, false, false, false, false, false, false, false, false, false] rfl rfl (any_of HT_.out (by kernel_rfl)) (fun _ _ _ h => h) (Or.inl ⟨by rfl, ?_⟩) ?_ ?_
              rotate_left
              · intro w'
                go_simp
                with_reducible rfl
              rotate_left
              · simp only [Act.put, List.setIfInBounds_toArray, List.set_cons_zero, List.set_cons_succ, i64_w, i32_w]
                rfl
              refine pure_ (i := 3) (N := some 25) (v := ?_) (a' := ?_) #[true, true, true, true, false, false, false, false, false, false, false, false, false, false, false, false, false, false, false, false, false] rfl rfl (any_of HT_.out (by kernel_rfl)) (fun _ _ _ h => h) (Or.inl ⟨by rfl, ?_⟩) ?_ ?_
              rotate_left
              · intro w'
                go_simp
                with_reducible rfl
              rotate_left
              · simp only [Act.put, List.setIfInBounds_toArray, List.set_cons_zero, List.set_cons_succ, i64_w, i32_w]
                rfl
              refine pure_ (i := 4) (N := some 26) (v := ?_) (a' := ?_) #[true, true, true, true, true, false, false, false, false, false, false, false, false, false, false, false, false, false, false, false, false] rfl rfl (any_of HT_.out (by kernel_rfl)) (fun _ _ _ h => h) (Or.inl ⟨by rfl, ?_⟩) ?_ ?_
              rotate_left
              · intro w'
                go_simp
                with_reducible rfl
              rotate_left
              · simp only [Act.put, List.setIfInBounds_toArray, List.set_cons_zero, List.set_cons_succ, i64_w, i32_w]
                rfl
              refine pure_ (i := 6) (N := some 28) (v := ?_) (a' := ?_) #[true, true, true, true, true, false, true, false, false, false, false, false, false, false, false, false, false, false, false, false, false] rfl rfl (any_of HT_.out (by kernel_rfl)) (fun _ _ _ h => h) (Or.inl ⟨by rfl, ?_⟩) ?_ ?_
              rotate_left
              · intro w'
                go_simp
                with_reducible rfl
              rotate_left
              · simp only [Act.put, List.setIfInBounds_toArray, List.set_cons_zero, List.set_cons_succ, i64_w, i32_w]
                rfl
              refine pure_ (i := 9) (N := some 31) (v := ?_) (a' := ?_) #[true, true, true, true, true, false, true, false, false, true, false, false, false, false, false, false, false, false, false, false, false] rfl rfl (any_of HT_.out (by kernel_rfl)) (fun _ _ _ h => h) (Or.inl ⟨by rfl, ?_⟩) ?_ ?_
              rotate_left
              · intro w'
                go_simp
                with_reducible rfl
              rotate_left
              · simp only [Act.put, List.setIfInBounds_toArray, List.set_cons_zero, List.set_cons_succ, i64_w, i32_w]
                rfl
              refine pure_ (i := 10) (N := some 32) (v := ?_) (a' := ?_) #[true, true, true, true, true, false, true, false, false, true, true, false, false, false, false, false, false, false, false, false, false] rfl rfl (any_of HT_.out (by kernel_rfl)) (fun _ _ _ h => h) (Or.inl ⟨by rfl, ?_⟩) ?_ ?_
              rotate_left
              · intro w'
                go_simp
                with_reducible rfl
              rotate_left
              · simp only [Act.put, List.setIfInBounds_toArray, List.set_cons_zero, List.set_cons_succ, i64_w, i32_w]
                rfl
              refine pure_ (i := 11) (N := some 33) (v := ?_) (a' := ?_) #[true, true, true, true, true, false, true, false, false, true, true, true, false, false, false, false, false, false, false, false, false] rfl rfl (any_of HT_.out (by kernel_rfl)) (fun _ _ _ h => h) (Or.inl ⟨by rfl, ?_⟩) ?_ ?_
              rotate_left
              · intro w'
                go_simp
                with_reducible rfl
              rotate_left
              · simp only [Act.put, List.setIfInBounds_toArray, List.set_cons_zero, List.set_cons_succ, i64_w, i32_w]
                rfl
              refine pure_ (i := 12) (N := some 34) (v := ?_) (a' := ?_) #[true, true, true, true, true, false, true, false, false, true, true, true, true, false, false, false, false, false, false, false, false] rfl rfl (any_of HT_.out (by kernel_rfl)) (fun _ _ _ h => h) (Or.inl ⟨by rfl, ?_⟩) ?_ ?_
              rotate_left
              · intro w'
                go_simp
                with_reducible rfl
              rotate_left
              · simp only [Act.put, List.setIfInBounds_toArray, List.set_cons_zero, List.set_cons_succ, i64_w, i32_w]
                rfl
              refine pure_ (i := 14) (N := some 36) (v := ?_) (a' := ?_) #[true, true, true, true, true, false, true, false, false, true, true, true, true, false, true, false, false, false, false, false, false] rfl rfl (any_of HT_.out (by kernel_rfl)) (fun _ _ _ h => h) (Or.inl ⟨by rfl, ?_⟩) ?_ ?_
              rotate_left
              · intro w'
                go_simp
                with_reducible rfl
              rotate_left
              · simp only [Act.put, List.setIfInBounds_toArray, List.set_cons_zero, List.set_cons_succ, i64_w, i32_w]
                rfl
              refine take_ (i := 5) (N := some 27) (v := ?_) (a' := ?_) #[true, true, true, true, true, true, true, false, false, true, true, true, true, false, true, false, false, false, false, false, false] rfl rfl (take_ofW HT_.out HW_.out (by kernel_rfl)) (fun _ _ _ h => h) (Or.inl ⟨by rfl, ?_⟩) hHeld ?_ ?_
              rotate_left
              · rintro w' ⟨s0, s1, s2, s3, s4, s5⟩
                go_simp
                with_reducible rfl
              rotate_left
              · simp only [Act.put, List.setIfInBounds_toArray, List.set_cons_zero, List.set_cons_succ, i64_w, i32_w]
                rfl
              refine take_ (i := 7) (N := some 29) (v := ?_) (a' := ?_) #[true, true, true, true, true, true, true, true, false, true, true, true, true, false, true, false, false, false, false, false, false] rfl rfl (take_ofW HT_.out HW_.out (by kernel_rfl)) (fun _ _ _ h => h) (Or.inl ⟨by rfl, ?_⟩) hHeld ?_ ?_
              rotate_left
              · rintro w' ⟨s0, s1, s2, s3, s4, s5⟩
                go_simp
                with_reducible rfl
              rotate_left
              · simp only [Act.put, List.setIfInBounds_toArray, List.set_cons_zero, List.set_cons_succ, i64_w, i32_w]
                rfl
              refine pure_ (i := 8) (N := some 30) (v := ?_) (a' := ?_) #[true, true, true, true, true, true, true, true, true, true, true, true, true, false, true, false, false, false, false, false, false] rfl rfl (any_of HT_.out (by kernel_rfl)) (fun _ _ _ h => h) (Or.inl ⟨by rfl, ?_⟩) ?_ ?_
              rotate_left
              · intro w'
                go_simp
                with_reducible rfl
              rotate_left
              · simp only [Act.put, List.setIfInBounds_toArray, List.set_cons_zero, List.set_cons_succ, i64_w, i32_w]
                rfl
              refine take_ (i := 13) (N := some 35) (v := ?_) (a' := ?_) #[true, true, true, true, true, true, true, true, true, true, true, true, true, true, true, false, false, false, false, false, false] rfl rfl (take_ofW HT_.out HW_.out (by kernel_rfl)) (fun _ _ _ h => h) (Or.inl ⟨by rfl, ?_⟩) hHeld ?_ ?_
              rotate_left
              · rintro w' ⟨s0, s1, s2, s3, s4, s5⟩
                go_simp
                with_reducible rfl
              rotate_left
              · simp only [Act.put, List.setIfInBounds_toArray, List.set_cons_zero, List.set_cons_succ, i64_w, i32_w]
                rfl
              refine take_ (i := 15) (N := some 37) (v := ?_) (a' := ?_) #[true, true, true, true, true, true, true, true, true, true, true, true, true, true, true, true, false, false, false, false, false] rfl rfl (take_ofW HT_.out HW_.out (by kernel_rfl)) (fun _ _ _ h => h) (Or.inl ⟨by rfl, ?_⟩) hHeld ?_ ?_
              rotate_left
              · rintro w' ⟨s0, s1, s2, s3, s4, s5⟩
                go_simp
                with_reducible rfl
              rotate_left
              · simp only [Act.put, List.setIfInBounds_toArray, List.set_cons_zero, List.set_cons_succ, i64_w, i32_w]
                rfl
              refine pure_ (i := 16) (N := some 38) (v := ?_) (a' := ?_) #[true, true, true, true, true, true, true, true, true, true, true, true, true, true, true, true, true, false, false, false, false] rfl rfl (any_of HT_.out (by kernel_rfl)) (fun _ _ _ h => h) (Or.inl ⟨by rfl, ?_⟩) ?_ ?_
              rotate_left
              · intro w'
                go_simp
                with_reducible rfl
              rotate_left
              · simp only [Act.put, List.setIfInBounds_toArray, List.set_cons_zero, List.set_cons_succ, i64_w, i32_w]
                rfl
              refine pure_ (i := 17) (N := some 39) (v := ?_) (a' := ?_) #[true, true, true, true, true, true, true, true, true, true, true, true, true, true, true, true, true, true, false, false, false] rfl rfl (any_of HT_.out (by kernel_rfl)) (fun _ _ _ h => h) (Or.inl ⟨by rfl, ?_⟩) ?_ ?_
              rotate_left
              · intro w'
                go_simp
                with_reducible rfl
              rotate_left
              · simp only [Act.put, List.setIfInBounds_toArray, List.set_cons_zero, List.set_cons_succ, i64_w, i32_w]
                rfl
              refine one_ (i := 18) (N := some 40) #[true, true, true, true, true, true, true, true, true, true, true, true, true, true, true, true, true, true, true, false, false] rfl rfl (one_of HT_.out (by kernel_rfl)) (by decide) (fun K hK => ?_)
              refine value_ (w1 := ?_) (v := ?_) (by rfl) rfl ?_ ?_
              rotate_left 2
              · go_simp
                constructor
                · rfl
                · rfl
              refine hK.out _ _ ⟨(blk_cell (blk_alloc BK259.out _) 0).trans rfl, (blk_cell (blk_alloc BK259.out _) 1).trans rfl, (World.cell?_alloc_lt _ _ _ (World.block_lt_of_cell? _ _ (((HB.out.cell (World.block_lt_of_cell? w _ hw264_0)).trans hw264_0)))).trans (((HB.out.cell (World.block_lt_of_cell? w _ hw264_0)).trans hw264_0)), (World.cell?_alloc_lt _ _ _ (World.block_lt_of_cell? _ _ (((HB.out.cell (World.block_lt_of_cell? w _ hw264_1)).trans hw264_1)))).trans (((HB.out.cell (World.block_lt_of_cell? w _ hw264_1)).trans hw264_1)), (World.cell?_alloc_lt _ _ _ (World.block_lt_of_cell? _ _ (((HB.out.cell (World.block_lt_of_cell? w _ hw265_0)).trans hw265_0)))).trans (((HB.out.cell (World.block_lt_of_cell? w _ hw265_0)).trans hw265_0)), (World.cell?_alloc_lt _ _ _ (World.block_lt_of_cell? _ _ (((HB.out.cell (World.block_lt_of_cell? w _ hw265_1)).trans hw265_1)))).trans (((HB.out.cell (World.block_lt_of_cell? w _ hw265_1)).trans hw265_1))⟩ (fun hHeld => ?_)
              clear hK K
              refine norm_ (a' := ?_) ?_ ?_
              rotate_left
              · show Act.put _ (some 40) _ = _
                simp only [Act.put, List.setIfInBounds_toArray, List.set_cons_zero, List.set_cons_succ, i64_w, i32_w]
                rfl
              refine one_ (i := 19) (N := some 41) #[true, true, true, true, true, true, true, true, true, true, true, true, true, true, true, true, true, true, true, true, false] rfl rfl (one_of HT_.out (by kernel_rfl)) (by decide) (fun K hK => ?_)
              refine Kd.R_append_step k41 (w0 := w) w.heap.size (by rfl) (.tmp 22) (.tmp 40) 39 41 (.agg #[(.int .i64 0), (.int .i64 0)]) 16 rfl Try.underlying39 info41 rfl (by decide) (by omega) u7 x7_1 (⟨wrap64 (((rd_T41 l0 x8_1).f0) + a1_0), wrap64 (((rd_T41 l0 x8_1).f1) + a1_1)⟩ : S41) [.int .i64 (wrap64 (((rd_T41 l0 x8_1).f0) + a1_0)), .int .i64 (wrap64 (((rd_T41 l0 x8_1).f1) + a1_1))] (fun k_ => k_ ≠ gb259) (fun _ => False) rfl rfl ?aP (fun _ hk => hk.elim) ?aF ?aO ?aB ?aS ?aL ?_
              (case aP => exact k41_mkM _ _ _ (⟨wrap64 (((rd_T41 l0 x8_1).f0) + a1_0), wrap64 (((rd_T41 l0 x8_1).f1) + a1_1)⟩ : S41))
              (case aB => exact (by repeat (first | (with_reducible first | exact HB.out | apply below_alloc | apply pw_below_drewN | apply below_drew1 | refine below_set ?_ GE259.out) | exact HB.out)))
              (case aF => exact (fun k_ hk => Kd.freshB (g := gb259) (o := .cells #[.int .i64 a1_0, .int .i64 a1_1] 41 (0, 0)) (by (with_reducible repeat (first | refine blk_drewN ?_ _ | refine blk_drew ?_ | refine blk_alloc ?_ _)); exact BK259.out) k_ hk))
              (case aO => exact (by (with_reducible repeat (first | apply Kd.R_alloc | apply Kd.R_drewN | apply Kd.R_drew)); exact HO_7.out))
              (case aS => exact (below_size (by repeat (first | (with_reducible first | exact HB.out | apply below_alloc | apply pw_below_drewN | apply below_drew1 | refine below_set ?_ GE259.out) | exact HB.out))))
              (case aL => have := LMc12.out; omega)
              intro v267 w14 ho hb hg hat
              rw [← Ny266.out] at ho
              have n0_ := Aside0.mk (blk_grown (g := gb259) (o := .cells #[.int .i64 a1_0, .int .i64 a1_1] 41 (0, 0)) (by (with_reducible repeat (first | refine blk_drewN ?_ _ | refine blk_drew ?_ | refine blk_alloc ?_ _)); exact BK259.out) hg (Kd.R_away HO_7.out (fun _ hk => hk)))
              have n1_ := Aside0.mk (hb)
              have n2_ := Aside0.mk (ho)
              clear BK259
              clear HB
              clear HO_7
              have BK259 := n0_
              have HB := n1_
              have HO268 := n2_
              clear n0_ n1_ n2_
              clear ho hb hg hat
              refine hK.out _ _ ⟨(blk_cell BK259.out 0).trans rfl, (blk_cell BK259.out 1).trans rfl, ((HB.out.cell (World.block_lt_of_cell? w _ hw264_0)).trans hw264_0), ((HB.out.cell (World.block_lt_of_cell? w _ hw264_1)).trans hw264_1), ((HB.out.cell (World.block_lt_of_cell? w _ hw265_0)).trans hw265_0), ((HB.out.cell (World.block_lt_of_cell? w _ hw265_1)).trans hw265_1)⟩ (fun hHeld => ?_)
              clear hK K
              refine norm_ (a' := ?_) ?_ ?_
              rotate_left
              · show Act.put _ (some 41) _ = _
                simp only [Act.put, List.setIfInBounds_toArray, List.set_cons_zero, List.set_cons_succ, i64_w, i32_w]
                rfl
              refine pure_ (i := 20) (N := some 7) (v := ?_) (a' := ?_) #[true, true, true, true, true, true, true, true, true, true, true, true, true, true, true, true, true, true, true, true, true] rfl rfl (any_of HT_.out (by kernel_rfl)) (fun _ _ _ h => h) (Or.inl ⟨by rfl, ?_⟩) ?_ ?_
              rotate_left
              · intro w'
                go_simp
                with_reducible rfl
              rotate_left
              · simp only [Act.put, List.setIfInBounds_toArray, List.set_cons_zero, List.set_cons_succ, i64_w, i32_w]
                rfl
              refine done_ (done_of HT_.out (by kernel_rfl)) ?_
              try go_wp2
              go_roundg k1
              case measure => have := HK1.out; omega
              case rel => exact ⟨(y266), (wrap64 (x8_1 + 1)), (by first | rfl | (simp; done) | (simp [*]; done)), H', ⟨by have := HK1.out; omega⟩, ⟨by (with_reducible repeat (first | apply Kd.R_alloc | apply Kd.R_drewN | apply Kd.R_drew)); exact HO268.out⟩, ⟨by (with_reducible repeat (first | refine blk_drewN ?_ _ | refine blk_drew ?_ | refine blk_alloc ?_ _)); exact BK259.out⟩, ⟨by repeat (first | (with_reducible first | exact HB.out | apply below_alloc | apply pw_below_drewN | apply below_drew1 | refine below_set ?_ GE259.out) | exact HB.out)⟩⟩
            · rw [if_neg c12] at H
              exact absurd H (by simp)
          · rw [if_neg c11] at H
            exact absurd H (by simp)
        · rw [if_neg c10] at H
          have c10b0 : decide (x8_1 < (l0.length : Int)) = false := decide_eq_false c10
          clear c10
          replace H := Option.bind_eq_some_iff.mp H
          obtain ⟨⟨t269, t272⟩, A150, H⟩ := H
          replace H : (some (t269, t272)) = some (r1, r2) := H
          have A15 := Aside0.mk A150
          clear A150
          simp only [Option.some.injEq, Prod.mk.injEq] at H
          obtain ⟨rfl, rfl⟩ := H
          obtain ⟨Ao16, co16, eo16⟩ := Kd.R_slice HO_7.out
          subst eo16
          go_wp2_with (first | ((with_reducible refine gate_callee (f := 71) rfl ?_); refine goesL_ (some 43) rfl rfl Try.func71 (by kernel_rfl) rfl #[.slice Ao16 x7_1.length co16] rfl (by (try simp only [List.map_toArray, List.map_cons, List.map_nil]); first | done | rfl | (simp only [List.length_drop, List.length_take]; rfl)) ?_; (with_reducible refine (quitrentref21_fits.calls k1 (fun k_ => some k_ = (.slice Ao16 x7_1.length co16 : Value).ownBlock) (.slice Ao16 x7_1.length co16) x7_1 t269 t272 w _ ?side1 ?side2 A15.out).mono ?_); (case side1 => repeat (first | (with_reducible first | exact HB.out | apply below_alloc | apply pw_below_drewN | apply below_drew1 | refine below_set ?_ GE259.out) | exact HB.out)); (case side2 => exact Kd.R_tight rfl HO_7.out); rintro e w17 ⟨v270, rfl, ho0, hb, hkp⟩; refine ⟨_, rfl, ?_⟩; have n0_ := Aside0.mk (blk_kept (by (with_reducible repeat (first | refine blk_drewN ?_ _ | refine blk_drew ?_ | refine blk_alloc ?_ _)); exact BK259.out) hkp (fun hs_ => (fun e_ => (Kd.R_away HO_7.out (fun _ hk => hk)) e_) hs_)); have n1_ := Aside0.mk (Kd.R_mono (ok' := fun k_ => k_ ≠ gb259) ho0 (fun k_ hk_ => Or.elim hk_ (fun hs_ => fun e_ => (Kd.R_away HO_7.out (fun _ hk => hk)) (by rw [← e_]; exact hs_)) (fun hn_ => (Kd.freshB (g := gb259) (o := .cells #[.int .i64 a1_0, .int .i64 a1_1] 41 (0, 0)) (by (with_reducible repeat (first | refine blk_drewN ?_ _ | refine blk_drew ?_ | refine blk_alloc ?_ _)); exact BK259.out) k_ hn_)))); have n2_ := Aside0.mk (hb); clear BK259; clear HB; clear HO_7; have BK259 := n0_; have HO271 := n1_; have HB := n2_; clear n0_ n1_ n2_; (try clear hb); (try clear hkp); (try clear ho0)))
          go_ret2
          exact ⟨_, by first | rfl | (simp [errW_none, errW_some] <;> rfl) | (simp [*, errW_none, errW_some] <;> rfl), by (with_reducible repeat (first | apply Kd.R_alloc | apply Kd.R_drewN | apply Kd.R_drew)); exact Kd.R_mono HO271.out (fun _ hk => trivial), by repeat (first | (with_reducible first | exact HB.out | apply below_alloc | apply pw_below_drewN | apply below_drew1 | refine below_set ?_ GE259.out) | exact HB.out)⟩
  · rw [if_neg c4] at H
    have c4b0 : (t260 == 0) = false := beq_eq_false_iff_ne.mpr c4
    have c4b1 : (t260 != 0) = true := bne_iff_ne.mpr c4
    simp only [Option.some.injEq, Prod.mk.injEq] at H
    obtain ⟨rfl, rfl⟩ := H
    go_enter Try.func34, Try.ntmps34
    go_wp2_with (first | ((with_reducible refine gate_dst (N := 3) rfl ?_); refine box_event ?hg (N := 3) ?hd (cs := #[.int .i64 a1_0, .int .i64 a1_1]) (t := 41) ?hr ?_; (case hd => rfl); (case hg => rfl); (case hr => first | (go_simp; done) | (go_simp; rfl)); intro gb259 hg w18 hbox hb; have n0_ := Aside0.mk (below_step (by repeat (first | (with_reducible first | exact HB.out | apply below_alloc | apply pw_below_drewN | apply below_drew1) | exact HB.out)) hb); have n1_ := Aside0.mk (hbox); have n2_ := Aside0.mk ((by rw [hg]; exact (below_size (by repeat (first | (with_reducible first | exact HB.out | apply below_alloc | apply pw_below_drewN | apply below_drew1) | exact HB.out))) : w.heap.size ≤ gb259)); have n3_ := Aside0.mk ((by rw [hg]; exact (below_size (by repeat (first | (with_reducible first | exact HB.out | apply below_alloc | apply pw_below_drewN | apply below_drew1) | exact HB.out))) : w.heap.size ≤ gb259)); clear HB; have HB := n0_; have BK259 := n1_; have GW259 := n2_; have GE259 := n3_; clear n0_ n1_ n2_ n3_; clear hb hbox hg; have hcz19_0 : w18.cell? ⟨gb259, 0, none⟩ = some (.int .i64 a1_0) := (blk_cell BK259.out 0).trans rfl; have hcz19_1 : w18.cell? ⟨gb259, 1, none⟩ = some (.int .i64 a1_1) := (blk_cell BK259.out 1).trans rfl; have hfz19_0 := blk_frozen BK259.out 0; have hfz19_1 := blk_frozen BK259.out 1) | ((with_reducible refine gate_callee (f := 70) rfl ?_); refine goesL_ (some 11) rfl rfl Try.func70 (by kernel_rfl) rfl #[.slice A0 l0.length c0, .agg #[.int .i64 a1_0, .int .i64 a1_1]] rfl (by (try simp only [List.map_toArray, List.map_cons, List.map_nil]); first | done | rfl | (simp only [List.length_drop, List.length_take]; rfl)) ?_; (with_reducible refine (quitrentref21_check.calls k _ _ l0 a1_0 a1_1 t260 _ ?side1 ?side2 A3.out).mono ?_); (case side1 => repeat (first | exact (Kd.C_below HR0.out HB.out) | (with_reducible refine Kd.C_alloc ?_ _) | (with_reducible refine Kd.C_drewN ?_ _) | (with_reducible refine Kd.C_drew ?_))); (case side2 => exact HC0.out); rintro e w20 ⟨rfl, hb⟩; refine ⟨_, rfl, ?_⟩; have n0_ := Aside0.mk (blk_below (g := gb259) (o := .cells #[.int .i64 a1_0, .int .i64 a1_1] 41 (0, 0)) (by (with_reducible repeat (first | refine blk_drewN ?_ _ | refine blk_drew ?_ | refine blk_alloc ?_ _)); exact BK259.out) hb); have n1_ := Aside0.mk (below_step (by repeat (first | (with_reducible first | exact HB.out | apply below_alloc | apply pw_below_drewN | apply below_drew1 | refine below_set ?_ GE259.out) | exact HB.out)) hb); clear BK259; clear HB; have BK259 := n0_; have HB := n1_; clear n0_ n1_; (try clear hb); (try clear hb2); (try clear hk); (try clear hi)))
    go_ret2
    exact ⟨_, by first | rfl | (simp [errW_none, errW_some] <;> rfl) | (simp [*, errW_none, errW_some] <;> rfl), by first | exact Kd.R_nil _ _ _ _ _ | exact Kd.N_nil _ _ _ _ _ | exact Kd.V_nil _ _ _ _ _ | exact Kd.Q_nil _ _ _ _ _ | exact Kd.S_nil _ _ _ _ _, by repeat (first | (with_reducible first | exact HB.out | apply below_alloc | apply pw_below_drewN | apply below_drew1 | refine below_set ?_ GE259.out) | exact HB.out)⟩
end Go.Proofs.Ytkfbmplhcigopaa.PPlo
namespace Go.Proofs.Ytkfbmplhcigopaa.PPlo
open Go.RowKit Go.Proofs.YtkfbmplhcigopaaW.PrintWords Go.Proofs.YtkfbmplhcigopaaW.PrintLast Go.Proofs.YtkfbmplhcigopaaW.PrintMore
attribute [local go_sem] max2_int min2_int max_two min_two max_three min_three max_four min_four   -- for this text's walks alone

/-! ### quitrentref21_Mirror: function 36 -/
def quitrentref21_Mirror.l0 : Nat → List (S41) → List (S41) → Int → Option ((List (S41)) × Int)
  | 0, _, _, _ => none
  | k + 1, x0, x5, x6 => if x6 < (x0.length : Int) then (if 0 ≤ x6 then (if x5.length < 8796093022208 then (quitrentref21_Mirror.l0 k x0 (x5 ++ [(⟨(rd_T41 x0 x6).f0, wrap64 (-((rd_T41 x0 x6).f1))⟩ : S41)]) (wrap64 (x6 + 1))) else (none)) else (none)) else (some (x5, 0))
def quitrentref21_Mirror.f (k : Nat) (l0 : List (S41)) : Option ((List (S41)) × Int) := (quitrentref21_check.f k l0 0 0).bind fun t273 => (if t273 = 0 then (quitrentref21_Mirror.l0 k l0 (([] : List (S41))) 0) else (some (([] : List (S41)), t273)))
theorem quitrentref21_Mirror.mono_l : ∀ k, (∀ y0 y1 y2, LeO (quitrentref21_Mirror.l0 k y0 y1 y2) (quitrentref21_Mirror.l0 (k + 1) y0 y1 y2))
  | 0 => fun _ _ _ r h => by simp [quitrentref21_Mirror.l0] at h
  | k + 1 => by
    have ih0 := quitrentref21_Mirror.mono_l k
    · intro y0 y1 y2
      unfold quitrentref21_Mirror.l0
      repeat' first
      | (with_reducible exact ih0 _ _ _)
      | (with_reducible exact quitrentref21_check.mono _ _ _ _)
      | (with_reducible exact LeO.refl _)
      | (with_reducible exact LeO.none _)
      | (with_reducible refine LeO.ite ?_ ?_)
      | (with_reducible refine LeO.bind ?_ (fun _ => ?_))
      | exact ih0 _ _ _
      | exact quitrentref21_check.mono _ _ _ _
      | exact LeO.none _
      | refine LeO.ite ?_ ?_
      | refine LeO.bind ?_ (fun _ => ?_)
theorem quitrentref21_Mirror.mono : ∀ a0 k, LeO (quitrentref21_Mirror.f k a0) (quitrentref21_Mirror.f (k + 1) a0) := by
  intro a0 k
  have ih0 := quitrentref21_Mirror.mono_l k
  unfold quitrentref21_Mirror.f
  repeat' first
      | (with_reducible exact ih0 _ _ _)
      | (with_reducible exact quitrentref21_check.mono _ _ _ _)
      | (with_reducible exact LeO.refl _)
      | (with_reducible exact LeO.none _)
      | (with_reducible refine LeO.ite ?_ ?_)
      | (with_reducible refine LeO.bind ?_ (fun _ => ?_))
      | exact ih0 _ _ _
      | exact quitrentref21_check.mono _ _ _ _
      | exact LeO.none _
      | refine LeO.ite ?_ ?_
      | refine LeO.bind ?_ (fun _ => ?_)
def quitrentref21_Mirror.T8 : Bool × List (List Nat × List Nat) := (true, [([], []), ([], []), ([], []), ([1, 2], [1, 2]), ([3], [3]), ([4], [4]), ([], []), ([], []), ([6, 7], [6, 7]), ([8], [8]), ([9], [9]), ([10], [10]), ([5, 11], [5, 11]), ([12], [12]), ([0, 13], [0, 13]), ([14, 14, 0, 1, 2, 3, 4, 5, 6, 7, 8, 9, 10, 11, 12, 13, 14], [0, 14])])
def quitrentref21_Mirror.B8 : List Nat := [0, 0, 0, 6, 14, 30, 0, 0, 192, 448, 960, 1984, 4094, 8190, 16383, 32767]
theorem quitrentref21_Mirror.tab8 : rtab .any (opsOf Try.f36 8) = quitrentref21_Mirror.T8 := by kernel_rfl
theorem quitrentref21_Mirror.bits8 : waitsOk quitrentref21_Mirror.T8.2 quitrentref21_Mirror.B8 = true := by kernel_rfl
set_option maxHeartbeats 8000000 in
set_option maxRecDepth 100000 in
theorem quitrentref21_Mirror.calls (k : Nat) (A0 : Option Addr) (c0 : Nat) (l0 : List (S41)) (r1 : List (S41)) (r2 : Int) (w : World) (hr0 : Kd.C k41 w A0 l0.length l0) (hc0 : l0.length ≤ c0) (h : quitrentref21_Mirror.f k l0 = some (r1, r2)) :
    Calls Try.prog 36 #[.slice A0 l0.length c0] w fun e w' => ∃ v0_ : Value, e = .returned (.tuple #[v0_, .int .i64 r2]) ∧ Kd.R k41 41 w' w.heap.size (fun _ => True) v0_ r1 ∧ Below w.heap.size w w' := by
  have hu41 := Try.underlying41
  have HR0 := Aside0.mk hr0
  have HC0 := Aside0.mk hc0
  clear hr0 hc0
  have HB := Aside0.mk (Below.refl w.heap.size w)
  have H : ((quitrentref21_check.f k l0 0 0).bind fun t273 => (if t273 = 0 then (quitrentref21_Mirror.l0 k l0 (([] : List (S41))) 0) else (some (([] : List (S41)), t273)))) = some (r1, r2) := h
  clear h
  replace H := Option.bind_eq_some_iff.mp H
  obtain ⟨t273, A20, H⟩ := H
  replace H : (if t273 = 0 then (quitrentref21_Mirror.l0 k l0 (([] : List (S41))) 0) else (some (([] : List (S41)), t273))) = some (r1, r2) := H
  have A2 := Aside0.mk A20
  clear A20
  by_cases c3 : t273 = 0
  · rw [if_pos c3] at H
    have c3b0 : (t273 == 0) = true := beq_iff_eq.mpr c3
    have c3b1 : (t273 != 0) = false := bne_eq_false_iff_eq.mpr c3
    clear c3
    obtain ⟨y274, hy274⟩ : ∃ y_ : List (S41), y_ = (([] : List (S41))) := ⟨_, rfl⟩
    replace H : (quitrentref21_Mirror.l0 k l0 y274 0) = some (r1, r2) := by first | (rw [hy274]; with_reducible exact H) | (have H2_ := (Option.bind_some _ _).symm.trans H; rw [hy274]; with_reducible exact H2_) | (have H2_ := (Option.bind_some _ _).symm.trans H; with_reducible exact H2_) | with_reducible exact H | (rw [hy274]; exact H) | exact H
    have Ny274 := Aside0.mk hy274
    clear hy274
    have H' := Aside0.mk H
    clear H
    go_enter Try.func36, Try.ntmps36
    go_wp2_with (first | ((with_reducible refine gate_callee (f := 70) rfl ?_); refine goesL_ (some 9) rfl rfl Try.func70 (by kernel_rfl) rfl #[.slice A0 l0.length c0, .agg #[.int .i64 0, .int .i64 0]] rfl (by (try simp only [List.map_toArray, List.map_cons, List.map_nil]); first | done | rfl | (simp only [List.length_drop, List.length_take]; rfl)) ?_; (with_reducible refine (quitrentref21_check.calls k _ _ l0 0 0 t273 _ ?side1 ?side2 A2.out).mono ?_); (case side1 => repeat (first | exact HR0.out | (with_reducible refine Kd.C_alloc ?_ _) | (with_reducible refine Kd.C_drewN ?_ _) | (with_reducible refine Kd.C_drew ?_))); (case side2 => exact HC0.out); rintro e w4 ⟨rfl, hb⟩; refine ⟨_, rfl, ?_⟩; have n0_ := Aside0.mk (below_step (by repeat (first | (with_reducible first | exact HB.out | apply below_alloc | apply pw_below_drewN | apply below_drew1) | exact HB.out)) hb); clear HB; have HB := n0_; clear n0_; (try clear hb); (try clear hb2); (try clear hk); (try clear hi)) | ((with_reducible refine gate_dst (N := 13) rfl ?_); refine Kd.R_lit k41 _ 41 ?hg (N := 13) ?hd (xs := ([] : List (S41))) (inner := []) (ok := fun _ => True) (okp := fun _ => True) ?hr ?hp (fun _ hk => hk) trivial (Below.refl _ _) (Nat.le_refl _) (by simp) ?_; (case hd => rfl); (case hg => rfl); (case hr => first | (go_simp; done) | (go_simp; rfl)); (case hp => exact (Reps.none _ _)); intro v275 w5 ho6 hb hg_ hnew_; clear hg_ hnew_; (first | rw [← Ny274.out] at ho6 | (simp only [Int.reduceToNat] at ho6; rw [← Ny274.out] at ho6)); have n0_ := Aside0.mk (Kd.R_lower ho6 (below_size (by repeat (first | (with_reducible first | exact HB.out | apply below_alloc | apply pw_below_drewN | apply below_drew1) | exact HB.out)))); have n1_ := Aside0.mk (below_step (by repeat (first | (with_reducible first | exact HB.out | apply below_alloc | apply pw_below_drewN | apply below_drew1) | exact HB.out)) hb); clear HB; have HO276 := n0_; have HB := n1_; clear n0_ n1_; clear hb ho6))
    go_loopg [5, 6] k (fun kq v5 v6 w' => ∃ (x5_1 : List (S41)) (x6_1 : Int), v6 = .int .i64 x6_1 ∧ Aside0 (quitrentref21_Mirror.l0 kq l0 x5_1 x6_1 = some (r1, r2)) ∧ Aside0 (kq ≤ k) ∧ Aside0 (Kd.R k41 41 w' w.heap.size (fun _ => True) v5 x5_1) ∧ Aside0 (Below w.heap.size w w'))
    case atStart => exact ⟨(y274), (0), (by first | rfl | (simp; done) | (simp [*]; done)), H', ⟨Nat.le_refl _⟩, ⟨by (with_reducible repeat (first | apply Kd.R_alloc | apply Kd.R_drewN | apply Kd.R_drew)); exact HO276.out⟩, ⟨by repeat (first | (with_reducible first | exact HB.out | apply below_alloc | apply pw_below_drewN | apply below_drew1) | exact HB.out)⟩⟩
    case round =>
      clear H'
      try clear p2
      try clear c3
      try clear c3b0
      try clear c3b1
      obtain ⟨x5_1, x6_1, rfl, HA, HK1, HO_5, HB⟩ := hrel
      cases gk with
      | zero => exact absurd HA.out (by simp [quitrentref21_Mirror.l0])
      | succ k1 =>
        have H := HA.out
        clear HA
        simp only [quitrentref21_Mirror.l0] at H
        by_cases c7 : x6_1 < (l0.length : Int)
        · rw [if_pos c7] at H
          have c7b0 : decide (x6_1 < (l0.length : Int)) = true := decide_eq_true c7
          clear c7
          by_cases c8 : 0 ≤ x6_1
          · rw [if_pos c8] at H
            have c8b0 : decide (0 ≤ x6_1) = true := decide_eq_true c8
            clear c8
            by_cases c9 : x5_1.length < 8796093022208
            · rw [if_pos c9] at H
              have LMc9 := Aside0.mk c9
              clear c9
              obtain ⟨y279, hy279⟩ : ∃ y_ : List (S41), y_ = (x5_1 ++ [(⟨(rd_T41 l0 x6_1).f0, wrap64 (-((rd_T41 l0 x6_1).f1))⟩ : S41)]) := ⟨_, rfl⟩
              replace H : (quitrentref21_Mirror.l0 k1 l0 y279 (wrap64 (x6_1 + 1))) = some (r1, r2) := by first | (rw [hy279]; with_reducible exact H) | (have H2_ := (Option.bind_some _ _).symm.trans H; rw [hy279]; with_reducible exact H2_) | (have H2_ := (Option.bind_some _ _).symm.trans H; with_reducible exact H2_) | with_reducible exact H | (rw [hy279]; exact H) | exact H
              have Ny279 := Aside0.mk hy279
              clear hy279
              have H' := Aside0.mk H
              clear H
              try go_wp2
              have n0_ := Aside0.mk (Kd.R_drew HO_5.out)
              have n1_ := Aside0.mk (below_drew1 HB.out)
              clear HO_5
              clear HB
              have HO_5 := n0_
              have HB := n1_
              clear n0_ n1_
              have p277 : 0 ≤ (x6_1 : Int) := of_decide_eq_true (by first | (with_reducible assumption) | assumption)
              have q277 : x6_1 < (l0.length : Int) := of_decide_eq_true (by first | (with_reducible assumption) | assumption)
              obtain ⟨ad277, e277, hx277_0, hx277_1⟩ := at_T41 HR0.out x6_1 p277 q277
              have hw277_1 := hx277_1
              have hw277_0 := hx277_0
              cases e277
              replace hx277_0 := (HB.out.cell (World.block_lt_of_cell? w _ hx277_0)).trans hx277_0
              replace hx277_1 := (HB.out.cell (World.block_lt_of_cell? w _ hx277_1)).trans hx277_1
              replace p277 := eq_true p277
              replace q277 := eq_true q277
              have p278 : 0 ≤ (x6_1 : Int) := of_decide_eq_true (by first | (with_reducible assumption) | assumption)
              have q278 : x6_1 < (l0.length : Int) := of_decide_eq_true (by first | (with_reducible assumption) | assumption)
              obtain ⟨ad278, e278, hx278_0, hx278_1⟩ := at_T41 HR0.out x6_1 p278 q278
              have hw278_1 := hx278_1
              have hw278_0 := hx278_0
              obtain rfl : ad277 = ad278 := (by injection e278)
              replace hx278_0 := (HB.out.cell (World.block_lt_of_cell? w _ hx278_0)).trans hx278_0
              replace hx278_1 := (HB.out.cell (World.block_lt_of_cell? w _ hx278_1)).trans hx278_1
              replace p278 := eq_true p278
              replace q278 := eq_true q278
              refine start_ (n := 16) (S := fun w' => w'.cell? (ad277.add ((x6_1).toNat * 2)) = some (.int .i64 ((rd_T41 l0 x6_1).f0)) ∧ w'.cell? ⟨(ad277.add ((x6_1).toNat * 2)).block, (ad277.add ((x6_1).toNat * 2)).off + 1, none⟩ = some (.int .i64 ((rd_T41 l0 x6_1).f1)) ∧ w'.cell? (ad277.add ((x6_1).toNat * 2)) = some (.int .i64 ((rd_T41 l0 x6_1).f0)) ∧ w'.cell? ⟨(ad277.add ((x6_1).toNat * 2)).block, (ad277.add ((x6_1).toNat * 2)).off + 1, none⟩ = some (.int .i64 ((rd_T41 l0 x6_1).f1))) (ds := []) #[false, false, false, false, false, false, false, false, false, false, false, false, false, false, false, false] (by kernel_rfl) rfl rfl ⟨((HB.out.cell (World.block_lt_of_cell? w _ hw277_0)).trans hw277_0), ((HB.out.cell (World.block_lt_of_cell? w _ hw277_1)).trans hw277_1), ((HB.out.cell (World.block_lt_of_cell? w _ hw278_0)).trans hw278_0), ((HB.out.cell (World.block_lt_of_cell? w _ hw278_1)).trans hw278_1)⟩ (fun hHeld => ?_); refine with_tabW quitrentref21_Mirror.tab8 quitrentref21_Mirror.bits8 (fun HT_ HW_ => ?_)
              generalize wr.drew = w10 at HO_5 HB hx277_0 hx277_1 hx278_0 hx278_1 hHeld ⊢
              refine pure_ (i := 0) (N := some 20) (v := ?_) (a' := ?_) #[true, false, false, false, false, false, false, false, false, false, false, false, false, false, false, false] rfl rfl (any_of HT_.out (by kernel_rfl)) (fun _ _ _ h => h) (Or.inl ⟨by rfl, ?_⟩) ?_ ?_
              rotate_left
              · intro w'
                go_simp
                with_reducible rfl
              rotate_left
              · simp only [Act.put, List.setIfInBounds_toArray, List.set_cons_zero, List.set_cons_succ, i64_w, i32_w]
                rfl
              refine pure_ (i := 1) (N := some 21) (v := ?_) (a' := ?_) #[true, true, false, false, false, false, false, false, false, false, false, false, false, false, false, false] rfl rfl (any_of HT_.out (by kernel_rfl)) (fun _ _ _ h => h) (Or.inl ⟨by rfl, ?_⟩) ?_ ?_
              rotate_left
              · intro w'
                go_simp
                with_reducible rfl
              rotate_left
              · simp only [Act.put, List.setIfInBounds_toArray, List.set_cons_zero, List.set_cons_succ, i64_w, i32_w]
                rfl
              refine pure_ (i := 2) (N := some 22) (v := ?_) (a' := ?_) #[true, true, true, false, false, false, false, false, false, false, false, false, false, false, false, false] rfl rfl (any_of HT_.out (by kernel_rfl)) (fun _ _ _ h => h) (Or.inl ⟨by rfl, ?_⟩) ?_ ?_
              rotate_left
              · intro w'
                go_simp
                with_reducible rfl
              rotate_left
              · simp only [Act.put, List.setIfInBounds_toArray, List.set_cons_zero, List.set_cons_succ, i64_w, i32_w]
                rfl
              refine pure_ (i := 3) (N := some 23) (v := ?_) (a' := ?_) #[true, true, true, true, false, false, false, false, false, false, false, false, false, false, false, false] rfl rfl (any_of HT_.out (by kernel_rfl)) (fun _ _ _ h => h) (Or.inl ⟨by rfl, ?_⟩) ?_ ?_
              rotate_left
              · intro w'
                go_simp
                with_reducible rfl
              rotate_left
              · simp only [Act.put, List.setIfInBounds_toArray, List.set_cons_zero, List.set_cons_succ, i64_w, i32_w]
                rfl
              refine pure_ (i := 4) (N := some 24) (v := ?_) (a' := ?_) #[true, true, true, true, true, false, false, false, false, false, false, false, false, false, false, false] rfl rfl (any_of HT_.out (by kernel_rfl)) (fun _ _ _ h => h) (Or.inl ⟨by rfl, ?_⟩) ?_ ?_
              rotate_left
              · intro w'
                go_simp
                with_reducible rfl
              rotate_left
              · simp only [Act.put, List.setIfInBounds_toArray, List.set_cons_zero, List.set_cons_succ, i64_w, i32_w]
                rfl
              refine pure_ (i := 6) (N := some 26) (v := ?_) (a' := ?_) #[true, true, true, true, true, false, true, false, false, false, false, false, false, false, false, false] rfl rfl (any_of HT_.out (by kernel_rfl)) (fun _ _ _ h => h) (Or.inl ⟨by rfl, ?_⟩) ?_ ?_
              rotate_left
              · intro w'
                go_simp
                with_reducible rfl
              rotate_left
              · simp only [Act.put, List.setIfInBounds_toArray, List.set_cons_zero, List.set_cons_succ, i64_w, i32_w]
                rfl
              refine pure_ (i := 7) (N := some 27) (v := ?_) (a' := ?_) #[true, true, true, true, true, false, true, true, false, false, false, false, false, false, false, false] rfl rfl (any_of HT_.out (by kernel_rfl)) (fun _ _ _ h => h) (Or.inl ⟨by rfl, ?_⟩) ?_ ?_
              rotate_left
              · intro w'
                go_simp
                with_reducible rfl
              rotate_left
              · simp only [Act.put, List.setIfInBounds_toArray, List.set_cons_zero, List.set_cons_succ, i64_w, i32_w]
                rfl
              refine pure_ (i := 8) (N := some 28) (v := ?_) (a' := ?_) #[true, true, true, true, true, false, true, true, true, false, false, false, false, false, false, false] rfl rfl (any_of HT_.out (by kernel_rfl)) (fun _ _ _ h => h) (Or.inl ⟨by rfl, ?_⟩) ?_ ?_
              rotate_left
              · intro w'
                go_simp
                with_reducible rfl
              rotate_left
              · simp only [Act.put, List.setIfInBounds_toArray, List.set_cons_zero, List.set_cons_succ, i64_w, i32_w]
                rfl
              refine pure_ (i := 9) (N := some 29) (v := ?_) (a' := ?_) #[true, true, true, true, true, false, true, true, true, true, false, false, false, false, false, false] rfl rfl (any_of HT_.out (by kernel_rfl)) (fun _ _ _ h => h) (Or.inl ⟨by rfl, ?_⟩) ?_ ?_
              rotate_left
              · intro w'
                go_simp
                with_reducible rfl
              rotate_left
              · simp only [Act.put, List.setIfInBounds_toArray, List.set_cons_zero, List.set_cons_succ, i64_w, i32_w]
                rfl
              refine take_ (i := 5) (N := some 25) (v := ?_) (a' := ?_) #[true, true, true, true, true, true, true, true, true, true, false, false, false, false, false, false] rfl rfl (take_ofW HT_.out HW_.out (by kernel_rfl)) (fun _ _ _ h => h) (Or.inl ⟨by rfl, ?_⟩) hHeld ?_ ?_
              rotate_left
              · rintro w' ⟨s0, s1, s2, s3⟩
                go_simp
                with_reducible rfl
              rotate_left
              · simp only [Act.put, List.setIfInBounds_toArray, List.set_cons_zero, List.set_cons_succ, i64_w, i32_w]
                rfl
              refine take_ (i := 10) (N := some 30) (v := ?_) (a' := ?_) #[true, true, true, true, true, true, true, true, true, true, true, false, false, false, false, false] rfl rfl (take_ofW HT_.out HW_.out (by kernel_rfl)) (fun _ _ _ h => h) (Or.inl ⟨by rfl, ?_⟩) hHeld ?_ ?_
              rotate_left
              · rintro w' ⟨s0, s1, s2, s3⟩
                go_simp
                with_reducible rfl
              rotate_left
              · simp only [Act.put, List.setIfInBounds_toArray, List.set_cons_zero, List.set_cons_succ, i64_w, i32_w]
                rfl
              refine pure_ (i := 11) (N := some 31) (v := ?_) (a' := ?_) #[true, true, true, true, true, true, true, true, true, true, true, true, false, false, false, false] rfl rfl (any_of HT_.out (by kernel_rfl)) (fun _ _ _ h => h) (Or.inl ⟨by rfl, ?_⟩) ?_ ?_
              rotate_left
              · intro w'
                go_simp
                with_reducible rfl
              rotate_left
              · simp only [Act.put, List.setIfInBounds_toArray, List.set_cons_zero, List.set_cons_succ, i64_w, i32_w]
                rfl
              refine pure_ (i := 12) (N := some 32) (v := ?_) (a' := ?_) #[true, true, true, true, true, true, true, true, true, true, true, true, true, false, false, false] rfl rfl (any_of HT_.out (by kernel_rfl)) (fun _ _ _ h => h) (Or.inl ⟨by rfl, ?_⟩) ?_ ?_
              rotate_left
              · intro w'
                go_simp
                with_reducible rfl
              rotate_left
              · simp only [Act.put, List.setIfInBounds_toArray, List.set_cons_zero, List.set_cons_succ, i64_w, i32_w]
                rfl
              refine one_ (i := 13) (N := some 33) #[true, true, true, true, true, true, true, true, true, true, true, true, true, true, false, false] rfl rfl (one_of HT_.out (by kernel_rfl)) (by decide) (fun K hK => ?_)
              refine value_ (w1 := ?_) (v := ?_) (by rfl) rfl ?_ ?_
              rotate_left 2
              · go_simp
                constructor
                · rfl
                · rfl
              refine hK.out _ _ ⟨(World.cell?_alloc_lt _ _ _ (World.block_lt_of_cell? _ _ (((HB.out.cell (World.block_lt_of_cell? w _ hw277_0)).trans hw277_0)))).trans (((HB.out.cell (World.block_lt_of_cell? w _ hw277_0)).trans hw277_0)), (World.cell?_alloc_lt _ _ _ (World.block_lt_of_cell? _ _ (((HB.out.cell (World.block_lt_of_cell? w _ hw277_1)).trans hw277_1)))).trans (((HB.out.cell (World.block_lt_of_cell? w _ hw277_1)).trans hw277_1)), (World.cell?_alloc_lt _ _ _ (World.block_lt_of_cell? _ _ (((HB.out.cell (World.block_lt_of_cell? w _ hw278_0)).trans hw278_0)))).trans (((HB.out.cell (World.block_lt_of_cell? w _ hw278_0)).trans hw278_0)), (World.cell?_alloc_lt _ _ _ (World.block_lt_of_cell? _ _ (((HB.out.cell (World.block_lt_of_cell? w _ hw278_1)).trans hw278_1)))).trans (((HB.out.cell (World.block_lt_of_cell? w _ hw278_1)).trans hw278_1))⟩ (fun hHeld => ?_)
              clear hK K
              refine norm_ (a' := ?_) ?_ ?_
              rotate_left
              · show Act.put _ (some 33) _ = _
                simp only [Act.put, List.setIfInBounds_toArray, List.set_cons_zero, List.set_cons_succ, i64_w, i32_w]
                rfl
              refine one_ (i := 14) (N := some 34) #[true, true, true, true, true, true, true, true, true, true, true, true, true, true, true, false] rfl rfl (one_of HT_.out (by kernel_rfl)) (by decide) (fun K hK => ?_)
              refine Kd.R_append_step k41 (w0 := w) w.heap.size (by rfl) (.tmp 20) (.tmp 33) 39 41 (.agg #[(.int .i64 0), (.int .i64 0)]) 16 rfl Try.underlying39 info41 rfl (by decide) (by omega) u5 x5_1 (⟨(rd_T41 l0 x6_1).f0, wrap64 (-((rd_T41 l0 x6_1).f1))⟩ : S41) [.int .i64 ((rd_T41 l0 x6_1).f0), .int .i64 (wrap64 (-((rd_T41 l0 x6_1).f1)))] (fun _ => True) (fun _ => False) rfl rfl ?aP (fun _ hk => hk.elim) ?aF ?aO ?aB ?aS ?aL ?_
              (case aP => exact k41_mkM _ _ _ (⟨(rd_T41 l0 x6_1).f0, wrap64 (-((rd_T41 l0 x6_1).f1))⟩ : S41))
              (case aB => exact (by repeat (first | (with_reducible first | exact HB.out | apply below_alloc | apply pw_below_drewN | apply below_drew1) | exact HB.out)))
              (case aF => exact (fun _ _ => trivial))
              (case aO => exact (by (with_reducible repeat (first | apply Kd.R_alloc | apply Kd.R_drewN | apply Kd.R_drew)); exact HO_5.out))
              (case aS => exact (below_size (by repeat (first | (with_reducible first | exact HB.out | apply below_alloc | apply pw_below_drewN | apply below_drew1) | exact HB.out))))
              (case aL => have := LMc9.out; omega)
              intro v280 w11 ho hb hg hat
              rw [← Ny279.out] at ho
              have n0_ := Aside0.mk (hb)
              have n1_ := Aside0.mk (ho)
              clear HB
              clear HO_5
              have HB := n0_
              have HO281 := n1_
              clear n0_ n1_
              clear ho hb hg hat
              refine hK.out _ _ ⟨((HB.out.cell (World.block_lt_of_cell? w _ hw277_0)).trans hw277_0), ((HB.out.cell (World.block_lt_of_cell? w _ hw277_1)).trans hw277_1), ((HB.out.cell (World.block_lt_of_cell? w _ hw278_0)).trans hw278_0), ((HB.out.cell (World.block_lt_of_cell? w _ hw278_1)).trans hw278_1)⟩ (fun hHeld => ?_)
              clear hK K
              refine norm_ (a' := ?_) ?_ ?_
              rotate_left
              · show Act.put _ (some 34) _ = _
                simp only [Act.put, List.setIfInBounds_toArray, List.set_cons_zero, List.set_cons_succ, i64_w, i32_w]
                rfl
              refine pure_ (i := 15) (N := some 5) (v := ?_) (a' := ?_) #[true, true, true, true, true, true, true, true, true, true, true, true, true, true, true, true] rfl rfl (any_of HT_.out (by kernel_rfl)) (fun _ _ _ h => h) (Or.inl ⟨by rfl, ?_⟩) ?_ ?_
              rotate_left
              · intro w'
                go_simp
                with_reducible rfl
              rotate_left
              · simp only [Act.put, List.setIfInBounds_toArray, List.set_cons_zero, List.set_cons_succ, i64_w, i32_w]
                rfl
              refine done_ (done_of HT_.out (by kernel_rfl)) ?_
              try go_wp2
              go_roundg k1
              case measure => have := HK1.out; omega
              case rel => exact ⟨(y279), (wrap64 (x6_1 + 1)), (by first | rfl | (simp; done) | (simp [*]; done)), H', ⟨by have := HK1.out; omega⟩, ⟨by (with_reducible repeat (first | apply Kd.R_alloc | apply Kd.R_drewN | apply Kd.R_drew)); exact HO281.out⟩, ⟨by repeat (first | (with_reducible first | exact HB.out | apply below_alloc | apply pw_below_drewN | apply below_drew1) | exact HB.out)⟩⟩
            · rw [if_neg c9] at H
              exact absurd H (by simp)
          · rw [if_neg c8] at H
            exact absurd H (by simp)
        · rw [if_neg c7] at H
          have c7b0 : decide (x6_1 < (l0.length : Int)) = false := decide_eq_false c7
          clear c7
          simp only [Option.some.injEq, Prod.mk.injEq] at H
          obtain ⟨rfl, rfl⟩ := H
          go_wp2
          go_ret2
          exact ⟨_, by first | rfl | (simp [errW_none, errW_some] <;> rfl) | (simp [*, errW_none, errW_some] <;> rfl), by (with_reducible repeat (first | apply Kd.R_alloc | apply Kd.R_drewN | apply Kd.R_drew)); exact HO_5.out, by repeat (first | (with_reducible first | exact HB.out | apply below_alloc | apply pw_below_drewN | apply below_drew1) | exact HB.out)⟩
  · rw [if_neg c3] at H
    have c3b0 : (t273 == 0) = false := beq_eq_false_iff_ne.mpr c3
    have c3b1 : (t273 != 0) = true := bne_iff_ne.mpr c3
    simp only [Option.some.injEq, Prod.mk.injEq] at H
    obtain ⟨rfl, rfl⟩ := H
    go_enter Try.func36, Try.ntmps36
    go_wp2_with (first | ((with_reducible refine gate_callee (f := 70) rfl ?_); refine goesL_ (some 9) rfl rfl Try.func70 (by kernel_rfl) rfl #[.slice A0 l0.length c0, .agg #[.int .i64 0, .int .i64 0]] rfl (by (try simp only [List.map_toArray, List.map_cons, List.map_nil]); first | done | rfl | (simp only [List.length_drop, List.length_take]; rfl)) ?_; (with_reducible refine (quitrentref21_check.calls k _ _ l0 0 0 t273 _ ?side1 ?side2 A2.out).mono ?_); (case side1 => repeat (first | exact HR0.out | (with_reducible refine Kd.C_alloc ?_ _) | (with_reducible refine Kd.C_drewN ?_ _) | (with_reducible refine Kd.C_drew ?_))); (case side2 => exact HC0.out); rintro e w12 ⟨rfl, hb⟩; refine ⟨_, rfl, ?_⟩; have n0_ := Aside0.mk (below_step (by repeat (first | (with_reducible first | exact HB.out | apply below_alloc | apply pw_below_drewN | apply below_drew1) | exact HB.out)) hb); clear HB; have HB := n0_; clear n0_; (try clear hb); (try clear hb2); (try clear hk); (try clear hi)))
    go_ret2
    exact ⟨_, by first | rfl | (simp [errW_none, errW_some] <;> rfl) | (simp [*, errW_none, errW_some] <;> rfl), by first | exact Kd.R_nil _ _ _ _ _ | exact Kd.N_nil _ _ _ _ _ | exact Kd.V_nil _ _ _ _ _ | exact Kd.Q_nil _ _ _ _ _ | exact Kd.S_nil _ _ _ _ _, by repeat (first | (with_reducible first | exact HB.out | apply below_alloc | apply pw_below_drewN | apply below_drew1) | exact HB.out)⟩
end Go.Proofs.Ytkfbmplhcigopaa.PPlo
namespace Go.Proofs.Ytkfbmplhcigopaa.PPlo
open Go.RowKit Go.Proofs.YtkfbmplhcigopaaW.PrintWords Go.Proofs.YtkfbmplhcigopaaW.PrintLast Go.Proofs.YtkfbmplhcigopaaW.PrintMore
attribute [local go_sem] max2_int min2_int max_two min_two max_three min_three max_four min_four   -- for this text's walks alone

/-! ### quitrentref21_Area: function 38 -/
def quitrentref21_Area.l0 : Nat → List (S41) → Int → Int → Option (Int × Int)
  | 0, _, _, _ => none
  | k + 1, x0, x5, x6 => if x6 < (x0.length : Int) then (if 0 < (x0.length : Int) then (if (wrap64 (x6 + 1)) < (x0.length : Int) then (if 0 ≤ (wrap64 (x6 + 1)) then (if 0 ≤ x6 then (quitrentref21_Area.l0 k x0 (wrap64 ((wrap64 (x5 + (wrap64 (((rd_T41 x0 x6).f0) * ((rd_T41 x0 (wrap64 (x6 + 1))).f1))))) - (wrap64 (((rd_T41 x0 x6).f1) * ((rd_T41 x0 (wrap64 (x6 + 1))).f0))))) (wrap64 (x6 + 1))) else (none)) else (none)) else (if 0 ≤ x6 then (quitrentref21_Area.l0 k x0 (wrap64 ((wrap64 (x5 + (wrap64 (((rd_T41 x0 x6).f0) * ((rd_T41 x0 0).f1))))) - (wrap64 (((rd_T41 x0 x6).f1) * ((rd_T41 x0 0).f0))))) (wrap64 (x6 + 1))) else (none))) else (none)) else (some (x5, 0))
def quitrentref21_Area.f (k : Nat) (l0 : List (S41)) : Option (Int × Int) := (quitrentref21_check.f k l0 0 0).bind fun t282 => (if t282 = 0 then (quitrentref21_Area.l0 k l0 0 0) else (some (0, t282)))
theorem quitrentref21_Area.mono_l : ∀ k, (∀ y0 y1 y2, LeO (quitrentref21_Area.l0 k y0 y1 y2) (quitrentref21_Area.l0 (k + 1) y0 y1 y2))
  | 0 => fun _ _ _ r h => by simp [quitrentref21_Area.l0] at h
  | k + 1 => by
    have ih0 := quitrentref21_Area.mono_l k
    · intro y0 y1 y2
      unfold quitrentref21_Area.l0
      repeat' first
      | (with_reducible exact ih0 _ _ _)
      | (with_reducible exact quitrentref21_check.mono _ _ _ _)
      | (with_reducible exact LeO.refl _)
      | (with_reducible exact LeO.none _)
      | (with_reducible refine LeO.ite ?_ ?_)
      | (with_reducible refine LeO.bind ?_ (fun _ => ?_))
      | exact ih0 _ _ _
      | exact quitrentref21_check.mono _ _ _ _
      | exact LeO.none _
      | refine LeO.ite ?_ ?_
      | refine LeO.bind ?_ (fun _ => ?_)
theorem quitrentref21_Area.mono : ∀ a0 k, LeO (quitrentref21_Area.f k a0) (quitrentref21_Area.f (k + 1) a0) := by
  intro a0 k
  have ih0 := quitrentref21_Area.mono_l k
  unfold quitrentref21_Area.f
  repeat' first
      | (with_reducible exact ih0 _ _ _)
      | (with_reducible exact quitrentref21_check.mono _ _ _ _)
      | (with_reducible exact LeO.refl _)
      | (with_reducible exact LeO.none _)
      | (with_reducible refine LeO.ite ?_ ?_)
      | (with_reducible refine LeO.bind ?_ (fun _ => ?_))
      | exact ih0 _ _ _
      | exact quitrentref21_check.mono _ _ _ _
      | exact LeO.none _
      | refine LeO.ite ?_ ?_
      | refine LeO.bind ?_ (fun _ => ?_)
set_option maxHeartbeats 8000000 in
set_option maxRecDepth 100000 in
theorem quitrentref21_Area.calls (k : Nat) (A0 : Option Addr) (c0 : Nat) (l0 : List (S41)) (r1 : Int) (r2 : Int) (w : World) (hr0 : Kd.C k41 w A0 l0.length l0) (hc0 : l0.length ≤ c0) (h : quitrentref21_Area.f k l0 = some (r1, r2)) :
    Calls Try.prog 38 #[.slice A0 l0.length c0] w fun e w' => e = .returned (.tuple #[.int .i64 r1, .int .i64 r2]) ∧ Below w.heap.size w w' := by
  have hu41 := Try.underlying41
  have HR0 := Aside0.mk hr0
  have HC0 := Aside0.mk hc0
  clear hr0 hc0
  have HB := Aside0.mk (Below.refl w.heap.size w)
  have H : ((quitrentref21_check.f k l0 0 0).bind fun t282 => (if t282 = 0 then (quitrentref21_Area.l0 k l0 0 0) else (some (0, t282)))) = some (r1, r2) := h
  clear h
  replace H := Option.bind_eq_some_iff.mp H
  obtain ⟨t282, A20, H⟩ := H
  replace H : (if t282 = 0 then (quitrentref21_Area.l0 k l0 0 0) else (some (0, t282))) = some (r1, r2) := H
  have A2 := Aside0.mk A20
  clear A20
  by_cases c3 : t282 = 0
  · rw [if_pos c3] at H
    have c3b0 : (t282 == 0) = true := beq_iff_eq.mpr c3
    have c3b1 : (t282 != 0) = false := bne_eq_false_iff_eq.mpr c3
    clear c3
    have H' := Aside0.mk H
    clear H
    go_enter Try.func38, Try.ntmps38
    go_wp2_with (first | (go_at_call 70; (with_reducible refine (quitrentref21_check.calls k _ _ l0 0 0 t282 _ ?side1 ?side2 A2.out).mono ?_); (case side1 => repeat (first | exact HR0.out | (with_reducible refine Kd.C_alloc ?_ _) | (with_reducible refine Kd.C_drewN ?_ _) | (with_reducible refine Kd.C_drew ?_))); (case side2 => exact HC0.out); rintro e w4 ⟨rfl, hb⟩; have n0_ := Aside0.mk (below_step (by repeat (first | (with_reducible first | exact HB.out | apply below_alloc | apply pw_below_drewN | apply below_drew1) | exact HB.out)) hb); clear HB; have HB := n0_; clear n0_; (try clear hb); (try clear hb2); (try clear hk); (try clear hi)))
    repeat (go_quiet (first | (go_at_call 70; (with_reducible refine (quitrentref21_check.calls k _ _ l0 0 0 t282 _ ?side1 ?side2 A2.out).mono ?_); (case side1 => repeat (first | exact HR0.out | (with_reducible refine Kd.C_alloc ?_ _) | (with_reducible refine Kd.C_drewN ?_ _) | (with_reducible refine Kd.C_drew ?_))); (case side2 => exact HC0.out); rintro e w4 ⟨rfl, hb⟩; have n0_ := Aside0.mk (below_step (by repeat (first | (with_reducible first | exact HB.out | apply below_alloc | apply pw_below_drewN | apply below_drew1) | exact HB.out)) hb); clear HB; have HB := n0_; clear n0_; (try clear hb); (try clear hb2); (try clear hk); (try clear hi))); try go_wp2_with (first | (go_at_call 70; (with_reducible refine (quitrentref21_check.calls k _ _ l0 0 0 t282 _ ?side1 ?side2 A2.out).mono ?_); (case side1 => repeat (first | exact HR0.out | (with_reducible refine Kd.C_alloc ?_ _) | (with_reducible refine Kd.C_drewN ?_ _) | (with_reducible refine Kd.C_drew ?_))); (case side2 => exact HC0.out); rintro e w4 ⟨rfl, hb⟩; have n0_ := Aside0.mk (below_step (by repeat (first | (with_reducible first | exact HB.out | apply below_alloc | apply pw_below_drewN | apply below_drew1) | exact HB.out)) hb); clear HB; have HB := n0_; clear n0_; (try clear hb); (try clear hb2); (try clear hk); (try clear hi))))
    go_loopg [5, 6] k (fun kq v5 v6 w' => ∃ (x5_1 : Int) (x6_1 : Int), v5 = .int .i64 x5_1 ∧ v6 = .int .i64 x6_1 ∧ Aside0 (quitrentref21_Area.l0 kq l0 x5_1 x6_1 = some (r1, r2)) ∧ Aside0 (kq ≤ k) ∧ Aside0 (Below w.heap.size w w'))
    case atStart => exact ⟨(0), (0), (by first | rfl | (simp; done) | (simp [*]; done)), (by first | rfl | (simp; done) | (simp [*]; done)), H', ⟨Nat.le_refl _⟩, ⟨by repeat (first | (with_reducible first | exact HB.out | apply below_alloc | apply pw_below_drewN | apply below_drew1) | exact HB.out)⟩⟩
    case round =>
      clear H'
      try clear p2
      try clear c3
      try clear c3b0
      try clear c3b1
      obtain ⟨x5_1, x6_1, rfl, rfl, HA, HK1, HB⟩ := hrel
      cases gk with
      | zero => exact absurd HA.out (by simp [quitrentref21_Area.l0])
      | succ k1 =>
        have H := HA.out
        clear HA
        simp only [quitrentref21_Area.l0] at H
        by_cases c5 : x6_1 < (l0.length : Int)
        · rw [if_pos c5] at H
          have c5b0 : decide (x6_1 < (l0.length : Int)) = true := decide_eq_true c5
          clear c5
          by_cases c6 : 0 < (l0.length : Int)
          · rw [if_pos c6] at H
            have c6b0 : decide (0 < (l0.length : Int)) = true := decide_eq_true c6
            have c6b1 : decide (0 < l0.length) = true := decide_eq_true (by omega)
            clear c6
            by_cases c7 : (wrap64 (x6_1 + 1)) < (l0.length : Int)
            · rw [if_pos c7] at H
              have c7b0 : decide ((wrap64 (x6_1 + 1)) < (l0.length : Int)) = true := decide_eq_true c7
              clear c7
              obtain ⟨ji8, hji8⟩ : ∃ j_ : Int, (wrap64 (x6_1 + 1)) = j_ := ⟨_, rfl⟩
              replace H : (if 0 ≤ (ji8) then (if 0 ≤ x6_1 then (quitrentref21_Area.l0 k1 l0 (wrap64 ((wrap64 (x5_1 + (wrap64 (((rd_T41 l0 x6_1).f0) * ((rd_T41 l0 (ji8)).f1))))) - (wrap64 (((rd_T41 l0 x6_1).f1) * ((rd_T41 l0 (ji8)).f0))))) ji8) else (none)) else (none)) = some (r1, r2) := by first | (rw [hji8] at H; exact H) | (simp only [hji8] at H ⊢; exact H)
              (try rw [hji8] at c7b0)
              have hji8w : (IntKind.i64.wrap (x6_1 + 1)) = ji8 := (i64_w _).trans hji8
              by_cases c9 : 0 ≤ (ji8)
              · rw [if_pos c9] at H
                have c9b0 : decide (0 ≤ (ji8)) = true := decide_eq_true c9
                clear c9
                by_cases c10 : 0 ≤ x6_1
                · rw [if_pos c10] at H
                  have c10b0 : decide (0 ≤ x6_1) = true := decide_eq_true c10
                  clear c10
                  have H' := Aside0.mk H
                  clear H
                  have p283 : 0 ≤ (0 : Int) := (by omega)
                  have q283 : 0 < (l0.length : Int) := of_decide_eq_true (by first | (with_reducible assumption) | assumption)
                  obtain ⟨ad283, e283, hx283_0, hx283_1⟩ := at_T41 HR0.out 0 p283 q283
                  cases e283
                  have qi283 : (0 < l0.length) = True := eq_true (by omega)
                  (try rw [show ((0 : Int)).toNat = 0 from rfl] at hx283_0)
                  (try rw [show 0 * 2 = 0 from rfl] at hx283_0)
                  (try rw [Addr.add_zero'] at hx283_0)
                  (try rw [show ((0 : Int)).toNat = 0 from rfl] at hx283_1)
                  (try rw [show 0 * 2 = 0 from rfl] at hx283_1)
                  (try rw [Addr.add_zero'] at hx283_1)
                  replace hx283_0 := (HB.out.cell (World.block_lt_of_cell? w _ hx283_0)).trans hx283_0
                  replace hx283_1 := (HB.out.cell (World.block_lt_of_cell? w _ hx283_1)).trans hx283_1
                  replace p283 := eq_true p283
                  replace q283 := eq_true q283
                  go_wp2_with (first | ((with_reducible refine gate_dst (N := 7) rfl ?_); refine box_event ?hg (N := 7) ?hd (cs := #[.int .i64 0, .int .i64 0]) (t := 41) ?hr ?_; (case hd => rfl); (case hg => rfl); (case hr => first | (go_simp; done) | (go_simp; rfl)); intro gb284 hg w11 hbox hb; have n0_ := Aside0.mk (below_step (by repeat (first | (with_reducible first | exact HB.out | apply below_alloc | apply pw_below_drewN | apply below_drew1) | exact HB.out)) hb); have n1_ := Aside0.mk (hbox); have n2_ := Aside0.mk ((by rw [hg]; exact (below_size (by repeat (first | (with_reducible first | exact HB.out | apply below_alloc | apply pw_below_drewN | apply below_drew1) | exact HB.out))) : w.heap.size ≤ gb284)); have n3_ := Aside0.mk ((by rw [hg]; exact (below_size (by repeat (first | (with_reducible first | exact HB.out | apply below_alloc | apply pw_below_drewN | apply below_drew1) | exact HB.out))) : w.heap.size ≤ gb284)); clear HB; have HB := n0_; have BK284 := n1_; have GW284 := n2_; have GE284 := n3_; clear n0_ n1_ n2_ n3_; clear hb hbox hg; have hcz12_0 : w11.cell? ⟨gb284, 0, none⟩ = some (.int .i64 0) := (blk_cell BK284.out 0).trans rfl; have hcz12_1 : w11.cell? ⟨gb284, 1, none⟩ = some (.int .i64 0) := (blk_cell BK284.out 1).trans rfl; have hfz12_0 := blk_frozen BK284.out 0; have hfz12_1 := blk_frozen BK284.out 1; have p285 : 0 ≤ ((ji8) : Int) := of_decide_eq_true (by first | (with_reducible assumption) | assumption); have q285 : (ji8) < (l0.length : Int) := of_decide_eq_true (by first | (with_reducible assumption) | assumption); obtain ⟨ad285, e285, hx285_0, hx285_1⟩ := at_T41 HR0.out (ji8) p285 q285; obtain rfl : ad283 = ad285 := (by injection e285); have hn285_0 : ad283.block ≠ gb284 := Nat.ne_of_lt (Nat.lt_of_lt_of_le (by have := World.block_lt_of_cell? _ _ hx285_0; first | rwa [add_block] at this | exact this) GW284.out); have hn285_1 : ad283.block ≠ gb284 := Nat.ne_of_lt (Nat.lt_of_lt_of_le (by have := World.block_lt_of_cell? _ _ hx285_0; first | rwa [add_block] at this | exact this) GW284.out); replace hx285_0 := (HB.out.cell (World.block_lt_of_cell? w _ hx285_0)).trans hx285_0; replace hx285_1 := (HB.out.cell (World.block_lt_of_cell? w _ hx285_1)).trans hx285_1; replace hx285_0 := (cell_far (p := ⟨gb284, 0, none⟩) (by first | (rw [add_block]; exact hn285_0) | (show (Addr.add _ _).block ≠ _; rw [add_block]; exact hn285_0) | exact hn285_0) (.int .i64 ((rd_T41 l0 0).f0))).trans hx285_0; replace hx285_1 := (cell_far (p := ⟨gb284, 0, none⟩) (by first | (rw [add_block]; exact hn285_0) | (show (Addr.add _ _).block ≠ _; rw [add_block]; exact hn285_0) | exact hn285_0) (.int .i64 ((rd_T41 l0 0).f0))).trans hx285_1; replace hx285_0 := (cell_far (p := ⟨gb284, 1, none⟩) (by first | (rw [add_block]; exact hn285_1) | (show (Addr.add _ _).block ≠ _; rw [add_block]; exact hn285_1) | exact hn285_1) (.int .i64 ((rd_T41 l0 0).f1))).trans hx285_0; replace hx285_1 := (cell_far (p := ⟨gb284, 1, none⟩) (by first | (rw [add_block]; exact hn285_1) | (show (Addr.add _ _).block ≠ _; rw [add_block]; exact hn285_1) | exact hn285_1) (.int .i64 ((rd_T41 l0 0).f1))).trans hx285_1; (try have hy285_0 := fun (n_ : Nat) => (show ((((w11.drewN n_).setCell ⟨gb284, 0, none⟩ (.int .i64 ((rd_T41 l0 0).f0))).setCell ⟨gb284, 1, none⟩ (.int .i64 ((rd_T41 l0 0).f1)))).cell? _ = some _ from hx285_0)); (try have hy285_1 := fun (n_ : Nat) => (show ((((w11.drewN n_).setCell ⟨gb284, 0, none⟩ (.int .i64 ((rd_T41 l0 0).f0))).setCell ⟨gb284, 1, none⟩ (.int .i64 ((rd_T41 l0 0).f1)))).cell? _ = some _ from hx285_1)); clear hn285_0; clear hn285_1; replace p285 := eq_true p285; replace q285 := eq_true q285; have p286 : 0 ≤ (x6_1 : Int) := of_decide_eq_true (by first | (with_reducible assumption) | assumption); have q286 : x6_1 < (l0.length : Int) := of_decide_eq_true (by first | (with_reducible assumption) | assumption); obtain ⟨ad286, e286, hx286_0, hx286_1⟩ := at_T41 HR0.out x6_1 p286 q286; obtain rfl : ad283 = ad286 := (by injection e286); have hn286_0 : ad283.block ≠ gb284 := Nat.ne_of_lt (Nat.lt_of_lt_of_le (by have := World.block_lt_of_cell? _ _ hx286_0; first | rwa [add_block] at this | exact this) GW284.out); have hn286_1 : ad283.block ≠ gb284 := Nat.ne_of_lt (Nat.lt_of_lt_of_le (by have := World.block_lt_of_cell? _ _ hx286_0; first | rwa [add_block] at this | exact this) GW284.out); have hn286_2 : ad283.block ≠ gb284 := Nat.ne_of_lt (Nat.lt_of_lt_of_le (by have := World.block_lt_of_cell? _ _ hx286_0; first | rwa [add_block] at this | exact this) GW284.out); have hn286_3 : ad283.block ≠ gb284 := Nat.ne_of_lt (Nat.lt_of_lt_of_le (by have := World.block_lt_of_cell? _ _ hx286_0; first | rwa [add_block] at this | exact this) GW284.out); replace hx286_0 := (HB.out.cell (World.block_lt_of_cell? w _ hx286_0)).trans hx286_0; replace hx286_1 := (HB.out.cell (World.block_lt_of_cell? w _ hx286_1)).trans hx286_1; replace hx286_0 := (cell_far (p := ⟨gb284, 0, none⟩) (by first | (rw [add_block]; exact hn286_0) | (show (Addr.add _ _).block ≠ _; rw [add_block]; exact hn286_0) | exact hn286_0) (.int .i64 ((rd_T41 l0 0).f0))).trans hx286_0; replace hx286_1 := (cell_far (p := ⟨gb284, 0, none⟩) (by first | (rw [add_block]; exact hn286_0) | (show (Addr.add _ _).block ≠ _; rw [add_block]; exact hn286_0) | exact hn286_0) (.int .i64 ((rd_T41 l0 0).f0))).trans hx286_1; replace hx286_0 := (cell_far (p := ⟨gb284, 1, none⟩) (by first | (rw [add_block]; exact hn286_1) | (show (Addr.add _ _).block ≠ _; rw [add_block]; exact hn286_1) | exact hn286_1) (.int .i64 ((rd_T41 l0 0).f1))).trans hx286_0; replace hx286_1 := (cell_far (p := ⟨gb284, 1, none⟩) (by first | (rw [add_block]; exact hn286_1) | (show (Addr.add _ _).block ≠ _; rw [add_block]; exact hn286_1) | exact hn286_1) (.int .i64 ((rd_T41 l0 0).f1))).trans hx286_1; replace hx286_0 := (cell_far (p := ⟨gb284, 0, none⟩) (by first | (rw [add_block]; exact hn286_2) | (show (Addr.add _ _).block ≠ _; rw [add_block]; exact hn286_2) | exact hn286_2) (.int .i64 ((rd_T41 l0 (ji8)).f0))).trans hx286_0; replace hx286_1 := (cell_far (p := ⟨gb284, 0, none⟩) (by first | (rw [add_block]; exact hn286_2) | (show (Addr.add _ _).block ≠ _; rw [add_block]; exact hn286_2) | exact hn286_2) (.int .i64 ((rd_T41 l0 (ji8)).f0))).trans hx286_1; replace hx286_0 := (cell_far (p := ⟨gb284, 1, none⟩) (by first | (rw [add_block]; exact hn286_3) | (show (Addr.add _ _).block ≠ _; rw [add_block]; exact hn286_3) | exact hn286_3) (.int .i64 ((rd_T41 l0 (ji8)).f1))).trans hx286_0; replace hx286_1 := (cell_far (p := ⟨gb284, 1, none⟩) (by first | (rw [add_block]; exact hn286_3) | (show (Addr.add _ _).block ≠ _; rw [add_block]; exact hn286_3) | exact hn286_3) (.int .i64 ((rd_T41 l0 (ji8)).f1))).trans hx286_1; (try have hy286_0 := fun (n_ : Nat) => (show ((((((w11.drewN n_).setCell ⟨gb284, 0, none⟩ (.int .i64 ((rd_T41 l0 0).f0))).setCell ⟨gb284, 1, none⟩ (.int .i64 ((rd_T41 l0 0).f1))).setCell ⟨gb284, 0, none⟩ (.int .i64 ((rd_T41 l0 (ji8)).f0))).setCell ⟨gb284, 1, none⟩ (.int .i64 ((rd_T41 l0 (ji8)).f1)))).cell? _ = some _ from hx286_0)); (try have hy286_1 := fun (n_ : Nat) => (show ((((((w11.drewN n_).setCell ⟨gb284, 0, none⟩ (.int .i64 ((rd_T41 l0 0).f0))).setCell ⟨gb284, 1, none⟩ (.int .i64 ((rd_T41 l0 0).f1))).setCell ⟨gb284, 0, none⟩ (.int .i64 ((rd_T41 l0 (ji8)).f0))).setCell ⟨gb284, 1, none⟩ (.int .i64 ((rd_T41 l0 (ji8)).f1)))).cell? _ = some _ from hx286_1)); clear hn286_0; clear hn286_1; clear hn286_2; clear hn286_3; replace p286 := eq_true p286; replace q286 := eq_true q286; have p287 : 0 ≤ (x6_1 : Int) := of_decide_eq_true (by first | (with_reducible assumption) | assumption); have q287 : x6_1 < (l0.length : Int) := of_decide_eq_true (by first | (with_reducible assumption) | assumption); obtain ⟨ad287, e287, hx287_0, hx287_1⟩ := at_T41 HR0.out x6_1 p287 q287; obtain rfl : ad283 = ad287 := (by injection e287); have hn287_0 : ad283.block ≠ gb284 := Nat.ne_of_lt (Nat.lt_of_lt_of_le (by have := World.block_lt_of_cell? _ _ hx287_0; first | rwa [add_block] at this | exact this) GW284.out); have hn287_1 : ad283.block ≠ gb284 := Nat.ne_of_lt (Nat.lt_of_lt_of_le (by have := World.block_lt_of_cell? _ _ hx287_0; first | rwa [add_block] at this | exact this) GW284.out); have hn287_2 : ad283.block ≠ gb284 := Nat.ne_of_lt (Nat.lt_of_lt_of_le (by have := World.block_lt_of_cell? _ _ hx287_0; first | rwa [add_block] at this | exact this) GW284.out); have hn287_3 : ad283.block ≠ gb284 := Nat.ne_of_lt (Nat.lt_of_lt_of_le (by have := World.block_lt_of_cell? _ _ hx287_0; first | rwa [add_block] at this | exact this) GW284.out); replace hx287_0 := (HB.out.cell (World.block_lt_of_cell? w _ hx287_0)).trans hx287_0; replace hx287_1 := (HB.out.cell (World.block_lt_of_cell? w _ hx287_1)).trans hx287_1; replace hx287_0 := (cell_far (p := ⟨gb284, 0, none⟩) (by first | (rw [add_block]; exact hn287_0) | (show (Addr.add _ _).block ≠ _; rw [add_block]; exact hn287_0) | exact hn287_0) (.int .i64 ((rd_T41 l0 0).f0))).trans hx287_0; replace hx287_1 := (cell_far (p := ⟨gb284, 0, none⟩) (by first | (rw [add_block]; exact hn287_0) | (show (Addr.add _ _).block ≠ _; rw [add_block]; exact hn287_0) | exact hn287_0) (.int .i64 ((rd_T41 l0 0).f0))).trans hx287_1; replace hx287_0 := (cell_far (p := ⟨gb284, 1, none⟩) (by first | (rw [add_block]; exact hn287_1) | (show (Addr.add _ _).block ≠ _; rw [add_block]; exact hn287_1) | exact hn287_1) (.int .i64 ((rd_T41 l0 0).f1))).trans hx287_0; replace hx287_1 := (cell_far (p := ⟨gb284, 1, none⟩) (by first | (rw [add_block]; exact hn287_1) | (show (Addr.add _ _).block ≠ _; rw [add_block]; exact hn287_1) | exact hn287_1) (.int .i64 ((rd_T41 l0 0).f1))).trans hx287_1; replace hx287_0 := (cell_far (p := ⟨gb284, 0, none⟩) (by first | (rw [add_block]; exact hn287_2) | (show (Addr.add _ _).block ≠ _; rw [add_block]; exact hn287_2) | exact hn287_2) (.int .i64 ((rd_T41 l0 (ji8)).f0))).trans hx287_0; replace hx287_1 := (cell_far (p := ⟨gb284, 0, none⟩) (by first | (rw [add_block]; exact hn287_2) | (show (Addr.add _ _).block ≠ _; rw [add_block]; exact hn287_2) | exact hn287_2) (.int .i64 ((rd_T41 l0 (ji8)).f0))).trans hx287_1; replace hx287_0 := (cell_far (p := ⟨gb284, 1, none⟩) (by first | (rw [add_block]; exact hn287_3) | (show (Addr.add _ _).block ≠ _; rw [add_block]; exact hn287_3) | exact hn287_3) (.int .i64 ((rd_T41 l0 (ji8)).f1))).trans hx287_0; replace hx287_1 := (cell_far (p := ⟨gb284, 1, none⟩) (by first | (rw [add_block]; exact hn287_3) | (show (Addr.add _ _).block ≠ _; rw [add_block]; exact hn287_3) | exact hn287_3) (.int .i64 ((rd_T41 l0 (ji8)).f1))).trans hx287_1; (try have hy287_0 := fun (n_ : Nat) => (show ((((((w11.drewN n_).setCell ⟨gb284, 0, none⟩ (.int .i64 ((rd_T41 l0 0).f0))).setCell ⟨gb284, 1, none⟩ (.int .i64 ((rd_T41 l0 0).f1))).setCell ⟨gb284, 0, none⟩ (.int .i64 ((rd_T41 l0 (ji8)).f0))).setCell ⟨gb284, 1, none⟩ (.int .i64 ((rd_T41 l0 (ji8)).f1)))).cell? _ = some _ from hx287_0)); (try have hy287_1 := fun (n_ : Nat) => (show ((((((w11.drewN n_).setCell ⟨gb284, 0, none⟩ (.int .i64 ((rd_T41 l0 0).f0))).setCell ⟨gb284, 1, none⟩ (.int .i64 ((rd_T41 l0 0).f1))).setCell ⟨gb284, 0, none⟩ (.int .i64 ((rd_T41 l0 (ji8)).f0))).setCell ⟨gb284, 1, none⟩ (.int .i64 ((rd_T41 l0 (ji8)).f1)))).cell? _ = some _ from hx287_1)); clear hn287_0; clear hn287_1; clear hn287_2; clear hn287_3; replace p287 := eq_true p287; replace q287 := eq_true q287))
                  have HB4 : Below w.heap.size w ((((w11.setCell ⟨gb284, 0, none⟩ (.int .i64 (rd_T41 l0 0).f0)).setCell ⟨gb284, 1, none⟩ (.int .i64 (rd_T41 l0 0).f1)).setCell ⟨gb284, 0, none⟩ (.int .i64 (rd_T41 l0 ji8).f0)).setCell ⟨gb284, 1, none⟩ (.int .i64 (rd_T41 l0 ji8).f1)) := by repeat (first | (with_reducible first | exact HB.out | apply below_alloc | apply pw_below_drewN | apply below_drew1 | refine below_set ?_ GE284.out) | exact HB.out)
                  have BK4 : (((((w11.setCell ⟨gb284, 0, none⟩ (.int .i64 (rd_T41 l0 0).f0)).setCell ⟨gb284, 1, none⟩ (.int .i64 (rd_T41 l0 0).f1)).setCell ⟨gb284, 0, none⟩ (.int .i64 (rd_T41 l0 ji8).f0)).setCell ⟨gb284, 1, none⟩ (.int .i64 (rd_T41 l0 ji8).f1))).heap[gb284]? = some (.cells #[.int .i64 (rd_T41 l0 ji8).f0, .int .i64 (rd_T41 l0 ji8).f1] 41 (0, 0)) := by refine blk_put (cs := #[.int .i64 (rd_T41 l0 ji8).f0, .int .i64 (rd_T41 l0 0).f1]) ?_ 1 _ rfl; refine blk_put (cs := #[.int .i64 (rd_T41 l0 0).f0, .int .i64 (rd_T41 l0 0).f1]) ?_ 0 _ rfl; refine blk_put (cs := #[.int .i64 (rd_T41 l0 0).f0, .int .i64 0]) ?_ 1 _ rfl; refine blk_put (cs := #[.int .i64 0, .int .i64 0]) ?_ 0 _ rfl; exact BK284.out
                  have p9 : 0 ≤ (x6_1 : Int) := of_decide_eq_true (by first | (with_reducible assumption) | assumption)
                  have q9 : x6_1 < (l0.length : Int) := of_decide_eq_true (by first | (with_reducible assumption) | assumption)
                  obtain ⟨ad9, e9, hy9_0, hy9_1⟩ := at_T41 HR0.out x6_1 p9 q9
                  cases e9
                  replace hy9_0 := (HB4.cell (World.block_lt_of_cell? w _ hy9_0)).trans hy9_0
                  replace hy9_1 := (HB4.cell (World.block_lt_of_cell? w _ hy9_1)).trans hy9_1
                  replace p9 := eq_true p9
                  replace q9 := eq_true q9
                  clear HB
                  have HB := Aside0.mk HB4
                  clear HB4
                  have hcz9_0 := (blk_cell BK4 0).trans rfl
                  have hcz9_1 := (blk_cell BK4 1).trans rfl
                  generalize ((((w11.setCell ⟨gb284, 0, none⟩ (.int .i64 (rd_T41 l0 0).f0)).setCell ⟨gb284, 1, none⟩ (.int .i64 (rd_T41 l0 0).f1)).setCell ⟨gb284, 0, none⟩ (.int .i64 (rd_T41 l0 ji8).f0)).setCell ⟨gb284, 1, none⟩ (.int .i64 (rd_T41 l0 ji8).f1)) = w12 at HB BK4 hy9_0 hy9_1 hcz9_0 hcz9_1 ⊢
                  go_quiet (fail)
                  go_wp2
                  go_roundg k1
                  case measure => have := HK1.out; omega
                  case rel => exact ⟨(wrap64 ((wrap64 (x5_1 + (wrap64 (((rd_T41 l0 x6_1).f0) * ((rd_T41 l0 (ji8)).f1))))) - (wrap64 (((rd_T41 l0 x6_1).f1) * ((rd_T41 l0 (ji8)).f0))))), (ji8), (by first | rfl | (simp; done) | (simp only [← hji8] <;> (first | rfl | simp)) | (simp [*]; done)), (by first | rfl | (simp; done) | (simp only [← hji8] <;> (first | rfl | simp)) | (simp [*]; done)), H', ⟨by have := HK1.out; omega⟩, ⟨by repeat (first | (with_reducible first | exact HB.out | apply below_alloc | apply pw_below_drewN | apply below_drew1 | refine below_set ?_ GE284.out) | exact HB.out)⟩⟩
                · rw [if_neg c10] at H
                  exact absurd H (by simp)
              · rw [if_neg c9] at H
                exact absurd H (by simp)
            · rw [if_neg c7] at H
              have c7b0 : decide ((wrap64 (x6_1 + 1)) < (l0.length : Int)) = false := decide_eq_false c7
              clear c7
              by_cases c13 : 0 ≤ x6_1
              · rw [if_pos c13] at H
                have c13b0 : decide (0 ≤ x6_1) = true := decide_eq_true c13
                clear c13
                have H' := Aside0.mk H
                clear H
                have p283 : 0 ≤ (0 : Int) := (by omega)
                have q283 : 0 < (l0.length : Int) := of_decide_eq_true (by first | (with_reducible assumption) | assumption)
                obtain ⟨ad283, e283, hx283_0, hx283_1⟩ := at_T41 HR0.out 0 p283 q283
                cases e283
                have qi283 : (0 < l0.length) = True := eq_true (by omega)
                (try rw [show ((0 : Int)).toNat = 0 from rfl] at hx283_0)
                (try rw [show 0 * 2 = 0 from rfl] at hx283_0)
                (try rw [Addr.add_zero'] at hx283_0)
                (try rw [show ((0 : Int)).toNat = 0 from rfl] at hx283_1)
                (try rw [show 0 * 2 = 0 from rfl] at hx283_1)
                (try rw [Addr.add_zero'] at hx283_1)
                replace hx283_0 := (HB.out.cell (World.block_lt_of_cell? w _ hx283_0)).trans hx283_0
                replace hx283_1 := (HB.out.cell (World.block_lt_of_cell? w _ hx283_1)).trans hx283_1
                replace p283 := eq_true p283
                replace q283 := eq_true q283
                go_wp2_with (first | ((with_reducible refine gate_dst (N := 7) rfl ?_); refine box_event ?hg (N := 7) ?hd (cs := #[.int .i64 0, .int .i64 0]) (t := 41) ?hr ?_; (case hd => rfl); (case hg => rfl); (case hr => first | (go_simp; done) | (go_simp; rfl)); intro gb284 hg w14 hbox hb; have n0_ := Aside0.mk (below_step (by repeat (first | (with_reducible first | exact HB.out | apply below_alloc | apply pw_below_drewN | apply below_drew1) | exact HB.out)) hb); have n1_ := Aside0.mk (hbox); have n2_ := Aside0.mk ((by rw [hg]; exact (below_size (by repeat (first | (with_reducible first | exact HB.out | apply below_alloc | apply pw_below_drewN | apply below_drew1) | exact HB.out))) : w.heap.size ≤ gb284)); have n3_ := Aside0.mk ((by rw [hg]; exact (below_size (by repeat (first | (with_reducible first | exact HB.out | apply below_alloc | apply pw_below_drewN | apply below_drew1) | exact HB.out))) : w.heap.size ≤ gb284)); clear HB; have HB := n0_; have BK284 := n1_; have GW284 := n2_; have GE284 := n3_; clear n0_ n1_ n2_ n3_; clear hb hbox hg; have hcz15_0 : w14.cell? ⟨gb284, 0, none⟩ = some (.int .i64 0) := (blk_cell BK284.out 0).trans rfl; have hcz15_1 : w14.cell? ⟨gb284, 1, none⟩ = some (.int .i64 0) := (blk_cell BK284.out 1).trans rfl; have hfz15_0 := blk_frozen BK284.out 0; have hfz15_1 := blk_frozen BK284.out 1; have p288 : 0 ≤ (x6_1 : Int) := of_decide_eq_true (by first | (with_reducible assumption) | assumption); have q288 : x6_1 < (l0.length : Int) := of_decide_eq_true (by first | (with_reducible assumption) | assumption); obtain ⟨ad288, e288, hx288_0, hx288_1⟩ := at_T41 HR0.out x6_1 p288 q288; obtain rfl : ad283 = ad288 := (by injection e288); have hn288_0 : ad283.block ≠ gb284 := Nat.ne_of_lt (Nat.lt_of_lt_of_le (by have := World.block_lt_of_cell? _ _ hx288_0; first | rwa [add_block] at this | exact this) GW284.out); have hn288_1 : ad283.block ≠ gb284 := Nat.ne_of_lt (Nat.lt_of_lt_of_le (by have := World.block_lt_of_cell? _ _ hx288_0; first | rwa [add_block] at this | exact this) GW284.out); replace hx288_0 := (HB.out.cell (World.block_lt_of_cell? w _ hx288_0)).trans hx288_0; replace hx288_1 := (HB.out.cell (World.block_lt_of_cell? w _ hx288_1)).trans hx288_1; replace hx288_0 := (cell_far (p := ⟨gb284, 0, none⟩) (by first | (rw [add_block]; exact hn288_0) | (show (Addr.add _ _).block ≠ _; rw [add_block]; exact hn288_0) | exact hn288_0) (.int .i64 ((rd_T41 l0 0).f0))).trans hx288_0; replace hx288_1 := (cell_far (p := ⟨gb284, 0, none⟩) (by first | (rw [add_block]; exact hn288_0) | (show (Addr.add _ _).block ≠ _; rw [add_block]; exact hn288_0) | exact hn288_0) (.int .i64 ((rd_T41 l0 0).f0))).trans hx288_1; replace hx288_0 := (cell_far (p := ⟨gb284, 1, none⟩) (by first | (rw [add_block]; exact hn288_1) | (show (Addr.add _ _).block ≠ _; rw [add_block]; exact hn288_1) | exact hn288_1) (.int .i64 ((rd_T41 l0 0).f1))).trans hx288_0; replace hx288_1 := (cell_far (p := ⟨gb284, 1, none⟩) (by first | (rw [add_block]; exact hn288_1) | (show (Addr.add _ _).block ≠ _; rw [add_block]; exact hn288_1) | exact hn288_1) (.int .i64 ((rd_T41 l0 0).f1))).trans hx288_1; (try have hy288_0 := fun (n_ : Nat) => (show ((((w14.drewN n_).setCell ⟨gb284, 0, none⟩ (.int .i64 ((rd_T41 l0 0).f0))).setCell ⟨gb284, 1, none⟩ (.int .i64 ((rd_T41 l0 0).f1)))).cell? _ = some _ from hx288_0)); (try have hy288_1 := fun (n_ : Nat) => (show ((((w14.drewN n_).setCell ⟨gb284, 0, none⟩ (.int .i64 ((rd_T41 l0 0).f0))).setCell ⟨gb284, 1, none⟩ (.int .i64 ((rd_T41 l0 0).f1)))).cell? _ = some _ from hx288_1)); clear hn288_0; clear hn288_1; replace p288 := eq_true p288; replace q288 := eq_true q288; have p289 : 0 ≤ (x6_1 : Int) := of_decide_eq_true (by first | (with_reducible assumption) | assumption); have q289 : x6_1 < (l0.length : Int) := of_decide_eq_true (by first | (with_reducible assumption) | assumption); obtain ⟨ad289, e289, hx289_0, hx289_1⟩ := at_T41 HR0.out x6_1 p289 q289; obtain rfl : ad283 = ad289 := (by injection e289); have hn289_0 : ad283.block ≠ gb284 := Nat.ne_of_lt (Nat.lt_of_lt_of_le (by have := World.block_lt_of_cell? _ _ hx289_0; first | rwa [add_block] at this | exact this) GW284.out); have hn289_1 : ad283.block ≠ gb284 := Nat.ne_of_lt (Nat.lt_of_lt_of_le (by have := World.block_lt_of_cell? _ _ hx289_0; first | rwa [add_block] at this | exact this) GW284.out); replace hx289_0 := (HB.out.cell (World.block_lt_of_cell? w _ hx289_0)).trans hx289_0; replace hx289_1 := (HB.out.cell (World.block_lt_of_cell? w _ hx289_1)).trans hx289_1; replace hx289_0 := (cell_far (p := ⟨gb284, 0, none⟩) (by first | (rw [add_block]; exact hn289_0) | (show (Addr.add _ _).block ≠ _; rw [add_block]; exact hn289_0) | exact hn289_0) (.int .i64 ((rd_T41 l0 0).f0))).trans hx289_0; replace hx289_1 := (cell_far (p := ⟨gb284, 0, none⟩) (by first | (rw [add_block]; exact hn289_0) | (show (Addr.add _ _).block ≠ _; rw [add_block]; exact hn289_0) | exact hn289_0) (.int .i64 ((rd_T41 l0 0).f0))).trans hx289_1; replace hx289_0 := (cell_far (p := ⟨gb284, 1, none⟩) (by first | (rw [add_block]; exact hn289_1) | (show (Addr.add _ _).block ≠ _; rw [add_block]; exact hn289_1) | exact hn289_1) (.int .i64 ((rd_T41 l0 0).f1))).trans hx289_0; replace hx289_1 := (cell_far (p := ⟨gb284, 1, none⟩) (by first | (rw [add_block]; exact hn289_1) | (show (Addr.add _ _).block ≠ _; rw [add_block]; exact hn289_1) | exact hn289_1) (.int .i64 ((rd_T41 l0 0).f1))).trans hx289_1; (try have hy289_0 := fun (n_ : Nat) => (show ((((w14.drewN n_).setCell ⟨gb284, 0, none⟩ (.int .i64 ((rd_T41 l0 0).f0))).setCell ⟨gb284, 1, none⟩ (.int .i64 ((rd_T41 l0 0).f1)))).cell? _ = some _ from hx289_0)); (try have hy289_1 := fun (n_ : Nat) => (show ((((w14.drewN n_).setCell ⟨gb284, 0, none⟩ (.int .i64 ((rd_T41 l0 0).f0))).setCell ⟨gb284, 1, none⟩ (.int .i64 ((rd_T41 l0 0).f1)))).cell? _ = some _ from hx289_1)); clear hn289_0; clear hn289_1; replace p289 := eq_true p289; replace q289 := eq_true q289))
                repeat (go_quiet (first | ((with_reducible refine gate_dst (N := 7) rfl ?_); refine box_event ?hg (N := 7) ?hd (cs := #[.int .i64 0, .int .i64 0]) (t := 41) ?hr ?_; (case hd => rfl); (case hg => rfl); (case hr => first | (go_simp; done) | (go_simp; rfl)); intro gb284 hg w14 hbox hb; have n0_ := Aside0.mk (below_step (by repeat (first | (with_reducible first | exact HB.out | apply below_alloc | apply pw_below_drewN | apply below_drew1) | exact HB.out)) hb); have n1_ := Aside0.mk (hbox); have n2_ := Aside0.mk ((by rw [hg]; exact (below_size (by repeat (first | (with_reducible first | exact HB.out | apply below_alloc | apply pw_below_drewN | apply below_drew1) | exact HB.out))) : w.heap.size ≤ gb284)); have n3_ := Aside0.mk ((by rw [hg]; exact (below_size (by repeat (first | (with_reducible first | exact HB.out | apply below_alloc | apply pw_below_drewN | apply below_drew1) | exact HB.out))) : w.heap.size ≤ gb284)); clear HB; have HB := n0_; have BK284 := n1_; have GW284 := n2_; have GE284 := n3_; clear n0_ n1_ n2_ n3_; clear hb hbox hg; have hcz15_0 : w14.cell? ⟨gb284, 0, none⟩ = some (.int .i64 0) := (blk_cell BK284.out 0).trans rfl; have hcz15_1 : w14.cell? ⟨gb284, 1, none⟩ = some (.int .i64 0) := (blk_cell BK284.out 1).trans rfl; have hfz15_0 := blk_frozen BK284.out 0; have hfz15_1 := blk_frozen BK284.out 1; have p288 : 0 ≤ (x6_1 : Int) := of_decide_eq_true (by first | (with_reducible assumption) | assumption); have q288 : x6_1 < (l0.length : Int) := of_decide_eq_true (by first | (with_reducible assumption) | assumption); obtain ⟨ad288, e288, hx288_0, hx288_1⟩ := at_T41 HR0.out x6_1 p288 q288; obtain rfl : ad283 = ad288 := (by injection e288); have hn288_0 : ad283.block ≠ gb284 := Nat.ne_of_lt (Nat.lt_of_lt_of_le (by have := World.block_lt_of_cell? _ _ hx288_0; first | rwa [add_block] at this | exact this) GW284.out); have hn288_1 : ad283.block ≠ gb284 := Nat.ne_of_lt (Nat.lt_of_lt_of_le (by have := World.block_lt_of_cell? _ _ hx288_0; first | rwa [add_block] at this | exact this) GW284.out); replace hx288_0 := (HB.out.cell (World.block_lt_of_cell? w _ hx288_0)).trans hx288_0; replace hx288_1 := (HB.out.cell (World.block_lt_of_cell? w _ hx288_1)).trans hx288_1; replace hx288_0 := (cell_far (p := ⟨gb284, 0, none⟩) (by first | (rw [add_block]; exact hn288_0) | (show (Addr.add _ _).block ≠ _; rw [add_block]; exact hn288_0) | exact hn288_0) (.int .i64 ((rd_T41 l0 0).f0))).trans hx288_0; replace hx288_1 := (cell_far (p := ⟨gb284, 0, none⟩) (by first | (rw [add_block]; exact hn288_0) | (show (Addr.add _ _).block ≠ _; rw [add_block]; exact hn288_0) | exact hn288_0) (.int .i64 ((rd_T41 l0 0).f0))).trans hx288_1; replace hx288_0 := (cell_far (p := ⟨gb284, 1, none⟩) (by first | (rw [add_block]; exact hn288_1) | (show (Addr.add _ _).block ≠ _; rw [add_block]; exact hn288_1) | exact hn288_1) (.int .i64 ((rd_T41 l0 0).f1))).trans hx288_0; replace hx288_1 := (cell_far (p := ⟨gb284, 1, none⟩) (by first | (rw [add_block]; exact hn288_1) | (show (Addr.add _ _).block ≠ _; rw [add_block]; exact hn288_1) | exact hn288_1) (.int .i64 ((rd_T41 l0 0).f1))).trans hx288_1; (try have hy288_0 := fun (n_ : Nat) => (show ((((w14.drewN n_).setCell ⟨gb284, 0, none⟩ (.int .i64 ((rd_T41 l0 0).f0))).setCell ⟨gb284, 1, none⟩ (.int .i64 ((rd_T41 l0 0).f1)))).cell? _ = some _ from hx288_0)); (try have hy288_1 := fun (n_ : Nat) => (show ((((w14.drewN n_).setCell ⟨gb284, 0, none⟩ (.int .i64 ((rd_T41 l0 0).f0))).setCell ⟨gb284, 1, none⟩ (.int .i64 ((rd_T41 l0 0).f1)))).cell? _ = some _ from hx288_1)); clear hn288_0; clear hn288_1; replace p288 := eq_true p288; replace q288 := eq_true q288; have p289 : 0 ≤ (x6_1 : Int) := of_decide_eq_true (by first | (with_reducible assumption) | assumption); have q289 : x6_1 < (l0.length : Int) := of_decide_eq_true (by first | (with_reducible assumption) | assumption); obtain ⟨ad289, e289, hx289_0, hx289_1⟩ := at_T41 HR0.out x6_1 p289 q289; obtain rfl : ad283 = ad289 := (by injection e289); have hn289_0 : ad283.block ≠ gb284 := Nat.ne_of_lt (Nat.lt_of_lt_of_le (by have := World.block_lt_of_cell? _ _ hx289_0; first | rwa [add_block] at this | exact this) GW284.out); have hn289_1 : ad283.block ≠ gb284 := Nat.ne_of_lt (Nat.lt_of_lt_of_le (by have := World.block_lt_of_cell? _ _ hx289_0; first | rwa [add_block] at this | exact this) GW284.out); replace hx289_0 := (HB.out.cell (World.block_lt_of_cell? w _ hx289_0)).trans hx289_0; replace hx289_1 := (HB.out.cell (World.block_lt_of_cell? w _ hx289_1)).trans hx289_1; replace hx289_0 := (cell_far (p := ⟨gb284, 0, none⟩) (by first | (rw [add_block]; exact hn289_0) | (show (Addr.add _ _).block ≠ _; rw [add_block]; exact hn289_0) | exact hn289_0) (.int .i64 ((rd_T41 l0 0).f0))).trans hx289_0; replace hx289_1 := (cell_far (p := ⟨gb284, 0, none⟩) (by first | (rw [add_block]; exact hn289_0) | (show (Addr.add _ _).block ≠ _; rw [add_block]; exact hn289_0) | exact hn289_0) (.int .i64 ((rd_T41 l0 0).f0))).trans hx289_1; replace hx289_0 := (cell_far (p := ⟨gb284, 1, none⟩) (by first | (rw [add_block]; exact hn289_1) | (show (Addr.add _ _).block ≠ _; rw [add_block]; exact hn289_1) | exact hn289_1) (.int .i64 ((rd_T41 l0 0).f1))).trans hx289_0; replace hx289_1 := (cell_far (p := ⟨gb284, 1, none⟩) (by first | (rw [add_block]; exact hn289_1) | (show (Addr.add _ _).block ≠ _; rw [add_block]; exact hn289_1) | exact hn289_1) (.int .i64 ((rd_T41 l0 0).f1))).trans hx289_1; (try have hy289_0 := fun (n_ : Nat) => (show ((((w14.drewN n_).setCell ⟨gb284, 0, none⟩ (.int .i64 ((rd_T41 l0 0).f0))).setCell ⟨gb284, 1, none⟩ (.int .i64 ((rd_T41 l0 0).f1)))).cell? _ = some _ from hx289_0)); (try have hy289_1 := fun (n_ : Nat) => (show ((((w14.drewN n_).setCell ⟨gb284, 0, none⟩ (.int .i64 ((rd_T41 l0 0).f0))).setCell ⟨gb284, 1, none⟩ (.int .i64 ((rd_T41 l0 0).f1)))).cell? _ = some _ from hx289_1)); clear hn289_0; clear hn289_1; replace p289 := eq_true p289; replace q289 := eq_true q289)); try go_wp2_with (first | ((with_reducible refine gate_dst (N := 7) rfl ?_); refine box_event ?hg (N := 7) ?hd (cs := #[.int .i64 0, .int .i64 0]) (t := 41) ?hr ?_; (case hd => rfl); (case hg => rfl); (case hr => first | (go_simp; done) | (go_simp; rfl)); intro gb284 hg w14 hbox hb; have n0_ := Aside0.mk (below_step (by repeat (first | (with_reducible first | exact HB.out | apply below_alloc | apply pw_below_drewN | apply below_drew1) | exact HB.out)) hb); have n1_ := Aside0.mk (hbox); have n2_ := Aside0.mk ((by rw [hg]; exact (below_size (by repeat (first | (with_reducible first | exact HB.out | apply below_alloc | apply pw_below_drewN | apply below_drew1) | exact HB.out))) : w.heap.size ≤ gb284)); have n3_ := Aside0.mk ((by rw [hg]; exact (below_size (by repeat (first | (with_reducible first | exact HB.out | apply below_alloc | apply pw_below_drewN | apply below_drew1) | exact HB.out))) : w.heap.size ≤ gb284)); clear HB; have HB := n0_; have BK284 := n1_; have GW284 := n2_; have GE284 := n3_; clear n0_ n1_ n2_ n3_; clear hb hbox hg; have hcz15_0 : w14.cell? ⟨gb284, 0, none⟩ = some (.int .i64 0) := (blk_cell BK284.out 0).trans rfl; have hcz15_1 : w14.cell? ⟨gb284, 1, none⟩ = some (.int .i64 0) := (blk_cell BK284.out 1).trans rfl; have hfz15_0 := blk_frozen BK284.out 0; have hfz15_1 := blk_frozen BK284.out 1; have p288 : 0 ≤ (x6_1 : Int) := of_decide_eq_true (by first | (with_reducible assumption) | assumption); have q288 : x6_1 < (l0.length : Int) := of_decide_eq_true (by first | (with_reducible assumption) | assumption); obtain ⟨ad288, e288, hx288_0, hx288_1⟩ := at_T41 HR0.out x6_1 p288 q288; obtain rfl : ad283 = ad288 := (by injection e288); have hn288_0 : ad283.block ≠ gb284 := Nat.ne_of_lt (Nat.lt_of_lt_of_le (by have := World.block_lt_of_cell? _ _ hx288_0; first | rwa [add_block] at this | exact this) GW284.out); have hn288_1 : ad283.block ≠ gb284 := Nat.ne_of_lt (Nat.lt_of_lt_of_le (by have := World.block_lt_of_cell? _ _ hx288_0; first | rwa [add_block] at this | exact this) GW284.out); replace hx288_0 := (HB.out.cell (World.block_lt_of_cell? w _ hx288_0)).trans hx288_0; replace hx288_1 := (HB.out.cell (World.block_lt_of_cell? w _ hx288_1)).trans hx288_1; replace hx288_0 := (cell_far (p := ⟨gb284, 0, none⟩) (by first | (rw [add_block]; exact hn288_0) | (show (Addr.add _ _).block ≠ _; rw [add_block]; exact hn288_0) | exact hn288_0) (.int .i64 ((rd_T41 l0 0).f0))).trans hx288_0; replace hx288_1 := (cell_far (p := ⟨gb284, 0, none⟩) (by first | (rw [add_block]; exact hn288_0) | (show (Addr.add _ _).block ≠ _; rw [add_block]; exact hn288_0) | exact hn288_0) (.int .i64 ((rd_T41 l0 0).f0))).trans hx288_1; replace hx288_0 := (cell_far (p := ⟨gb284, 1, none⟩) (by first | (rw [add_block]; exact hn288_1) | (show (Addr.add _ _).block ≠ _; rw [add_block]; exact hn288_1) | exact hn288_1) (.int .i64 ((rd_T41 l0 0).f1))).trans hx288_0; replace hx288_1 := (cell_far (p := ⟨gb284, 1, none⟩) (by first | (rw [add_block]; exact hn288_1) | (show (Addr.add _ _).block ≠ _; rw [add_block]; exact hn288_1) | exact hn288_1) (.int .i64 ((rd_T41 l0 0).f1))).trans hx288_1; (try have hy288_0 := fun (n_ : Nat) => (show ((((w14.drewN n_).setCell ⟨gb284, 0, none⟩ (.int .i64 ((rd_T41 l0 0).f0))).setCell ⟨gb284, 1, none⟩ (.int .i64 ((rd_T41 l0 0).f1)))).cell? _ = some _ from hx288_0)); (try have hy288_1 := fun (n_ : Nat) => (show ((((w14.drewN n_).setCell ⟨gb284, 0, none⟩ (.int .i64 ((rd_T41 l0 0).f0))).setCell ⟨gb284, 1, none⟩ (.int .i64 ((rd_T41 l0 0).f1)))).cell? _ = some _ from hx288_1)); clear hn288_0; clear hn288_1; replace p288 := eq_true p288; replace q288 := eq_true q288; have p289 : 0 ≤ (x6_1 : Int) := of_decide_eq_true (by first | (with_reducible assumption) | assumption); have q289 : x6_1 < (l0.length : Int) := of_decide_eq_true (by first | (with_reducible assumption) | assumption); obtain ⟨ad289, e289, hx289_0, hx289_1⟩ := at_T41 HR0.out x6_1 p289 q289; obtain rfl : ad283 = ad289 := (by injection e289); have hn289_0 : ad283.block ≠ gb284 := Nat.ne_of_lt (Nat.lt_of_lt_of_le (by have := World.block_lt_of_cell? _ _ hx289_0; first | rwa [add_block] at this | exact this) GW284.out); have hn289_1 : ad283.block ≠ gb284 := Nat.ne_of_lt (Nat.lt_of_lt_of_le (by have := World.block_lt_of_cell? _ _ hx289_0; first | rwa [add_block] at this | exact this) GW284.out); replace hx289_0 := (HB.out.cell (World.block_lt_of_cell? w _ hx289_0)).trans hx289_0; replace hx289_1 := (HB.out.cell (World.block_lt_of_cell? w _ hx289_1)).trans hx289_1; replace hx289_0 := (cell_far (p := ⟨gb284, 0, none⟩) (by first | (rw [add_block]; exact hn289_0) | (show (Addr.add _ _).block ≠ _; rw [add_block]; exact hn289_0) | exact hn289_0) (.int .i64 ((rd_T41 l0 0).f0))).trans hx289_0; replace hx289_1 := (cell_far (p := ⟨gb284, 0, none⟩) (by first | (rw [add_block]; exact hn289_0) | (show (Addr.add _ _).block ≠ _; rw [add_block]; exact hn289_0) | exact hn289_0) (.int .i64 ((rd_T41 l0 0).f0))).trans hx289_1; replace hx289_0 := (cell_far (p := ⟨gb284, 1, none⟩) (by first | (rw [add_block]; exact hn289_1) | (show (Addr.add _ _).block ≠ _; rw [add_block]; exact hn289_1) | exact hn289_1) (.int .i64 ((rd_T41 l0 0).f1))).trans hx289_0; replace hx289_1 := (cell_far (p := ⟨gb284, 1, none⟩) (by first | (rw [add_block]; exact hn289_1) | (show (Addr.add _ _).block ≠ _; rw [add_block]; exact hn289_1) | exact hn289_1) (.int .i64 ((rd_T41 l0 0).f1))).trans hx289_1; (try have hy289_0 := fun (n_ : Nat) => (show ((((w14.drewN n_).setCell ⟨gb284, 0, none⟩ (.int .i64 ((rd_T41 l0 0).f0))).setCell ⟨gb284, 1, none⟩ (.int .i64 ((rd_T41 l0 0).f1)))).cell? _ = some _ from hx289_0)); (try have hy289_1 := fun (n_ : Nat) => (show ((((w14.drewN n_).setCell ⟨gb284, 0, none⟩ (.int .i64 ((rd_T41 l0 0).f0))).setCell ⟨gb284, 1, none⟩ (.int .i64 ((rd_T41 l0 0).f1)))).cell? _ = some _ from hx289_1)); clear hn289_0; clear hn289_1; replace p289 := eq_true p289; replace q289 := eq_true q289)))
                go_roundg k1
                case measure => have := HK1.out; omega
                case rel => exact ⟨(wrap64 ((wrap64 (x5_1 + (wrap64 (((rd_T41 l0 x6_1).f0) * ((rd_T41 l0 0).f1))))) - (wrap64 (((rd_T41 l0 x6_1).f1) * ((rd_T41 l0 0).f0))))), (wrap64 (x6_1 + 1)), (by first | rfl | (simp; done) | (simp [*]; done)), (by first | rfl | (simp; done) | (simp [*]; done)), H', ⟨by have := HK1.out; omega⟩, ⟨by repeat (first | (with_reducible first | exact HB.out | apply below_alloc | apply pw_below_drewN | apply below_drew1 | refine below_set ?_ GE284.out) | exact HB.out)⟩⟩
              · rw [if_neg c13] at H
                exact absurd H (by simp)
          · rw [if_neg c6] at H
            exact absurd H (by simp)
        · rw [if_neg c5] at H
          have c5b0 : decide (x6_1 < (l0.length : Int)) = false := decide_eq_false c5
          clear c5
          simp only [Option.some.injEq, Prod.mk.injEq] at H
          obtain ⟨rfl, rfl⟩ := H
          go_wp2
          repeat (go_quiet (fail); try go_wp2)
          go_ret2
          exact ⟨by first | rfl | (simp [errW_none, errW_some] <;> rfl) | (simp [*, errW_none, errW_some] <;> rfl), by repeat (first | (with_reducible first | exact HB.out | apply below_alloc | apply pw_below_drewN | apply below_drew1) | exact HB.out)⟩
  · rw [if_neg c3] at H
    have c3b0 : (t282 == 0) = false := beq_eq_false_iff_ne.mpr c3
    have c3b1 : (t282 != 0) = true := bne_iff_ne.mpr c3
    simp only [Option.some.injEq, Prod.mk.injEq] at H
    obtain ⟨rfl, rfl⟩ := H
    go_enter Try.func38, Try.ntmps38
    go_wp2_with (first | (go_at_call 70; (with_reducible refine (quitrentref21_check.calls k _ _ l0 0 0 t282 _ ?side1 ?side2 A2.out).mono ?_); (case side1 => repeat (first | exact HR0.out | (with_reducible refine Kd.C_alloc ?_ _) | (with_reducible refine Kd.C_drewN ?_ _) | (with_reducible refine Kd.C_drew ?_))); (case side2 => exact HC0.out); rintro e w16 ⟨rfl, hb⟩; have n0_ := Aside0.mk (below_step (by repeat (first | (with_reducible first | exact HB.out | apply below_alloc | apply pw_below_drewN | apply below_drew1) | exact HB.out)) hb); clear HB; have HB := n0_; clear n0_; (try clear hb); (try clear hb2); (try clear hk); (try clear hi)))
    repeat (go_quiet (first | (go_at_call 70; (with_reducible refine (quitrentref21_check.calls k _ _ l0 0 0 t282 _ ?side1 ?side2 A2.out).mono ?_); (case side1 => repeat (first | exact HR0.out | (with_reducible refine Kd.C_alloc ?_ _) | (with_reducible refine Kd.C_drewN ?_ _) | (with_reducible refine Kd.C_drew ?_))); (case side2 => exact HC0.out); rintro e w16 ⟨rfl, hb⟩; have n0_ := Aside0.mk (below_step (by repeat (first | (with_reducible first | exact HB.out | apply below_alloc | apply pw_below_drewN | apply below_drew1) | exact HB.out)) hb); clear HB; have HB := n0_; clear n0_; (try clear hb); (try clear hb2); (try clear hk); (try clear hi))); try go_wp2_with (first | (go_at_call 70; (with_reducible refine (quitrentref21_check.calls k _ _ l0 0 0 t282 _ ?side1 ?side2 A2.out).mono ?_); (case side1 => repeat (first | exact HR0.out | (with_reducible refine Kd.C_alloc ?_ _) | (with_reducible refine Kd.C_drewN ?_ _) | (with_reducible refine Kd.C_drew ?_))); (case side2 => exact HC0.out); rintro e w16 ⟨rfl, hb⟩; have n0_ := Aside0.mk (below_step (by repeat (first | (with_reducible first | exact HB.out | apply below_alloc | apply pw_below_drewN | apply below_drew1) | exact HB.out)) hb); clear HB; have HB := n0_; clear n0_; (try clear hb); (try clear hb2); (try clear hk); (try clear hi))))
    go_ret2
    exact ⟨by first | rfl | (simp [errW_none, errW_some] <;> rfl) | (simp [*, errW_none, errW_some] <;> rfl), by repeat (first | (with_reducible first | exact HB.out | apply below_alloc | apply pw_below_drewN | apply below_drew1) | exact HB.out)⟩

-- NOT PRINTED: function 8 (quitrentlaw21_PlotTells)

-- NOT PRINTED: function 9 (quitrentlaw21_PlotTurns)

-- NOT PRINTED: function 10 (quitrentlaw21_PlotTimes)

-- NOT PRINTED: function 11 (quitrentlaw21_PlotStairs)
end Go.Proofs.Ytkfbmplhcigopaa.PPlo
namespace Go.Proofs.Ytkfbmplhcigopaa.PPlo
open Go.RowKit Go.Proofs.YtkfbmplhcigopaaW.PrintWords Go.Proofs.YtkfbmplhcigopaaW.PrintLast Go.Proofs.YtkfbmplhcigopaaW.PrintMore

theorem rmay_is (x y : Int) : quitrentref21_may.f x y = some (okP ⟨x, y⟩) := by
  unfold quitrentref21_may.f okP
  by_cases h1 : x ≥ -1048576
  · by_cases h2 : x ≤ 1048576
    · by_cases h3 : y ≥ -1048576
      · rw [if_pos h1, if_pos h2, if_pos h3]; congr 1; rw [decide_eq_decide]; show y ≤ 1048576 ↔ (-1048576 ≤ x ∧ x ≤ 1048576 ∧ -1048576 ≤ y ∧ y ≤ 1048576); omega
      · rw [if_pos h1, if_pos h2, if_neg h3]; congr 1; simp; omega
    · rw [if_pos h1, if_neg h2]; congr 1; simp; omega
  · rw [if_neg h1]; congr 1; simp; omega

theorem rd_cv (l : List S38) (i : Nat) (h : i < l.length) : rd_T41 (l.map cv) (i : Int) = cv (rd_T38 l (i : Int)) := by
  unfold rd_T41 rd_T38
  simp [List.getD_eq_getElem?_getD, h]

theorem rcheck_l (l : List S38) (hl : l.length ≤ 1000) : ∀ (m i k : Nat), m = l.length - i → i ≤ l.length → m < k →
    quitrentref21_check.l0 k (l.map cv) (i : Int) = some (if (l.drop i).all okP then 0 else 1) := by
  intro m
  induction m with
  | zero =>
    intro i k hm hi hk
    obtain ⟨k, rfl⟩ : ∃ k', k = k' + 1 := ⟨k - 1, by omega⟩
    unfold quitrentref21_check.l0
    rw [List.length_map, if_neg (by omega), List.drop_eq_nil_of_le (by omega)]; rfl
  | succ m ih =>
    intro i k hm hi hk
    obtain ⟨k, rfl⟩ : ∃ k', k = k' + 1 := ⟨k - 1, by omega⟩
    have hlt : i < l.length := by omega
    unfold quitrentref21_check.l0
    rw [List.length_map, if_pos (show (i : Int) < l.length by omega), if_pos (show (0 : Int) ≤ i by omega), rd_cv l i hlt, rmay_is, Option.bind_some, rd_drop l i hlt, List.all_cons]
    have e : (⟨(cv (rd_T38 l i)).f0, (cv (rd_T38 l i)).f1⟩ : S38) = rd_T38 l i := rfl
    rw [e]
    by_cases h : okP (rd_T38 l i) = true
    · rw [h, if_pos rfl, Bool.true_and, w64 (by omega) (by omega)]
      have := ih (i + 1) k (by omega) (by omega) (by omega)
      rw [show ((i + 1 : Nat) : Int) = (i : Int) + 1 by omega] at this
      exact this
    · rw [Bool.not_eq_true] at h
      rw [h, if_neg (by simp), Bool.false_and]; rfl

theorem rcheck_is (l : List S38) (x y : Int) (k : Nat) (hk : 1001 ≤ k) : quitrentref21_check.f k (l.map cv) x y = some (CHK l x y) := by
  unfold quitrentref21_check.f CHK
  rw [List.length_map]
  by_cases h : l.length > 1000
  · rw [if_pos (show (l.length : Int) > 1000 by omega), if_pos h]
  · rw [if_neg (show ¬ (l.length : Int) > 1000 by omega), if_neg h, rmay_is, Option.bind_some]
    by_cases hb : okP ⟨x, y⟩ = true
    · rw [hb, if_pos rfl, Bool.true_and]
      have := rcheck_l l (by omega) l.length 0 k (by omega) (by omega) (by omega)
      rw [show ((0 : Nat) : Int) = 0 from rfl, List.drop_zero] at this
      exact this
    · rw [Bool.not_eq_true] at hb
      rw [hb, if_neg (by simp)]; rfl

theorem rfits_l (l : List S38) (hl : l.length ≤ 1000) : ∀ (m i k : Nat), m = l.length - i → i ≤ l.length → m < k →
    quitrentref21_fits.l0 k (l.map cv) (i : Int) = some (if (l.drop i).all okP then (l.map cv, 0) else ([], 3)) := by
  intro m
  induction m with
  | zero =>
    intro i k hm hi hk
    obtain ⟨k, rfl⟩ : ∃ k', k = k' + 1 := ⟨k - 1, by omega⟩
    unfold quitrentref21_fits.l0
    rw [List.length_map, if_neg (by omega), List.drop_eq_nil_of_le (by omega)]; rfl
  | succ m ih =>
    intro i k hm hi hk
    obtain ⟨k, rfl⟩ : ∃ k', k = k' + 1 := ⟨k - 1, by omega⟩
    have hlt : i < l.length := by omega
    unfold quitrentref21_fits.l0
    rw [List.length_map, if_pos (show (i : Int) < l.length by omega), if_pos (show (0 : Int) ≤ i by omega), rd_cv l i hlt, rmay_is, Option.bind_some, rd_drop l i hlt, List.all_cons]
    have e : (⟨(cv (rd_T38 l i)).f0, (cv (rd_T38 l i)).f1⟩ : S38) = rd_T38 l i := rfl
    rw [e]
    by_cases h : okP (rd_T38 l i) = true
    · rw [h, if_pos rfl, Bool.true_and, w64 (by omega) (by omega)]
      have := ih (i + 1) k (by omega) (by omega) (by omega)
      rw [show ((i + 1 : Nat) : Int) = (i : Int) + 1 by omega] at this
      exact this
    · rw [Bool.not_eq_true] at h
      rw [h, if_neg (by simp), Bool.false_and]; rfl
theorem rfits_is (l : List S38) (hl : l.length ≤ 1000) (k : Nat) (hk : 1001 ≤ k) : quitrentref21_fits.f k (l.map cv) = some (if l.all okP then (l.map cv, 0) else ([], 3)) := by
  unfold quitrentref21_fits.f
  have := rfits_l l hl l.length 0 k (by omega) (by omega) (by omega)
  rw [show ((0 : Nat) : Int) = 0 from rfl, List.drop_zero] at this
  exact this

/-- points with their error, in the document's words -/
def cvs (r : List S38 × Int) : List S41 × Int := (r.1.map cv, r.2)

theorem mem_rd (l : List S38) (i : Nat) (h : i < l.length) : rd_T38 l (i : Int) ∈ l := by
  have := rd_drop l i h
  exact List.mem_of_mem_drop (i := i) (this ▸ List.mem_cons_self)

theorem rtimes_l (l : List S38) (x y : Int) (hl : l.length ≤ 1000) (hok : ∀ p ∈ l, okP p = true) (hb : okP ⟨x, y⟩ = true) : ∀ (m i k : Nat), m = l.length - i → i ≤ l.length → m + 1001 < k →
    quitrentref21_Times.l0 k (l.map cv) (((l.take i).map (mulP ⟨x, y⟩)).map cv) (i : Int) x y = some (cvs (if (l.map (mulP ⟨x, y⟩)).all okP then (l.map (mulP ⟨x, y⟩), 0) else ([], 3))) := by
  obtain ⟨b1, b2, b3, b4⟩ := okP_iff.1 hb
  have b1' : -1048576 ≤ x := b1
  have b2' : x ≤ 1048576 := b2
  have b3' : -1048576 ≤ y := b3
  have b4' : y ≤ 1048576 := b4
  intro m
  induction m with
  | zero =>
    intro i k hm hi hk
    obtain ⟨k, rfl⟩ : ∃ k', k = k' + 1 := ⟨k - 1, by omega⟩
    unfold quitrentref21_Times.l0
    rw [List.length_map, if_neg (by omega), List.take_of_length_le (by omega), rfits_is _ (by simpa using hl) k (by omega), Option.bind_some]
    unfold cvs; split <;> rfl
  | succ m ih =>
    intro i k hm hi hk
    obtain ⟨k, rfl⟩ : ∃ k', k = k' + 1 := ⟨k - 1, by omega⟩
    have hlt : i < l.length := by omega
    unfold quitrentref21_Times.l0
    rw [List.length_map, if_pos (show (i : Int) < l.length by omega), if_pos (show (0 : Int) ≤ i by omega), if_pos (by simp; omega), rd_cv l i hlt]
    obtain ⟨a1, a2, a3, a4⟩ := okP_iff.1 (hok _ (mem_rd l i hlt))
    show quitrentref21_Times.l0 k (l.map cv) (_ ++ [⟨wrap64 (wrap64 ((rd_T38 l i).f0 * x) - wrap64 ((rd_T38 l i).f1 * y)), wrap64 (wrap64 ((rd_T38 l i).f0 * y) + wrap64 ((rd_T38 l i).f1 * x))⟩]) (wrap64 ((i : Int) + 1)) x y = _
    have p1 := prod_small a1 a2 b1' b2'
    have p2 := prod_small a3 a4 b3' b4'
    have p3 := prod_small a1 a2 b3' b4'
    have p4 := prod_small a3 a4 b1' b2'
    rw [w64 (n := (rd_T38 l i).f0 * x) (by omega) (by omega), w64 (n := (rd_T38 l i).f1 * y) (by omega) (by omega), w64 (n := (rd_T38 l i).f0 * y) (by omega) (by omega), w64 (n := (rd_T38 l i).f1 * x) (by omega) (by omega),
      w64 (n := (rd_T38 l i).f0 * x - (rd_T38 l i).f1 * y) (by omega) (by omega), w64 (n := (rd_T38 l i).f0 * y + (rd_T38 l i).f1 * x) (by omega) (by omega), w64 (n := (i : Int) + 1) (by omega) (by omega)]
    have := ih (i + 1) k (by omega) (by omega) (by omega)
    rw [show ((i + 1 : Nat) : Int) = (i : Int) + 1 by omega] at this
    rw [← this]
    have hr : rd_T38 l (i : Int) = l[i]'hlt := by
      unfold rd_T38; simp [List.getD_eq_getElem?_getD, hlt]
    congr 1
    rw [List.take_succ_eq_append_getElem hlt, List.map_append, List.map_append, ← hr]; rfl

theorem rtimes_is (l : List S38) (x y : Int) (k : Nat) (hk : 2003 ≤ k) : quitrentref21_Times.f k (l.map cv) x y = some (cvs (EACH (mulP ⟨x, y⟩) l x y)) := by
  unfold quitrentref21_Times.f EACH
  rw [rcheck_is l x y k (by omega), Option.bind_some]
  by_cases h : CHK l x y = 0
  · obtain ⟨h1, h2, h3⟩ := CHK_0 h
    have := rtimes_l l x y h1 h3 h2 l.length 0 k (by omega) (by omega) (by omega)
    rw [show ((0 : Nat) : Int) = 0 from rfl] at this
    rw [if_pos h, if_pos h]
    exact this
  · rw [if_neg h, if_neg h]; rfl

theorem rmoved_l (l : List S38) (x y : Int) (hl : l.length ≤ 1000) (hok : ∀ p ∈ l, okP p = true) (hb : okP ⟨x, y⟩ = true) : ∀ (m i k : Nat), m = l.length - i → i ≤ l.length → m + 1001 < k →
    quitrentref21_Moved.l0 k (l.map cv) (((l.take i).map (addP ⟨x, y⟩)).map cv) (i : Int) x y = some (cvs (if (l.map (addP ⟨x, y⟩)).all okP then (l.map (addP ⟨x, y⟩), 0) else ([], 3))) := by
  obtain ⟨b1, b2, b3, b4⟩ := okP_iff.1 hb
  have b1' : -1048576 ≤ x := b1
  have b2' : x ≤ 1048576 := b2
  have b3' : -1048576 ≤ y := b3
  have b4' : y ≤ 1048576 := b4
  intro m
  induction m with
  | zero =>
    intro i k hm hi hk
    obtain ⟨k, rfl⟩ : ∃ k', k = k' + 1 := ⟨k - 1, by omega⟩
    unfold quitrentref21_Moved.l0
    rw [List.length_map, if_neg (by omega), List.take_of_length_le (by omega), rfits_is _ (by simpa using hl) k (by omega), Option.bind_some]
    unfold cvs; split <;> rfl
  | succ m ih =>
    intro i k hm hi hk
    obtain ⟨k, rfl⟩ : ∃ k', k = k' + 1 := ⟨k - 1, by omega⟩
    have hlt : i < l.length := by omega
    unfold quitrentref21_Moved.l0
    rw [List.length_map, if_pos (show (i : Int) < l.length by omega), if_pos (show (0 : Int) ≤ i by omega), if_pos (by simp; omega), rd_cv l i hlt]
    obtain ⟨a1, a2, a3, a4⟩ := okP_iff.1 (hok _ (mem_rd l i hlt))
    show quitrentref21_Moved.l0 k (l.map cv) (_ ++ [⟨wrap64 ((rd_T38 l i).f0 + x), wrap64 ((rd_T38 l i).f1 + y)⟩]) (wrap64 ((i : Int) + 1)) x y = _
    rw [w64 (n := (rd_T38 l i).f0 + x) (by omega) (by omega), w64 (n := (rd_T38 l i).f1 + y) (by omega) (by omega), w64 (n := (i : Int) + 1) (by omega) (by omega)]
    have := ih (i + 1) k (by omega) (by omega) (by omega)
    rw [show ((i + 1 : Nat) : Int) = (i : Int) + 1 by omega] at this
    rw [← this]
    have hr : rd_T38 l (i : Int) = l[i]'hlt := by
      unfold rd_T38; simp [List.getD_eq_getElem?_getD, hlt]
    congr 1
    rw [List.take_succ_eq_append_getElem hlt, List.map_append, List.map_append, ← hr]; rfl

theorem rmoved_is (l : List S38) (x y : Int) (k : Nat) (hk : 2003 ≤ k) : quitrentref21_Moved.f k (l.map cv) x y = some (cvs (EACH (addP ⟨x, y⟩) l x y)) := by
  unfold quitrentref21_Moved.f EACH
  rw [rcheck_is l x y k (by omega), Option.bind_some]
  by_cases h : CHK l x y = 0
  · obtain ⟨h1, h2, h3⟩ := CHK_0 h
    have := rmoved_l l x y h1 h3 h2 l.length 0 k (by omega) (by omega) (by omega)
    rw [show ((0 : Nat) : Int) = 0 from rfl] at this
    rw [if_pos h, if_pos h]
    exact this
  · rw [if_neg h, if_neg h]; rfl

theorem rmirror_l (l : List S38) (hl : l.length ≤ 1000) (hok : ∀ p ∈ l, okP p = true) : ∀ (m i k : Nat), m = l.length - i → i ≤ l.length → m < k →
    quitrentref21_Mirror.l0 k (l.map cv) (((l.take i).map mirP).map cv) (i : Int) = some (cvs (l.map mirP, 0)) := by
  intro m
  induction m with
  | zero =>
    intro i k hm hi hk
    obtain ⟨k, rfl⟩ : ∃ k', k = k' + 1 := ⟨k - 1, by omega⟩
    unfold quitrentref21_Mirror.l0
    rw [List.length_map, if_neg (by omega), List.take_of_length_le (by omega)]; rfl
  | succ m ih =>
    intro i k hm hi hk
    obtain ⟨k, rfl⟩ : ∃ k', k = k' + 1 := ⟨k - 1, by omega⟩
    have hlt : i < l.length := by omega
    unfold quitrentref21_Mirror.l0
    rw [List.length_map, if_pos (show (i : Int) < l.length by omega), if_pos (show (0 : Int) ≤ i by omega), if_pos (by simp; omega), rd_cv l i hlt]
    obtain ⟨a1, a2, a3, a4⟩ := okP_iff.1 (hok _ (mem_rd l i hlt))
    show quitrentref21_Mirror.l0 k (l.map cv) (_ ++ [⟨(rd_T38 l i).f0, wrap64 (-(rd_T38 l i).f1)⟩]) (wrap64 ((i : Int) + 1)) = _
    rw [w64 (n := -(rd_T38 l i).f1) (by omega) (by omega), w64 (n := (i : Int) + 1) (by omega) (by omega)]
    have := ih (i + 1) k (by omega) (by omega) (by omega)
    rw [show ((i + 1 : Nat) : Int) = (i : Int) + 1 by omega] at this
    rw [← this]
    have hr : rd_T38 l (i : Int) = l[i]'hlt := by
      unfold rd_T38; simp [List.getD_eq_getElem?_getD, hlt]
    congr 1
    rw [List.take_succ_eq_append_getElem hlt, List.map_append, List.map_append, ← hr]; rfl

theorem rmirror_is (l : List S38) (k : Nat) (hk : 2003 ≤ k) : quitrentref21_Mirror.f k (l.map cv) = some (cvs (EACH mirP l 0 0)) := by
  unfold quitrentref21_Mirror.f EACH
  rw [rcheck_is l 0 0 k (by omega), Option.bind_some]
  by_cases h : CHK l 0 0 = 0
  · obtain ⟨h1, h2, h3⟩ := CHK_0 h
    have := rmirror_l l h1 h3 l.length 0 k (by omega) (by omega) (by omega)
    rw [show ((0 : Nat) : Int) = 0 from rfl] at this
    have hm : (l.map mirP).all okP = true := List.all_eq_true.2 fun p hp => by
      obtain ⟨q, hq, rfl⟩ := List.mem_map.1 hp
      obtain ⟨a1, a2, a3, a4⟩ := okP_iff.1 (h3 q hq)
      rw [okP_iff]
      show -1048576 ≤ q.f0 ∧ q.f0 ≤ 1048576 ∧ -1048576 ≤ -q.f1 ∧ -q.f1 ≤ 1048576
      omega
    rw [if_pos h, if_pos h, if_pos hm]
    exact this
  · rw [if_neg h, if_neg h]; rfl

theorem nxt_is (l : List S38) (i : Nat) (h : i < l.length) : Int.tmod ((i : Int) + 1) (l.length : Int) = if i + 1 < l.length then ((i + 1 : Nat) : Int) else 0 := by
  rw [Int.tmod_eq_emod_of_nonneg (by omega)]
  by_cases h1 : i + 1 < l.length
  · rw [if_pos h1, Int.emod_eq_of_lt (by omega) (by omega)]; omega
  · rw [if_neg h1]
    have : (i : Int) + 1 = l.length := by omega
    rw [this, Int.emod_self]

theorem rarea_l (l : List S38) (hl : l.length ≤ 1000) (hok : ∀ p ∈ l, okP p = true) :
    ∀ (m i k : Nat) (s : Int), m = l.length - i → i ≤ l.length → m < k → -(2199023255552 * i) ≤ s → s ≤ 2199023255552 * i →
      quitrentref21_Area.l0 k (l.map cv) s (i : Int) = some (s + arFrom l i, 0) := by
  intro m
  induction m with
  | zero =>
    intro i k s hm hi hk hs1 hs2
    obtain ⟨k, rfl⟩ : ∃ k', k = k' + 1 := ⟨k - 1, by omega⟩
    unfold quitrentref21_Area.l0 arFrom
    rw [List.length_map, if_neg (by omega), List.drop_eq_nil_of_le (by omega)]; simp
  | succ m ih =>
    intro i k s hm hi hk hs1 hs2
    obtain ⟨k, rfl⟩ : ∃ k', k = k' + 1 := ⟨k - 1, by omega⟩
    have hlt : i < l.length := by omega
    have hp := hok _ (mem_rd l i hlt)
    have step : ∀ q : S38, okP q = true → rd_T38 l (Int.tmod ((i : Int) + 1) (l.length : Int)) = q →
        quitrentref21_Area.l0 k (l.map cv) (wrap64 ((wrap64 (s + (wrap64 ((rd_T38 l i).f0 * q.f1)))) - (wrap64 ((rd_T38 l i).f1 * q.f0)))) ((i : Int) + 1) = some (s + arFrom l i, 0) := by
      intro q hq e
      have hc := cr_small hp hq
      obtain ⟨a1, a2, a3, a4⟩ := okP_iff.1 hp
      obtain ⟨b1, b2, b3, b4⟩ := okP_iff.1 hq
      have p1 := prod_small a1 a2 b3 b4
      have p2 := prod_small a3 a4 b1 b2
      have hcr : cr (rd_T38 l i) q = (rd_T38 l i).f0 * q.f1 - (rd_T38 l i).f1 * q.f0 := rfl
      rw [w64 (n := (rd_T38 l i).f0 * q.f1) (by omega) (by omega), w64 (n := (rd_T38 l i).f1 * q.f0) (by omega) (by omega), w64 (n := s + (rd_T38 l i).f0 * q.f1) (by omega) (by omega),
        w64 (n := s + (rd_T38 l i).f0 * q.f1 - (rd_T38 l i).f1 * q.f0) (by omega) (by omega)]
      have := ih (i + 1) k (s + (rd_T38 l i).f0 * q.f1 - (rd_T38 l i).f1 * q.f0) (by omega) (by omega) (by omega) (by omega) (by omega)
      rw [show ((i + 1 : Nat) : Int) = (i : Int) + 1 by omega] at this
      rw [this, arFrom_step l i hlt, e]
      congr 2; omega
    unfold quitrentref21_Area.l0
    rw [List.length_map, w64 (n := (i : Int) + 1) (by omega) (by omega), rd_cv l i hlt, if_pos (show (i : Int) < l.length by omega), if_pos (show (0 : Int) < l.length by omega)]
    have hn := nxt_is l i hlt
    by_cases h1 : i + 1 < l.length
    · rw [if_pos h1] at hn
      have e := rd_cv l (i + 1) h1
      rw [show ((i + 1 : Nat) : Int) = (i : Int) + 1 by omega] at e hn
      rw [if_pos (show (i : Int) + 1 < l.length by omega), if_pos (by omega), if_pos (by omega), e]
      have hq := mem_rd l (i + 1) h1
      rw [show ((i + 1 : Nat) : Int) = (i : Int) + 1 by omega] at hq
      exact step _ (hok _ hq) (by rw [hn])
    · rw [if_neg h1] at hn
      have e := rd_cv l 0 (by omega)
      rw [show ((0 : Nat) : Int) = 0 from rfl] at e
      rw [if_neg (show ¬ (i : Int) + 1 < l.length by omega), if_pos (by omega), e]
      have hq := mem_rd l 0 (by omega)
      rw [show ((0 : Nat) : Int) = 0 from rfl] at hq
      exact step _ (hok _ hq) (by rw [hn])

theorem rarea_is (l : List S38) (k : Nat) (hk : 1001 ≤ k) : quitrentref21_Area.f k (l.map cv) = some (AREA l) := by
  unfold quitrentref21_Area.f AREA
  rw [rcheck_is l 0 0 k hk, Option.bind_some]
  by_cases h : CHK l 0 0 = 0
  · obtain ⟨h1, h2, h3⟩ := CHK_0 h
    have := rarea_l l h1 h3 l.length 0 k 0 (by omega) (by omega) (by omega) (by omega) (by omega)
    rw [show ((0 : Nat) : Int) = 0 from rfl, arFrom_0] at this
    rw [if_pos h, if_pos h, this, Int.zero_add]
  · rw [if_neg h, if_neg h]
end Go.Proofs.Ytkfbmplhcigopaa.PPlo
