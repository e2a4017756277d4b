-- out of the print of PFis: quitrentlaw04_awake
import Derived.Test.YtkfbmplhcigopabPFisx0
import Derived.Test.YtkfbmplhcigopabPFisx1
import Derived.Test.YtkfbmplhcigopabPFisF19
import Derived.Test.YtkfbmplhcigopabPFisF21
import Derived.Test.YtkfbmplhcigopabPFisF23
import Derived.Test.YtkfbmplhcigopabPFisF25
import Derived.Test.YtkfbmplhcigopabPFisF27
namespace Go.Proofs.Ytkfbmplhcigopab.PFis
open Go.RowKit Go.Proofs.YtkfbmplhcigopabW.PrintWords Go.Proofs.YtkfbmplhcigopabW.PrintLast Go.Proofs.YtkfbmplhcigopabW.PrintMore
attribute [local go_sem] max2_int min2_int max_two min_two max_three min_three max_four min_four   -- for this text's walks alone
set_option linter.unusedVariables false
set_option linter.unusedSimpArgs false

/-! ### quitrentlaw04_awake: function 18 -/
def quitrentlaw04_awake.f (k : Nat)  : Option (Bool) := (fiscal_First.f k 1 1 2).bind fun bt160 => ((fiscal_Last.f k 1 1 2).bind fun bt162 => ((fiscal_Of.f k 1 1 91).bind fun bt164 => ((fiscal_Of.f k 1 1 0).bind fun bt166 => (if bt160.1 = 57 then (if bt160.2 = 0 then (if bt162.1 = 91 then (if bt162.2 = 0 then (if bt164.1 = 2 then (if bt164.2 = 0 then (if bt166.2 = 1 then ((fiscal_Check.f k 1 1).bind fun t169 => (if t169 = 0 then ((fiscal_Check.f k 0 2).bind fun t170 => (if t170 = 1 then ((fiscal_Days.f k 0 32 0).bind fun t171 => (if t171 = 28 then ((fiscal_Days.f k 0 32 240).bind fun t172 => (some (t172 == 0))) else (none))) else (none))) else (none))) else (none)) else (none)) else (none)) else (none)) else (none)) else (none)) else (none)))))
theorem quitrentlaw04_awake.mono : ∀ k, LeO (quitrentlaw04_awake.f k ) (quitrentlaw04_awake.f (k + 1) ) := by
  intro  k
  unfold quitrentlaw04_awake.f
  repeat' first
      | (with_reducible exact fiscal_Check.mono _ _ _)
      | (with_reducible exact fiscal_Days.mono _ _ _ _)
      | (with_reducible exact fiscal_First.mono _ _ _ _)
      | (with_reducible exact fiscal_Last.mono _ _ _ _)
      | (with_reducible exact fiscal_Of.mono _ _ _ _)
      | (with_reducible exact LeO.refl _)
      | (with_reducible exact LeO.none _)
      | (with_reducible refine LeO.ite ?_ ?_)
      | (with_reducible refine LeO.bind ?_ (fun _ => ?_))
      | exact fiscal_Check.mono _ _ _
      | exact fiscal_Days.mono _ _ _ _
      | exact fiscal_First.mono _ _ _ _
      | exact fiscal_Last.mono _ _ _ _
      | exact fiscal_Of.mono _ _ _ _
      | exact LeO.none _
      | refine LeO.ite ?_ ?_
      | refine LeO.bind ?_ (fun _ => ?_)
set_option maxHeartbeats 8000000 in
set_option maxRecDepth 100000 in
theorem quitrentlaw04_awake.calls (k : Nat)  (r : Bool) (w : World) (h : quitrentlaw04_awake.f k  = some r) :
    Calls Try.prog 18 #[] w fun e w' => e = .returned (.bool r) ∧ Below w.heap.size w w' := by
  have hu44 := Try.underlying44
  have HB := Aside0.mk (Below.refl w.heap.size w)
  have H : ((fiscal_First.f k 1 1 2).bind fun bt160 => ((fiscal_Last.f k 1 1 2).bind fun bt162 => ((fiscal_Of.f k 1 1 91).bind fun bt164 => ((fiscal_Of.f k 1 1 0).bind fun bt166 => (if bt160.1 = 57 then (if bt160.2 = 0 then (if bt162.1 = 91 then (if bt162.2 = 0 then (if bt164.1 = 2 then (if bt164.2 = 0 then (if bt166.2 = 1 then ((fiscal_Check.f k 1 1).bind fun t169 => (if t169 = 0 then ((fiscal_Check.f k 0 2).bind fun t170 => (if t170 = 1 then ((fiscal_Days.f k 0 32 0).bind fun t171 => (if t171 = 28 then ((fiscal_Days.f k 0 32 240).bind fun t172 => (some (t172 == 0))) else (none))) else (none))) else (none))) else (none)) else (none)) else (none)) else (none)) else (none)) else (none)) else (none)))))) = some r := h
  clear h
  replace H := Option.bind_eq_some_iff.mp H
  obtain ⟨⟨t160, t161⟩, A10, H⟩ := H
  replace H : ((fiscal_Last.f k 1 1 2).bind fun bt162 => ((fiscal_Of.f k 1 1 91).bind fun bt164 => ((fiscal_Of.f k 1 1 0).bind fun bt166 => (if t160 = 57 then (if t161 = 0 then (if bt162.1 = 91 then (if bt162.2 = 0 then (if bt164.1 = 2 then (if bt164.2 = 0 then (if bt166.2 = 1 then ((fiscal_Check.f k 1 1).bind fun t169 => (if t169 = 0 then ((fiscal_Check.f k 0 2).bind fun t170 => (if t170 = 1 then ((fiscal_Days.f k 0 32 0).bind fun t171 => (if t171 = 28 then ((fiscal_Days.f k 0 32 240).bind fun t172 => (some (t172 == 0))) else (none))) else (none))) else (none))) else (none)) else (none)) else (none)) else (none)) else (none)) else (none)) else (none))))) = some r := H
  have A1 := Aside0.mk A10
  clear A10
  replace H := Option.bind_eq_some_iff.mp H
  obtain ⟨⟨t162, t163⟩, A20, H⟩ := H
  replace H : ((fiscal_Of.f k 1 1 91).bind fun bt164 => ((fiscal_Of.f k 1 1 0).bind fun bt166 => (if t160 = 57 then (if t161 = 0 then (if t162 = 91 then (if t163 = 0 then (if bt164.1 = 2 then (if bt164.2 = 0 then (if bt166.2 = 1 then ((fiscal_Check.f k 1 1).bind fun t169 => (if t169 = 0 then ((fiscal_Check.f k 0 2).bind fun t170 => (if t170 = 1 then ((fiscal_Days.f k 0 32 0).bind fun t171 => (if t171 = 28 then ((fiscal_Days.f k 0 32 240).bind fun t172 => (some (t172 == 0))) else (none))) else (none))) else (none))) else (none)) else (none)) else (none)) else (none)) else (none)) else (none)) else (none)))) = some r := H
  have A2 := Aside0.mk A20
  clear A20
  replace H := Option.bind_eq_some_iff.mp H
  obtain ⟨⟨t164, t165⟩, A30, H⟩ := H
  replace H : ((fiscal_Of.f k 1 1 0).bind fun bt166 => (if t160 = 57 then (if t161 = 0 then (if t162 = 91 then (if t163 = 0 then (if t164 = 2 then (if t165 = 0 then (if bt166.2 = 1 then ((fiscal_Check.f k 1 1).bind fun t169 => (if t169 = 0 then ((fiscal_Check.f k 0 2).bind fun t170 => (if t170 = 1 then ((fiscal_Days.f k 0 32 0).bind fun t171 => (if t171 = 28 then ((fiscal_Days.f k 0 32 240).bind fun t172 => (some (t172 == 0))) else (none))) else (none))) else (none))) else (none)) else (none)) else (none)) else (none)) else (none)) else (none)) else (none))) = some r := H
  have A3 := Aside0.mk A30
  clear A30
  replace H := Option.bind_eq_some_iff.mp H
  obtain ⟨⟨t166, t167⟩, A40, H⟩ := H
  replace H : (if t160 = 57 then (if t161 = 0 then (if t162 = 91 then (if t163 = 0 then (if t164 = 2 then (if t165 = 0 then (if t167 = 1 then ((fiscal_Check.f k 1 1).bind fun t169 => (if t169 = 0 then ((fiscal_Check.f k 0 2).bind fun t170 => (if t170 = 1 then ((fiscal_Days.f k 0 32 0).bind fun t171 => (if t171 = 28 then ((fiscal_Days.f k 0 32 240).bind fun t172 => (some (t172 == 0))) else (none))) else (none))) else (none))) else (none)) else (none)) else (none)) else (none)) else (none)) else (none)) else (none)) = some r := H
  have A4 := Aside0.mk A40
  clear A40
  by_cases c5 : t160 = 57
  · rw [if_pos c5] at H
    have c5b0 : (t160 == 57) = true := beq_iff_eq.mpr c5
    have c5b1 : (t160 != 57) = false := bne_eq_false_iff_eq.mpr c5
    clear c5
    by_cases c6 : t161 = 0
    · rw [if_pos c6] at H
      have c6b0 : (t161 == 0) = true := beq_iff_eq.mpr c6
      have c6b1 : (t161 != 0) = false := bne_eq_false_iff_eq.mpr c6
      clear c6
      by_cases c7 : t162 = 91
      · rw [if_pos c7] at H
        have c7b0 : (t162 == 91) = true := beq_iff_eq.mpr c7
        have c7b1 : (t162 != 91) = false := bne_eq_false_iff_eq.mpr c7
        clear c7
        by_cases c8 : t163 = 0
        · rw [if_pos c8] at H
          have c8b0 : (t163 == 0) = true := beq_iff_eq.mpr c8
          have c8b1 : (t163 != 0) = false := bne_eq_false_iff_eq.mpr c8
          clear c8
          by_cases c9 : t164 = 2
          · rw [if_pos c9] at H
            have c9b0 : (t164 == 2) = true := beq_iff_eq.mpr c9
            have c9b1 : (t164 != 2) = false := bne_eq_false_iff_eq.mpr c9
            clear c9
            by_cases c10 : t165 = 0
            · rw [if_pos c10] at H
              have c10b0 : (t165 == 0) = true := beq_iff_eq.mpr c10
              have c10b1 : (t165 != 0) = false := bne_eq_false_iff_eq.mpr c10
              clear c10
              by_cases c11 : t167 = 1
              · rw [if_pos c11] at H
                have c11b0 : (t167 == 1) = true := beq_iff_eq.mpr c11
                have c11b1 : (t167 != 1) = false := bne_eq_false_iff_eq.mpr c11
                clear c11
                replace H := Option.bind_eq_some_iff.mp H
                obtain ⟨t169, A120, H⟩ := H
                replace H : (if t169 = 0 then ((fiscal_Check.f k 0 2).bind fun t170 => (if t170 = 1 then ((fiscal_Days.f k 0 32 0).bind fun t171 => (if t171 = 28 then ((fiscal_Days.f k 0 32 240).bind fun t172 => (some (t172 == 0))) else (none))) else (none))) else (none)) = some r := H
                have A12 := Aside0.mk A120
                clear A120
                by_cases c13 : t169 = 0
                · rw [if_pos c13] at H
                  have c13b0 : (t169 == 0) = true := beq_iff_eq.mpr c13
                  have c13b1 : (t169 != 0) = false := bne_eq_false_iff_eq.mpr c13
                  clear c13
                  replace H := Option.bind_eq_some_iff.mp H
                  obtain ⟨t170, A140, H⟩ := H
                  replace H : (if t170 = 1 then ((fiscal_Days.f k 0 32 0).bind fun t171 => (if t171 = 28 then ((fiscal_Days.f k 0 32 240).bind fun t172 => (some (t172 == 0))) else (none))) else (none)) = some r := H
                  have A14 := Aside0.mk A140
                  clear A140
                  by_cases c15 : t170 = 1
                  · rw [if_pos c15] at H
                    have c15b0 : (t170 == 1) = true := beq_iff_eq.mpr c15
                    have c15b1 : (t170 != 1) = false := bne_eq_false_iff_eq.mpr c15
                    clear c15
                    replace H := Option.bind_eq_some_iff.mp H
                    obtain ⟨t171, A160, H⟩ := H
                    replace H : (if t171 = 28 then ((fiscal_Days.f k 0 32 240).bind fun t172 => (some (t172 == 0))) else (none)) = some r := H
                    have A16 := Aside0.mk A160
                    clear A160
                    by_cases c17 : t171 = 28
                    · rw [if_pos c17] at H
                      have c17b0 : (t171 == 28) = true := beq_iff_eq.mpr c17
                      have c17b1 : (t171 != 28) = false := bne_eq_false_iff_eq.mpr c17
                      clear c17
                      replace H := Option.bind_eq_some_iff.mp H
                      obtain ⟨t172, A180, H⟩ := H
                      replace H : (some (t172 == 0)) = some r := H
                      have A18 := Aside0.mk A180
                      clear A180
                      obtain rfl := Option.some.inj H
                      go_enter Try.func18, Try.ntmps18
                      go_wp2_with (first | ((with_reducible refine gate_dst (N := 1) rfl ?_); refine box_event ?hg (N := 1) ?hd (cs := #[.int .i64 0, .int .i64 0]) (t := 44) ?hr ?_; (case hd => rfl); (case hg => rfl); (case hr => first | (go_simp; done) | (go_simp; rfl)); intro gb159 hg w19 hbox hb; have n0_ := Aside0.mk (below_step (by repeat (first | (with_reducible first | exact HB.out | apply below_alloc | apply pw_below_drewN | apply below_drew1) | exact HB.out)) hb); have n1_ := Aside0.mk (hbox); have n2_ := Aside0.mk ((by rw [hg]; exact (below_size (by repeat (first | (with_reducible first | exact HB.out | apply below_alloc | apply pw_below_drewN | apply below_drew1) | exact HB.out))) : w.heap.size ≤ gb159)); have n3_ := Aside0.mk ((by rw [hg]; exact (below_size (by repeat (first | (with_reducible first | exact HB.out | apply below_alloc | apply pw_below_drewN | apply below_drew1) | exact HB.out))) : w.heap.size ≤ gb159)); clear HB; have HB := n0_; have BK159 := n1_; have GW159 := n2_; have GE159 := n3_; clear n0_ n1_ n2_ n3_; clear hb hbox hg; have hcz20_0 : w19.cell? ⟨gb159, 0, none⟩ = some (.int .i64 0) := (blk_cell BK159.out 0).trans rfl; have hcz20_1 : w19.cell? ⟨gb159, 1, none⟩ = some (.int .i64 0) := (blk_cell BK159.out 1).trans rfl; have hfz20_0 := blk_frozen BK159.out 0; have hfz20_1 := blk_frozen BK159.out 1) | ((with_reducible refine gate_callee (f := 21) rfl ?_); refine goesL_ (some 14) rfl rfl Try.func21 (by kernel_rfl) rfl #[.agg #[.int .i64 1, .int .i64 1], .int .i64 2] rfl (by (try simp only [List.map_toArray, List.map_cons, List.map_nil]); first | done | rfl | (simp only [List.length_drop, List.length_take]; rfl)) ?_; (with_reducible refine (fiscal_First.calls k 1 1 2 t160 t161 _ A1.out).mono ?_); rintro e w21 ⟨rfl, hb⟩; refine ⟨_, rfl, ?_⟩; have n0_ := Aside0.mk (blk_below (g := gb159) (o := .cells #[.int .i64 1, .int .i64 1] 44 (0, 0)) (by (with_reducible repeat (first | refine blk_drewN ?_ _ | refine blk_drew ?_ | refine blk_alloc ?_ _)); refine blk_put (cs := #[.int .i64 1, .int .i64 0]) ?_ 1 _ rfl; (with_reducible repeat (first | refine blk_drewN ?_ _ | refine blk_drew ?_ | refine blk_alloc ?_ _)); refine blk_put (cs := #[.int .i64 0, .int .i64 0]) ?_ 0 _ rfl; (with_reducible repeat (first | refine blk_drewN ?_ _ | refine blk_drew ?_ | refine blk_alloc ?_ _)); exact BK159.out) hb); have n1_ := Aside0.mk (below_step (by repeat (first | (with_reducible first | exact HB.out | apply below_alloc | apply pw_below_drewN | apply below_drew1 | refine below_set ?_ GE159.out) | exact HB.out)) hb); clear BK159; clear HB; have BK159 := n0_; have HB := n1_; clear n0_ n1_; (try clear hb); (try clear hb2); (try clear hk); (try clear hi); have hcz22_0 : w21.cell? ⟨gb159, 0, none⟩ = some (.int .i64 1) := (blk_cell BK159.out 0).trans rfl; have hcz22_1 : w21.cell? ⟨gb159, 1, none⟩ = some (.int .i64 1) := (blk_cell BK159.out 1).trans rfl; have hfz22_0 := blk_frozen BK159.out 0; have hfz22_1 := blk_frozen BK159.out 1) | ((with_reducible refine gate_callee (f := 23) rfl ?_); refine goesL_ (some 19) rfl rfl Try.func23 (by kernel_rfl) rfl #[.agg #[.int .i64 1, .int .i64 1], .int .i64 2] rfl (by (try simp only [List.map_toArray, List.map_cons, List.map_nil]); first | done | rfl | (simp only [List.length_drop, List.length_take]; rfl)) ?_; (with_reducible refine (fiscal_Last.calls k 1 1 2 t162 t163 _ A2.out).mono ?_); rintro e w23 ⟨rfl, hb⟩; refine ⟨_, rfl, ?_⟩; have n0_ := Aside0.mk (blk_below (g := gb159) (o := .cells #[.int .i64 1, .int .i64 1] 44 (0, 0)) (by (with_reducible repeat (first | refine blk_drewN ?_ _ | refine blk_drew ?_ | refine blk_alloc ?_ _)); exact BK159.out) hb); have n1_ := Aside0.mk (below_step (by repeat (first | (with_reducible first | exact HB.out | apply below_alloc | apply pw_below_drewN | apply below_drew1 | refine below_set ?_ GE159.out) | exact HB.out)) hb); clear BK159; clear HB; have BK159 := n0_; have HB := n1_; clear n0_ n1_; (try clear hb); (try clear hb2); (try clear hk); (try clear hi); have hcz24_0 : w23.cell? ⟨gb159, 0, none⟩ = some (.int .i64 1) := (blk_cell BK159.out 0).trans rfl; have hcz24_1 : w23.cell? ⟨gb159, 1, none⟩ = some (.int .i64 1) := (blk_cell BK159.out 1).trans rfl; have hfz24_0 := blk_frozen BK159.out 0; have hfz24_1 := blk_frozen BK159.out 1) | ((with_reducible refine gate_callee (f := 25) rfl ?_); refine goesL_ (some 24) rfl rfl Try.func25 (by kernel_rfl) rfl #[.agg #[.int .i64 1, .int .i64 1], .int .i64 91] rfl (by (try simp only [List.map_toArray, List.map_cons, List.map_nil]); first | done | rfl | (simp only [List.length_drop, List.length_take]; rfl)) ?_; (with_reducible refine (fiscal_Of.calls k 1 1 91 t164 t165 _ A3.out).mono ?_); rintro e w25 ⟨rfl, hb⟩; refine ⟨_, rfl, ?_⟩; have n0_ := Aside0.mk (blk_below (g := gb159) (o := .cells #[.int .i64 1, .int .i64 1] 44 (0, 0)) (by (with_reducible repeat (first | refine blk_drewN ?_ _ | refine blk_drew ?_ | refine blk_alloc ?_ _)); exact BK159.out) hb); have n1_ := Aside0.mk (below_step (by repeat (first | (with_reducible first | exact HB.out | apply below_alloc | apply pw_below_drewN | apply below_drew1 | refine below_set ?_ GE159.out) | exact HB.out)) hb); clear BK159; clear HB; have BK159 := n0_; have HB := n1_; clear n0_ n1_; (try clear hb); (try clear hb2); (try clear hk); (try clear hi); have hcz26_0 : w25.cell? ⟨gb159, 0, none⟩ = some (.int .i64 1) := (blk_cell BK159.out 0).trans rfl; have hcz26_1 : w25.cell? ⟨gb159, 1, none⟩ = some (.int .i64 1) := (blk_cell BK159.out 1).trans rfl; have hfz26_0 := blk_frozen BK159.out 0; have hfz26_1 := blk_frozen BK159.out 1) | ((with_reducible refine gate_callee (f := 25) rfl ?_); refine goesL_ (some 29) rfl rfl Try.func25 (by kernel_rfl) rfl #[.agg #[.int .i64 1, .int .i64 1], .int .i64 0] rfl (by (try simp only [List.map_toArray, List.map_cons, List.map_nil]); first | done | rfl | (simp only [List.length_drop, List.length_take]; rfl)) ?_; (with_reducible refine (fiscal_Of.calls k 1 1 0 t166 t167 _ A4.out).mono ?_); rintro e w27 ⟨rfl, hb⟩; refine ⟨_, rfl, ?_⟩; have n0_ := Aside0.mk (blk_below (g := gb159) (o := .cells #[.int .i64 1, .int .i64 1] 44 (0, 0)) (by (with_reducible repeat (first | refine blk_drewN ?_ _ | refine blk_drew ?_ | refine blk_alloc ?_ _)); exact BK159.out) hb); have n1_ := Aside0.mk (below_step (by repeat (first | (with_reducible first | exact HB.out | apply below_alloc | apply pw_below_drewN | apply below_drew1 | refine below_set ?_ GE159.out) | exact HB.out)) hb); clear BK159; clear HB; have BK159 := n0_; have HB := n1_; clear n0_ n1_; (try clear hb); (try clear hb2); (try clear hk); (try clear hi)) | ((with_reducible refine gate_dst (N := 10) rfl ?_); refine box_event ?hg (N := 10) ?hd (cs := #[.int .i64 0, .int .i64 0]) (t := 44) ?hr ?_; (case hd => rfl); (case hg => rfl); (case hr => first | (go_simp; done) | (go_simp; rfl)); intro gb168 hg w28 hbox hb; have n0_ := Aside0.mk (blk_below (g := gb159) (o := .cells #[.int .i64 1, .int .i64 1] 44 (0, 0)) (by (with_reducible repeat (first | refine blk_drewN ?_ _ | refine blk_drew ?_ | refine blk_alloc ?_ _)); exact BK159.out) hb); have n1_ := Aside0.mk (below_step (by repeat (first | (with_reducible first | exact HB.out | apply below_alloc | apply pw_below_drewN | apply below_drew1 | refine below_set ?_ GE159.out) | exact HB.out)) hb); have n2_ := Aside0.mk (hbox); have n3_ := Aside0.mk ((by rw [hg]; exact (below_size (by repeat (first | (with_reducible first | exact HB.out | apply below_alloc | apply pw_below_drewN | apply below_drew1 | refine below_set ?_ GE159.out) | exact HB.out))) : w.heap.size ≤ gb168)); have n4_ := Aside0.mk ((by rw [hg]; exact (below_size (by repeat (first | (with_reducible first | exact HB.out | apply below_alloc | apply pw_below_drewN | apply below_drew1 | refine below_set ?_ GE159.out) | exact HB.out))) : w.heap.size ≤ gb168)); have n5_ := Aside0.mk ((by rw [hg]; exact Nat.ne_of_lt (blk_lt (g := gb159) (o := .cells #[.int .i64 1, .int .i64 1] 44 (0, 0)) (by (with_reducible repeat (first | refine blk_drewN ?_ _ | refine blk_drew ?_ | refine blk_alloc ?_ _)); exact BK159.out)) : gb159 ≠ gb168)); have n6_ := Aside0.mk ((by rw [hg]; exact Nat.ne_of_gt (blk_lt (g := gb159) (o := .cells #[.int .i64 1, .int .i64 1] 44 (0, 0)) (by (with_reducible repeat (first | refine blk_drewN ?_ _ | refine blk_drew ?_ | refine blk_alloc ?_ _)); exact BK159.out)) : gb168 ≠ gb159)); clear BK159; clear HB; have BK159 := n0_; have HB := n1_; have BK168 := n2_; have GW168 := n3_; have GE168 := n4_; have NB159_168 := n5_; have NB168_159 := n6_; clear n0_ n1_ n2_ n3_ n4_ n5_ n6_; clear hb hbox hg; have hnb29 := NB168_159.out; have hnc29 := NB159_168.out; have hcz30_0 : w28.cell? ⟨gb168, 0, none⟩ = some (.int .i64 0) := (blk_cell BK168.out 0).trans rfl; have hcz30_1 : w28.cell? ⟨gb168, 1, none⟩ = some (.int .i64 0) := (blk_cell BK168.out 1).trans rfl; have hfz30_0 := blk_frozen BK168.out 0; have hfz30_1 := blk_frozen BK168.out 1; have hcz31_0 : w28.cell? ⟨gb159, 0, none⟩ = some (.int .i64 1) := (blk_cell BK159.out 0).trans rfl; have hcz31_1 : w28.cell? ⟨gb159, 1, none⟩ = some (.int .i64 1) := (blk_cell BK159.out 1).trans rfl; have hfz31_0 := blk_frozen BK159.out 0; have hfz31_1 := blk_frozen BK159.out 1) | (go_at_call 19; (with_reducible refine (fiscal_Check.calls k 1 1 t169 _ A12.out).mono ?_); rintro e w32 ⟨rfl, hb⟩; have n0_ := Aside0.mk (blk_below (g := gb159) (o := .cells #[.int .i64 1, .int .i64 1] 44 (0, 0)) (by (with_reducible repeat (first | refine blk_drewN ?_ _ | refine blk_drew ?_ | refine blk_alloc ?_ _)); refine blk_far ?_ NB159_168.out _; (with_reducible repeat (first | refine blk_drewN ?_ _ | refine blk_drew ?_ | refine blk_alloc ?_ _)); refine blk_far ?_ NB159_168.out _; (with_reducible repeat (first | refine blk_drewN ?_ _ | refine blk_drew ?_ | refine blk_alloc ?_ _)); exact BK159.out) hb); have n1_ := Aside0.mk (blk_below (g := gb168) (o := .cells #[.int .i64 0, .int .i64 32] 44 (0, 0)) (by (with_reducible repeat (first | refine blk_drewN ?_ _ | refine blk_drew ?_ | refine blk_alloc ?_ _)); refine blk_put (cs := #[.int .i64 0, .int .i64 0]) ?_ 1 _ rfl; (with_reducible repeat (first | refine blk_drewN ?_ _ | refine blk_drew ?_ | refine blk_alloc ?_ _)); refine blk_put (cs := #[.int .i64 0, .int .i64 0]) ?_ 0 _ rfl; (with_reducible repeat (first | refine blk_drewN ?_ _ | refine blk_drew ?_ | refine blk_alloc ?_ _)); exact BK168.out) hb); have n2_ := Aside0.mk (below_step (by repeat (first | (with_reducible first | exact HB.out | apply below_alloc | apply pw_below_drewN | apply below_drew1 | refine below_set ?_ GE159.out | refine below_set ?_ GE168.out) | exact HB.out)) hb); clear BK159; clear BK168; clear HB; have BK159 := n0_; have BK168 := n1_; have HB := n2_; clear n0_ n1_ n2_; (try clear hb); (try clear hb2); (try clear hk); (try clear hi)) | (go_at_call 19; (with_reducible refine (fiscal_Check.calls k 0 2 t170 _ A14.out).mono ?_); rintro e w33 ⟨rfl, hb⟩; have n0_ := Aside0.mk (blk_below (g := gb159) (o := .cells #[.int .i64 1, .int .i64 1] 44 (0, 0)) (by (with_reducible repeat (first | refine blk_drewN ?_ _ | refine blk_drew ?_ | refine blk_alloc ?_ _)); exact BK159.out) hb); have n1_ := Aside0.mk (blk_below (g := gb168) (o := .cells #[.int .i64 0, .int .i64 32] 44 (0, 0)) (by (with_reducible repeat (first | refine blk_drewN ?_ _ | refine blk_drew ?_ | refine blk_alloc ?_ _)); exact BK168.out) hb); have n2_ := Aside0.mk (below_step (by repeat (first | (with_reducible first | exact HB.out | apply below_alloc | apply pw_below_drewN | apply below_drew1 | refine below_set ?_ GE159.out | refine below_set ?_ GE168.out) | exact HB.out)) hb); clear BK159; clear BK168; clear HB; have BK159 := n0_; have BK168 := n1_; have HB := n2_; clear n0_ n1_ n2_; (try clear hb); (try clear hb2); (try clear hk); (try clear hi); have hcz34_0 : w33.cell? ⟨gb168, 0, none⟩ = some (.int .i64 0) := (blk_cell BK168.out 0).trans rfl; have hcz34_1 : w33.cell? ⟨gb168, 1, none⟩ = some (.int .i64 32) := (blk_cell BK168.out 1).trans rfl; have hfz34_0 := blk_frozen BK168.out 0; have hfz34_1 := blk_frozen BK168.out 1) | (go_at_call 27; (with_reducible refine (fiscal_Days.calls k 0 32 0 t171 _ A16.out).mono ?_); rintro e w35 ⟨rfl, hb⟩; have n0_ := Aside0.mk (blk_below (g := gb159) (o := .cells #[.int .i64 1, .int .i64 1] 44 (0, 0)) (by (with_reducible repeat (first | refine blk_drewN ?_ _ | refine blk_drew ?_ | refine blk_alloc ?_ _)); exact BK159.out) hb); have n1_ := Aside0.mk (blk_below (g := gb168) (o := .cells #[.int .i64 0, .int .i64 32] 44 (0, 0)) (by (with_reducible repeat (first | refine blk_drewN ?_ _ | refine blk_drew ?_ | refine blk_alloc ?_ _)); exact BK168.out) hb); have n2_ := Aside0.mk (below_step (by repeat (first | (with_reducible first | exact HB.out | apply below_alloc | apply pw_below_drewN | apply below_drew1 | refine below_set ?_ GE159.out | refine below_set ?_ GE168.out) | exact HB.out)) hb); clear BK159; clear BK168; clear HB; have BK159 := n0_; have BK168 := n1_; have HB := n2_; clear n0_ n1_ n2_; (try clear hb); (try clear hb2); (try clear hk); (try clear hi); have hcz36_0 : w35.cell? ⟨gb168, 0, none⟩ = some (.int .i64 0) := (blk_cell BK168.out 0).trans rfl; have hcz36_1 : w35.cell? ⟨gb168, 1, none⟩ = some (.int .i64 32) := (blk_cell BK168.out 1).trans rfl; have hfz36_0 := blk_frozen BK168.out 0; have hfz36_1 := blk_frozen BK168.out 1) | (go_at_call 27; (with_reducible refine (fiscal_Days.calls k 0 32 240 t172 _ A18.out).mono ?_); rintro e w37 ⟨rfl, hb⟩; have n0_ := Aside0.mk (blk_below (g := gb159) (o := .cells #[.int .i64 1, .int .i64 1] 44 (0, 0)) (by (with_reducible repeat (first | refine blk_drewN ?_ _ | refine blk_drew ?_ | refine blk_alloc ?_ _)); exact BK159.out) hb); have n1_ := Aside0.mk (blk_below (g := gb168) (o := .cells #[.int .i64 0, .int .i64 32] 44 (0, 0)) (by (with_reducible repeat (first | refine blk_drewN ?_ _ | refine blk_drew ?_ | refine blk_alloc ?_ _)); exact BK168.out) hb); have n2_ := Aside0.mk (below_step (by repeat (first | (with_reducible first | exact HB.out | apply below_alloc | apply pw_below_drewN | apply below_drew1 | refine below_set ?_ GE159.out | refine below_set ?_ GE168.out) | exact HB.out)) hb); clear BK159; clear BK168; clear HB; have BK159 := n0_; have BK168 := n1_; have HB := n2_; clear n0_ n1_ n2_; (try clear hb); (try clear hb2); (try clear hk); (try clear hi)))
                      go_ret
                      exact ⟨by first | rfl | (simp [errW_none, errW_some] <;> rfl) | (simp [*, errW_none, errW_some] <;> rfl), by repeat (first | (with_reducible first | exact HB.out | apply below_alloc | apply pw_below_drewN | apply below_drew1 | refine below_set ?_ GE159.out | refine below_set ?_ GE168.out) | exact HB.out)⟩
                    · rw [if_neg c17] at H; cases H
                  · rw [if_neg c15] at H; cases H
                · rw [if_neg c13] at H; cases H
              · rw [if_neg c11] at H; cases H
            · rw [if_neg c10] at H; cases H
          · rw [if_neg c9] at H; cases H
        · rw [if_neg c8] at H; cases H
      · rw [if_neg c7] at H; cases H
    · rw [if_neg c6] at H; cases H
  · rw [if_neg c5] at H; cases H
end Go.Proofs.Ytkfbmplhcigopab.PFis
