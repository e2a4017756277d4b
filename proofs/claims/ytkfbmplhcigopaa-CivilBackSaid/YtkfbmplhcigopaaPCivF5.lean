-- out of the print of PCiv: quitrentlaw03_CivilBack
import Derived.Test.YtkfbmplhcigopaaPCivx0
import Derived.Test.YtkfbmplhcigopaaPCivx1
import Derived.Test.YtkfbmplhcigopaaPCivF14
import Derived.Test.YtkfbmplhcigopaaPCivF15
import Derived.Test.YtkfbmplhcigopaaPCivF17
import Derived.Test.YtkfbmplhcigopaaPCivF21
namespace Go.Proofs.Ytkfbmplhcigopaa.PCiv
open Go.RowKit Go.Proofs.YtkfbmplhcigopaaW.PrintWords Go.Proofs.YtkfbmplhcigopaaW.PrintLast Go.Proofs.YtkfbmplhcigopaaW.PrintMore
attribute [local go_sem] max2_int min2_int max_two min_two max_three min_three max_four min_four   -- for this text's walks alone
set_option linter.unusedVariables false
set_option linter.unusedSimpArgs false

/-! ### quitrentlaw03_CivilBack: function 5 -/
mutual
def quitrentlaw03_CivilBack.j1 : Nat → Int → Int → Int → Option (Bool)
  | 0, _, _, _ => none
  | k + 1, x1, x2, x3 => (civil_Days.f k x1 x2 x3).bind fun bt197 => (if bt197.2 = 0 then ((civil_Date.f bt197.1).bind fun bt199 => (if bt199.2.2.2 = 0 then (if bt199.1 = x1 then (if bt199.2.1 = x2 then (some (bt199.2.2.1 == x3)) else (some false)) else (some false)) else (some false))) else (some (bt197.1 == 0)))
def quitrentlaw03_CivilBack.j0 : Nat → Int → Int → Int → Int → Int → Int → Int → Bool → Option (Bool)
  | 0, _, _, _, _, _, _, _, _ => none
  | k + 1, x0, x1, x2, x3, x9, x10, x11, x62 => if x62 = true then (some false) else ((civil_Date.f (wrap64 (x0 + 1))).bind fun bt190 => (if bt190.2.2.2 = 0 then (if bt190.1 = x9 then (if bt190.2.1 = x10 then ((civil_Long.f k x9 x10).bind fun t194 => (if x11 = t194 then (if bt190.2.2.1 = 1 then (if bt190.2.1 = (wrap64 (x10 + 1)) then (if (bt190.2.2.1 = (wrap64 (x11 + 1))) then (quitrentlaw03_CivilBack.j1 k x1 x2 x3) else (quitrentlaw03_CivilBack.j1 k x1 x2 x3)) else (if bt190.1 = (wrap64 (x9 + 1)) then (if x10 = 12 then (if (bt190.2.2.1 = (wrap64 (x11 + 1))) then (quitrentlaw03_CivilBack.j1 k x1 x2 x3) else (if bt190.2.1 = 1 then (quitrentlaw03_CivilBack.j1 k x1 x2 x3) else (some false))) else (if (bt190.2.2.1 = (wrap64 (x11 + 1))) then (quitrentlaw03_CivilBack.j1 k x1 x2 x3) else (some false))) else (if (bt190.2.2.1 = (wrap64 (x11 + 1))) then (quitrentlaw03_CivilBack.j1 k x1 x2 x3) else (some false)))) else (if (bt190.2.2.1 = (wrap64 (x11 + 1))) then (quitrentlaw03_CivilBack.j1 k x1 x2 x3) else (some false))) else (if (bt190.2.2.1 = (wrap64 (x11 + 1))) then (quitrentlaw03_CivilBack.j1 k x1 x2 x3) else (some false)))) else ((civil_Long.f k x9 x10).bind fun t195 => (if x11 = t195 then (if bt190.2.2.1 = 1 then (if bt190.2.1 = (wrap64 (x10 + 1)) then (quitrentlaw03_CivilBack.j1 k x1 x2 x3) else (if bt190.1 = (wrap64 (x9 + 1)) then (if x10 = 12 then (if bt190.2.1 = 1 then (quitrentlaw03_CivilBack.j1 k x1 x2 x3) else (some false)) else (some false)) else (some false))) else (some false)) else (some false)))) else ((civil_Long.f k x9 x10).bind fun t196 => (if x11 = t196 then (if bt190.2.2.1 = 1 then (if bt190.1 = (wrap64 (x9 + 1)) then (if x10 = 12 then (if bt190.2.1 = 1 then (quitrentlaw03_CivilBack.j1 k x1 x2 x3) else (some false)) else (some false)) else (some false)) else (some false)) else (some false)))) else (quitrentlaw03_CivilBack.j1 k x1 x2 x3)))
end
def quitrentlaw03_CivilBack.f (k : Nat) (a0 : Int) (a1 : Int) (a2 : Int) (a3 : Int) : Option (Bool) := (quitrentlaw03_awake.f k).bind fun t182 => (if t182 = true then ((civil_Date.f a0).bind fun bt183 => (if bt183.2.2.2 = 0 then ((civil_Days.f k bt183.1 bt183.2.1 bt183.2.2.1).bind fun bt187 => (if bt187.1 = a0 then (if bt187.2 = 0 then (if bt183.2.2.1 < 1 then (quitrentlaw03_CivilBack.j0 k a0 a1 a2 a3 bt183.1 bt183.2.1 bt183.2.2.1 true) else ((civil_Long.f k bt183.1 bt183.2.1).bind fun t189 => (quitrentlaw03_CivilBack.j0 k a0 a1 a2 a3 bt183.1 bt183.2.1 bt183.2.2.1 (decide (bt183.2.2.1 > t189))))) else (quitrentlaw03_CivilBack.j0 k a0 a1 a2 a3 bt183.1 bt183.2.1 bt183.2.2.1 true)) else (quitrentlaw03_CivilBack.j0 k a0 a1 a2 a3 bt183.1 bt183.2.1 bt183.2.2.1 true))) else (quitrentlaw03_CivilBack.j1 k a1 a2 a3))) else (some false))
theorem quitrentlaw03_CivilBack.mono_l : ∀ k, (∀ y0 y1 y2, LeO (quitrentlaw03_CivilBack.j1 k y0 y1 y2) (quitrentlaw03_CivilBack.j1 (k + 1) y0 y1 y2)) ∧ (∀ y0 y1 y2 y3 y4 y5 y6 y7, LeO (quitrentlaw03_CivilBack.j0 k y0 y1 y2 y3 y4 y5 y6 y7) (quitrentlaw03_CivilBack.j0 (k + 1) y0 y1 y2 y3 y4 y5 y6 y7))
  | 0 => ⟨fun _ _ _ r h => by simp [quitrentlaw03_CivilBack.j1] at h, fun _ _ _ _ _ _ _ _ r h => by simp [quitrentlaw03_CivilBack.j0] at h⟩
  | k + 1 => by
    obtain ⟨ih0, ih1⟩ := quitrentlaw03_CivilBack.mono_l k
    refine ⟨?_, ?_⟩
    · intro y0 y1 y2
      unfold quitrentlaw03_CivilBack.j1
      repeat' first
      | (with_reducible exact ih0 _ _ _)
      | (with_reducible exact ih1 _ _ _ _ _ _ _ _)
      | (with_reducible exact civil_Days.mono _ _ _ _)
      | (with_reducible exact civil_Long.mono _ _ _)
      | (with_reducible exact quitrentlaw03_awake.mono _)
      | (with_reducible exact LeO.refl _)
      | (with_reducible exact LeO.none _)
      | (with_reducible refine LeO.ite ?_ ?_)
      | (with_reducible refine LeO.bind ?_ (fun _ => ?_))
      | exact ih0 _ _ _
      | exact ih1 _ _ _ _ _ _ _ _
      | exact civil_Days.mono _ _ _ _
      | exact civil_Long.mono _ _ _
      | exact quitrentlaw03_awake.mono _
      | exact LeO.none _
      | refine LeO.ite ?_ ?_
      | refine LeO.bind ?_ (fun _ => ?_)
    · intro y0 y1 y2 y3 y4 y5 y6 y7
      unfold quitrentlaw03_CivilBack.j0
      repeat' first
      | (with_reducible exact ih0 _ _ _)
      | (with_reducible exact ih1 _ _ _ _ _ _ _ _)
      | (with_reducible exact civil_Days.mono _ _ _ _)
      | (with_reducible exact civil_Long.mono _ _ _)
      | (with_reducible exact quitrentlaw03_awake.mono _)
      | (with_reducible exact LeO.refl _)
      | (with_reducible exact LeO.none _)
      | (with_reducible refine LeO.ite ?_ ?_)
      | (with_reducible refine LeO.bind ?_ (fun _ => ?_))
      | exact ih0 _ _ _
      | exact ih1 _ _ _ _ _ _ _ _
      | exact civil_Days.mono _ _ _ _
      | exact civil_Long.mono _ _ _
      | exact quitrentlaw03_awake.mono _
      | exact LeO.none _
      | refine LeO.ite ?_ ?_
      | refine LeO.bind ?_ (fun _ => ?_)
theorem quitrentlaw03_CivilBack.mono : ∀ a0 a1 a2 a3 k, LeO (quitrentlaw03_CivilBack.f k a0 a1 a2 a3) (quitrentlaw03_CivilBack.f (k + 1) a0 a1 a2 a3) := by
  intro a0 a1 a2 a3 k
  obtain ⟨ih0, ih1⟩ := quitrentlaw03_CivilBack.mono_l k
  unfold quitrentlaw03_CivilBack.f
  repeat' first
      | (with_reducible exact ih0 _ _ _)
      | (with_reducible exact ih1 _ _ _ _ _ _ _ _)
      | (with_reducible exact civil_Days.mono _ _ _ _)
      | (with_reducible exact civil_Long.mono _ _ _)
      | (with_reducible exact quitrentlaw03_awake.mono _)
      | (with_reducible exact LeO.refl _)
      | (with_reducible exact LeO.none _)
      | (with_reducible refine LeO.ite ?_ ?_)
      | (with_reducible refine LeO.bind ?_ (fun _ => ?_))
      | exact ih0 _ _ _
      | exact ih1 _ _ _ _ _ _ _ _
      | exact civil_Days.mono _ _ _ _
      | exact civil_Long.mono _ _ _
      | exact quitrentlaw03_awake.mono _
      | exact LeO.none _
      | refine LeO.ite ?_ ?_
      | refine LeO.bind ?_ (fun _ => ?_)
set_option maxHeartbeats 8000000 in
set_option maxRecDepth 100000 in
theorem quitrentlaw03_CivilBack.calls (k : Nat) (a0 : Int) (a1 : Int) (a2 : Int) (a3 : Int) (r : Bool) (w : World) (h : quitrentlaw03_CivilBack.f k a0 a1 a2 a3 = some r) :
    Calls Try.prog 5 #[.int .i64 a0, .int .i64 a1, .int .i64 a2, .int .i64 a3] w fun e w' => e = .returned (.bool r) ∧ Below w.heap.size w w' := by
  have HB := Aside0.mk (Below.refl w.heap.size w)
  have H : ((quitrentlaw03_awake.f k).bind fun t182 => (if t182 = true then ((civil_Date.f a0).bind fun bt183 => (if bt183.2.2.2 = 0 then ((civil_Days.f k bt183.1 bt183.2.1 bt183.2.2.1).bind fun bt187 => (if bt187.1 = a0 then (if bt187.2 = 0 then (if bt183.2.2.1 < 1 then (quitrentlaw03_CivilBack.j0 k a0 a1 a2 a3 bt183.1 bt183.2.1 bt183.2.2.1 true) else ((civil_Long.f k bt183.1 bt183.2.1).bind fun t189 => (quitrentlaw03_CivilBack.j0 k a0 a1 a2 a3 bt183.1 bt183.2.1 bt183.2.2.1 (decide (bt183.2.2.1 > t189))))) else (quitrentlaw03_CivilBack.j0 k a0 a1 a2 a3 bt183.1 bt183.2.1 bt183.2.2.1 true)) else (quitrentlaw03_CivilBack.j0 k a0 a1 a2 a3 bt183.1 bt183.2.1 bt183.2.2.1 true))) else (quitrentlaw03_CivilBack.j1 k a1 a2 a3))) else (some false))) = some r := h
  clear h
  replace H := Option.bind_eq_some_iff.mp H
  obtain ⟨t182, A50, H⟩ := H
  replace H : (if t182 = true then ((civil_Date.f a0).bind fun bt183 => (if bt183.2.2.2 = 0 then ((civil_Days.f k bt183.1 bt183.2.1 bt183.2.2.1).bind fun bt187 => (if bt187.1 = a0 then (if bt187.2 = 0 then (if bt183.2.2.1 < 1 then (quitrentlaw03_CivilBack.j0 k a0 a1 a2 a3 bt183.1 bt183.2.1 bt183.2.2.1 true) else ((civil_Long.f k bt183.1 bt183.2.1).bind fun t189 => (quitrentlaw03_CivilBack.j0 k a0 a1 a2 a3 bt183.1 bt183.2.1 bt183.2.2.1 (decide (bt183.2.2.1 > t189))))) else (quitrentlaw03_CivilBack.j0 k a0 a1 a2 a3 bt183.1 bt183.2.1 bt183.2.2.1 true)) else (quitrentlaw03_CivilBack.j0 k a0 a1 a2 a3 bt183.1 bt183.2.1 bt183.2.2.1 true))) else (quitrentlaw03_CivilBack.j1 k a1 a2 a3))) else (some false)) = some r := H
  have A5 := Aside0.mk A50
  clear A50
  by_cases c6 : t182 = true
  · subst c6
    have H1 : ((civil_Date.f a0).bind fun bt183 => (if bt183.2.2.2 = 0 then ((civil_Days.f k bt183.1 bt183.2.1 bt183.2.2.1).bind fun bt187 => (if bt187.1 = a0 then (if bt187.2 = 0 then (if bt183.2.2.1 < 1 then (quitrentlaw03_CivilBack.j0 k a0 a1 a2 a3 bt183.1 bt183.2.1 bt183.2.2.1 true) else ((civil_Long.f k bt183.1 bt183.2.1).bind fun t189 => (quitrentlaw03_CivilBack.j0 k a0 a1 a2 a3 bt183.1 bt183.2.1 bt183.2.2.1 (decide (bt183.2.2.1 > t189))))) else (quitrentlaw03_CivilBack.j0 k a0 a1 a2 a3 bt183.1 bt183.2.1 bt183.2.2.1 true)) else (quitrentlaw03_CivilBack.j0 k a0 a1 a2 a3 bt183.1 bt183.2.1 bt183.2.2.1 true))) else (quitrentlaw03_CivilBack.j1 k a1 a2 a3))) = some r := by rw [if_pos rfl] at H; exact H
    clear H
    have H := H1
    clear H1
    replace H := Option.bind_eq_some_iff.mp H
    obtain ⟨⟨t183, t184, t185, t186⟩, A70, H⟩ := H
    replace H : (if t186 = 0 then ((civil_Days.f k t183 t184 t185).bind fun bt187 => (if bt187.1 = a0 then (if bt187.2 = 0 then (if t185 < 1 then (quitrentlaw03_CivilBack.j0 k a0 a1 a2 a3 t183 t184 t185 true) else ((civil_Long.f k t183 t184).bind fun t189 => (quitrentlaw03_CivilBack.j0 k a0 a1 a2 a3 t183 t184 t185 (decide (t185 > t189))))) else (quitrentlaw03_CivilBack.j0 k a0 a1 a2 a3 t183 t184 t185 true)) else (quitrentlaw03_CivilBack.j0 k a0 a1 a2 a3 t183 t184 t185 true))) else (quitrentlaw03_CivilBack.j1 k a1 a2 a3)) = some r := H
    have A7 := Aside0.mk A70
    clear A70
    have HC8 := Aside0.mk H
    clear H
    go_enter Try.func5, Try.ntmps5
    go_upto_if 37 with (first | ((with_reducible refine gate_callee (f := 14) rfl ?_); refine goesL_ (some 27) rfl rfl Try.func14 (by kernel_rfl) rfl #[] rfl (by (try simp only [List.map_toArray, List.map_cons, List.map_nil]); first | done | rfl | (simp only [List.length_drop, List.length_take]; rfl)) ?_; (with_reducible refine (quitrentlaw03_awake.calls k  true _ A5.out).mono ?_); rintro e w9 ⟨rfl, hb⟩; refine ⟨_, rfl, ?_⟩; have n0_ := Aside0.mk (below_step (by repeat (first | (with_reducible first | exact HB.out | apply below_alloc | apply pw_below_drewN | apply below_drew1) | exact HB.out)) hb); clear HB; have HB := n0_; clear n0_; (try clear hb); (try clear hb2); (try clear hk); (try clear hi)) | ((with_reducible refine gate_callee (f := 17) rfl ?_); refine goesL_ (some 31) rfl rfl Try.func17 (by kernel_rfl) rfl #[.int .i64 a0] rfl (by (try simp only [List.map_toArray, List.map_cons, List.map_nil]); first | done | rfl | (simp only [List.length_drop, List.length_take]; rfl)) ?_; (with_reducible refine (civil_Date.calls a0 t183 t184 t185 t186 _ A7.out).mono ?_); rintro e w10 ⟨rfl, hb⟩; refine ⟨_, rfl, ?_⟩; have n0_ := Aside0.mk (below_step (by repeat (first | (with_reducible first | exact HB.out | apply below_alloc | apply pw_below_drewN | apply below_drew1) | exact HB.out)) hb); clear HB; have HB := n0_; clear n0_; (try clear hb); (try clear hb2); (try clear hk); (try clear hi)))
    (try simp only [Act.put, List.setIfInBounds_toArray, List.set_cons_zero, List.set_cons_succ])
    go_cut [] (fun wc => ∃ (kq : Nat), Aside0 (quitrentlaw03_CivilBack.j1 kq a1 a2 a3 = some r) ∧ Aside0 (kq ≤ k) ∧ Aside0 (Below w.heap.size w wc))
    case first =>
      have H := HC8.out
      clear HC8
      by_cases c11 : t186 = 0
      · rw [if_pos c11] at H
        have c11b0 : (t186 == 0) = true := beq_iff_eq.mpr c11
        have c11b1 : (t186 != 0) = false := bne_eq_false_iff_eq.mpr c11
        clear c11
        (first | rw [c11b0] | (simp only [i64_w, i32_w]; rw [c11b0]) | skip)
        replace H := Option.bind_eq_some_iff.mp H
        obtain ⟨⟨t187, t188⟩, A120, H⟩ := H
        replace H : (if t187 = a0 then (if t188 = 0 then (if t185 < 1 then (quitrentlaw03_CivilBack.j0 k a0 a1 a2 a3 t183 t184 t185 true) else ((civil_Long.f k t183 t184).bind fun t189 => (quitrentlaw03_CivilBack.j0 k a0 a1 a2 a3 t183 t184 t185 (decide (t185 > t189))))) else (quitrentlaw03_CivilBack.j0 k a0 a1 a2 a3 t183 t184 t185 true)) else (quitrentlaw03_CivilBack.j0 k a0 a1 a2 a3 t183 t184 t185 true)) = some r := H
        have A12 := Aside0.mk A120
        clear A120
        have HC13 := Aside0.mk H
        clear H
        go_upto_region 6 with (first | ((with_reducible refine gate_callee (f := 15) rfl ?_); refine goesL_ (some 42) rfl rfl Try.func15 (by kernel_rfl) rfl #[.int .i64 t183, .int .i64 t184, .int .i64 t185] rfl (by (try simp only [List.map_toArray, List.map_cons, List.map_nil]); first | done | rfl | (simp only [List.length_drop, List.length_take]; rfl)) ?_; (with_reducible refine (civil_Days.calls k t183 t184 t185 t187 t188 _ A12.out).mono ?_); rintro e w14 ⟨rfl, hb⟩; refine ⟨_, rfl, ?_⟩; have n0_ := Aside0.mk (below_step (by repeat (first | (with_reducible first | exact HB.out | apply below_alloc | apply pw_below_drewN | apply below_drew1) | exact HB.out)) hb); clear HB; have HB := n0_; clear n0_; (try clear hb); (try clear hb2); (try clear hk); (try clear hi)))
        (try simp only [Act.put, List.setIfInBounds_toArray, List.set_cons_zero, List.set_cons_succ])
        go_cut [62] (fun v62 wc => ∃ (kq : Nat) (x62_12 : Bool), v62 = .bool x62_12 ∧ Aside0 (quitrentlaw03_CivilBack.j0 kq a0 a1 a2 a3 t183 t184 t185 x62_12 = some r) ∧ Aside0 (kq ≤ k) ∧ Aside0 (Below w.heap.size w wc))
        case first =>
          have H := HC13.out
          clear HC13
          by_cases c15 : t187 = a0
          · rw [if_pos c15] at H
            have c15b0 : (t187 == a0) = true := beq_iff_eq.mpr c15
            have c15b1 : (t187 != a0) = false := bne_eq_false_iff_eq.mpr c15
            clear c15
            (first | rw [c15b0] | (simp only [i64_w, i32_w]; rw [c15b0]) | skip)
            by_cases c16 : t188 = 0
            · rw [if_pos c16] at H
              have c16b0 : (t188 == 0) = true := beq_iff_eq.mpr c16
              have c16b1 : (t188 != 0) = false := bne_eq_false_iff_eq.mpr c16
              clear c16
              by_cases c17 : t185 < 1
              · rw [if_pos c17] at H
                have c17b0 : decide (t185 < 1) = true := decide_eq_true c17
                clear c17
                have H' := Aside0.mk H
                clear H
                go_wp2
                go_meet
                case rel => exact ⟨_, (true), (by first | rfl | (simp; done) | (simp [*]; done)), H', ⟨by first | omega | exact Nat.le_refl _⟩, ⟨by repeat (first | (with_reducible first | exact HB.out | apply below_alloc | apply pw_below_drewN | apply below_drew1) | exact HB.out)⟩⟩
              · rw [if_neg c17] at H
                have c17b0 : decide (t185 < 1) = false := decide_eq_false c17
                clear c17
                replace H := Option.bind_eq_some_iff.mp H
                obtain ⟨t189, A180, H⟩ := H
                replace H : (quitrentlaw03_CivilBack.j0 k a0 a1 a2 a3 t183 t184 t185 (decide (t185 > t189))) = some r := H
                have A18 := Aside0.mk A180
                clear A180
                have H' := Aside0.mk H
                clear H
                go_wp2_with (first | (go_at_call 21; (with_reducible refine (civil_Long.calls k t183 t184 t189 _ A18.out).mono ?_); rintro e w' ⟨rfl, ⟨nd, rfl⟩⟩))
                go_meet
                case rel => exact ⟨_, (decide (t185 > t189)), (by first | rfl | (simp; done) | (simp [*]; done)), H', ⟨by first | omega | exact Nat.le_refl _⟩, ⟨by repeat (first | (with_reducible first | exact HB.out | apply below_alloc | apply pw_below_drewN | apply below_drew1) | exact HB.out)⟩⟩
            · rw [if_neg c16] at H
              have c16b0 : (t188 == 0) = false := beq_eq_false_iff_ne.mpr c16
              have c16b1 : (t188 != 0) = true := bne_iff_ne.mpr c16
              have H' := Aside0.mk H
              clear H
              go_wp2
              go_meet
              case rel => exact ⟨_, (true), (by first | rfl | (simp; done) | (simp [*]; done)), H', ⟨by first | omega | exact Nat.le_refl _⟩, ⟨by repeat (first | (with_reducible first | exact HB.out | apply below_alloc | apply pw_below_drewN | apply below_drew1) | exact HB.out)⟩⟩
          · rw [if_neg c15] at H
            have c15b0 : (t187 == a0) = false := beq_eq_false_iff_ne.mpr c15
            have c15b1 : (t187 != a0) = true := bne_iff_ne.mpr c15
            (first | rw [c15b0] | (simp only [i64_w, i32_w]; rw [c15b0]) | skip)
            have H' := Aside0.mk H
            clear H
            go_wp2
            go_meet
            case rel => exact ⟨_, (true), (by first | rfl | (simp; done) | (simp [*]; done)), H', ⟨by first | omega | exact Nat.le_refl _⟩, ⟨by repeat (first | (with_reducible first | exact HB.out | apply below_alloc | apply pw_below_drewN | apply below_drew1) | exact HB.out)⟩⟩
        case rest =>
          clear HC13
          try clear c1
          try clear p2
          try clear c5
          try clear c6
          try clear c11
          try clear c11b0
          try clear c11b1
          try clear c14
          try clear c15
          try clear c15b0
          try clear c15b1
          try clear c16
          try clear c16b0
          try clear c16b1
          try clear c17
          try clear c17b0
          obtain ⟨kq, x62_12, rfl, HA, HJ12, HB⟩ := hcut
          cases kq with
          | zero => exact absurd HA.out (by simp [quitrentlaw03_CivilBack.j0])
          | succ kj12 =>
            have H := HA.out
            clear HA
            simp only [quitrentlaw03_CivilBack.j0] at H
            by_cases c19 : x62_12 = true
            · subst c19
              have H1 : (some false) = some r := by rw [if_pos rfl] at H; exact H
              clear H
              have H := H1
              clear H1
              obtain rfl := Option.some.inj H
              go_wp2
              go_ret
              exact ⟨by first | rfl | (simp [errW_none, errW_some] <;> rfl) | (simp [*, errW_none, errW_some] <;> rfl), by repeat (first | (with_reducible first | exact HB.out | apply below_alloc | apply pw_below_drewN | apply below_drew1) | exact HB.out)⟩
            · replace c19 := Bool.eq_false_iff.mpr c19
              subst c19
              have H1 : ((civil_Date.f (wrap64 (a0 + 1))).bind fun bt190 => (if bt190.2.2.2 = 0 then (if bt190.1 = t183 then (if bt190.2.1 = t184 then ((civil_Long.f kj12 t183 t184).bind fun t194 => (if t185 = t194 then (if bt190.2.2.1 = 1 then (if bt190.2.1 = (wrap64 (t184 + 1)) then (if (bt190.2.2.1 = (wrap64 (t185 + 1))) then (quitrentlaw03_CivilBack.j1 kj12 a1 a2 a3) else (quitrentlaw03_CivilBack.j1 kj12 a1 a2 a3)) else (if bt190.1 = (wrap64 (t183 + 1)) then (if t184 = 12 then (if (bt190.2.2.1 = (wrap64 (t185 + 1))) then (quitrentlaw03_CivilBack.j1 kj12 a1 a2 a3) else (if bt190.2.1 = 1 then (quitrentlaw03_CivilBack.j1 kj12 a1 a2 a3) else (some false))) else (if (bt190.2.2.1 = (wrap64 (t185 + 1))) then (quitrentlaw03_CivilBack.j1 kj12 a1 a2 a3) else (some false))) else (if (bt190.2.2.1 = (wrap64 (t185 + 1))) then (quitrentlaw03_CivilBack.j1 kj12 a1 a2 a3) else (some false)))) else (if (bt190.2.2.1 = (wrap64 (t185 + 1))) then (quitrentlaw03_CivilBack.j1 kj12 a1 a2 a3) else (some false))) else (if (bt190.2.2.1 = (wrap64 (t185 + 1))) then (quitrentlaw03_CivilBack.j1 kj12 a1 a2 a3) else (some false)))) else ((civil_Long.f kj12 t183 t184).bind fun t195 => (if t185 = t195 then (if bt190.2.2.1 = 1 then (if bt190.2.1 = (wrap64 (t184 + 1)) then (quitrentlaw03_CivilBack.j1 kj12 a1 a2 a3) else (if bt190.1 = (wrap64 (t183 + 1)) then (if t184 = 12 then (if bt190.2.1 = 1 then (quitrentlaw03_CivilBack.j1 kj12 a1 a2 a3) else (some false)) else (some false)) else (some false))) else (some false)) else (some false)))) else ((civil_Long.f kj12 t183 t184).bind fun t196 => (if t185 = t196 then (if bt190.2.2.1 = 1 then (if bt190.1 = (wrap64 (t183 + 1)) then (if t184 = 12 then (if bt190.2.1 = 1 then (quitrentlaw03_CivilBack.j1 kj12 a1 a2 a3) else (some false)) else (some false)) else (some false)) else (some false)) else (some false)))) else (quitrentlaw03_CivilBack.j1 kj12 a1 a2 a3))) = some r := by rw [if_neg (show ¬ (false = true) by decide)] at H; exact H
              clear H
              have H := H1
              clear H1
              replace H := Option.bind_eq_some_iff.mp H
              obtain ⟨⟨t190, t191, t192, t193⟩, A200, H⟩ := H
              replace H : (if t193 = 0 then (if t190 = t183 then (if t191 = t184 then ((civil_Long.f kj12 t183 t184).bind fun t194 => (if t185 = t194 then (if t192 = 1 then (if t191 = (wrap64 (t184 + 1)) then (if (t192 = (wrap64 (t185 + 1))) then (quitrentlaw03_CivilBack.j1 kj12 a1 a2 a3) else (quitrentlaw03_CivilBack.j1 kj12 a1 a2 a3)) else (if t190 = (wrap64 (t183 + 1)) then (if t184 = 12 then (if (t192 = (wrap64 (t185 + 1))) then (quitrentlaw03_CivilBack.j1 kj12 a1 a2 a3) else (if t191 = 1 then (quitrentlaw03_CivilBack.j1 kj12 a1 a2 a3) else (some false))) else (if (t192 = (wrap64 (t185 + 1))) then (quitrentlaw03_CivilBack.j1 kj12 a1 a2 a3) else (some false))) else (if (t192 = (wrap64 (t185 + 1))) then (quitrentlaw03_CivilBack.j1 kj12 a1 a2 a3) else (some false)))) else (if (t192 = (wrap64 (t185 + 1))) then (quitrentlaw03_CivilBack.j1 kj12 a1 a2 a3) else (some false))) else (if (t192 = (wrap64 (t185 + 1))) then (quitrentlaw03_CivilBack.j1 kj12 a1 a2 a3) else (some false)))) else ((civil_Long.f kj12 t183 t184).bind fun t195 => (if t185 = t195 then (if t192 = 1 then (if t191 = (wrap64 (t184 + 1)) then (quitrentlaw03_CivilBack.j1 kj12 a1 a2 a3) else (if t190 = (wrap64 (t183 + 1)) then (if t184 = 12 then (if t191 = 1 then (quitrentlaw03_CivilBack.j1 kj12 a1 a2 a3) else (some false)) else (some false)) else (some false))) else (some false)) else (some false)))) else ((civil_Long.f kj12 t183 t184).bind fun t196 => (if t185 = t196 then (if t192 = 1 then (if t190 = (wrap64 (t183 + 1)) then (if t184 = 12 then (if t191 = 1 then (quitrentlaw03_CivilBack.j1 kj12 a1 a2 a3) else (some false)) else (some false)) else (some false)) else (some false)) else (some false)))) else (quitrentlaw03_CivilBack.j1 kj12 a1 a2 a3)) = some r := H
              have A20 := Aside0.mk A200
              clear A200
              by_cases c21 : t193 = 0
              · rw [if_pos c21] at H
                have c21b0 : (t193 == 0) = true := beq_iff_eq.mpr c21
                have c21b1 : (t193 != 0) = false := bne_eq_false_iff_eq.mpr c21
                clear c21
                by_cases c22 : t190 = t183
                · rw [if_pos c22] at H
                  have c22b0 : (t190 == t183) = true := beq_iff_eq.mpr c22
                  have c22b1 : (t190 != t183) = false := bne_eq_false_iff_eq.mpr c22
                  clear c22
                  by_cases c23 : t191 = t184
                  · rw [if_pos c23] at H
                    have c23b0 : (t191 == t184) = true := beq_iff_eq.mpr c23
                    have c23b1 : (t191 != t184) = false := bne_eq_false_iff_eq.mpr c23
                    clear c23
                    replace H := Option.bind_eq_some_iff.mp H
                    obtain ⟨t194, A240, H⟩ := H
                    replace H : (if t185 = t194 then (if t192 = 1 then (if t191 = (wrap64 (t184 + 1)) then (if (t192 = (wrap64 (t185 + 1))) then (quitrentlaw03_CivilBack.j1 kj12 a1 a2 a3) else (quitrentlaw03_CivilBack.j1 kj12 a1 a2 a3)) else (if t190 = (wrap64 (t183 + 1)) then (if t184 = 12 then (if (t192 = (wrap64 (t185 + 1))) then (quitrentlaw03_CivilBack.j1 kj12 a1 a2 a3) else (if t191 = 1 then (quitrentlaw03_CivilBack.j1 kj12 a1 a2 a3) else (some false))) else (if (t192 = (wrap64 (t185 + 1))) then (quitrentlaw03_CivilBack.j1 kj12 a1 a2 a3) else (some false))) else (if (t192 = (wrap64 (t185 + 1))) then (quitrentlaw03_CivilBack.j1 kj12 a1 a2 a3) else (some false)))) else (if (t192 = (wrap64 (t185 + 1))) then (quitrentlaw03_CivilBack.j1 kj12 a1 a2 a3) else (some false))) else (if (t192 = (wrap64 (t185 + 1))) then (quitrentlaw03_CivilBack.j1 kj12 a1 a2 a3) else (some false))) = some r := H
                    have A24 := Aside0.mk A240
                    clear A240
                    by_cases c25 : t185 = t194
                    · rw [if_pos c25] at H
                      have c25b0 : (t185 == t194) = true := beq_iff_eq.mpr c25
                      have c25b1 : (t185 != t194) = false := bne_eq_false_iff_eq.mpr c25
                      clear c25
                      by_cases c26 : t192 = 1
                      · rw [if_pos c26] at H
                        have c26b0 : (t192 == 1) = true := beq_iff_eq.mpr c26
                        have c26b1 : (t192 != 1) = false := bne_eq_false_iff_eq.mpr c26
                        clear c26
                        by_cases c27 : t191 = (wrap64 (t184 + 1))
                        · rw [if_pos c27] at H
                          have c27b0 : (t191 == (wrap64 (t184 + 1))) = true := beq_iff_eq.mpr c27
                          have c27b1 : (t191 != (wrap64 (t184 + 1))) = false := bne_eq_false_iff_eq.mpr c27
                          clear c27
                          by_cases c28 : (t192 = (wrap64 (t185 + 1)))
                          · rw [if_pos c28] at H
                            have c28b0 : (t192 == (wrap64 (t185 + 1))) = true := beq_iff_eq.mpr c28
                            have c28b1 : (t192 != (wrap64 (t185 + 1))) = false := bne_eq_false_iff_eq.mpr c28
                            clear c28
                            have H' := Aside0.mk H
                            clear H
                            go_wp2_with (first | ((with_reducible refine gate_callee (f := 17) rfl ?_); refine goesL_ (some 66) rfl rfl Try.func17 (by kernel_rfl) rfl #[.int .i64 (wrap64 (a0 + 1))] rfl (by (try simp only [List.map_toArray, List.map_cons, List.map_nil]); first | done | rfl | (simp only [List.length_drop, List.length_take]; rfl)) ?_; (with_reducible refine (civil_Date.calls (wrap64 (a0 + 1)) t190 t191 t192 t193 _ A20.out).mono ?_); rintro e w29 ⟨rfl, hb⟩; refine ⟨_, rfl, ?_⟩; have n0_ := Aside0.mk (below_step (by repeat (first | (with_reducible first | exact HB.out | apply below_alloc | apply pw_below_drewN | apply below_drew1) | exact HB.out)) hb); clear HB; have HB := n0_; clear n0_; (try clear hb); (try clear hb2); (try clear hk); (try clear hi)) | ((with_reducible refine gate_callee (f := 21) rfl ?_); refine goesL_ (some 90) rfl rfl Try.func21 (by kernel_rfl) rfl #[.int .i64 t183, .int .i64 t184] rfl (by (try simp only [List.map_toArray, List.map_cons, List.map_nil]); first | done | rfl | (simp only [List.length_drop, List.length_take]; rfl)) ?_; (with_reducible refine (civil_Long.calls kj12 t183 t184 t194 _ A24.out).mono ?_); rintro e w' ⟨rfl, ⟨nd, rfl⟩⟩; refine ⟨_, rfl, ?_⟩))
                            go_meet
                            case rel => exact ⟨_, H', ⟨by have := HJ12.out; first | omega | exact Nat.le_refl _⟩, ⟨by repeat (first | (with_reducible first | exact HB.out | apply below_alloc | apply pw_below_drewN | apply below_drew1) | exact HB.out)⟩⟩
                          · rw [if_neg c28] at H
                            have c28b0 : (t192 == (wrap64 (t185 + 1))) = false := beq_eq_false_iff_ne.mpr c28
                            have c28b1 : (t192 != (wrap64 (t185 + 1))) = true := bne_iff_ne.mpr c28
                            have H' := Aside0.mk H
                            clear H
                            go_wp2_with (first | ((with_reducible refine gate_callee (f := 17) rfl ?_); refine goesL_ (some 66) rfl rfl Try.func17 (by kernel_rfl) rfl #[.int .i64 (wrap64 (a0 + 1))] rfl (by (try simp only [List.map_toArray, List.map_cons, List.map_nil]); first | done | rfl | (simp only [List.length_drop, List.length_take]; rfl)) ?_; (with_reducible refine (civil_Date.calls (wrap64 (a0 + 1)) t190 t191 t192 t193 _ A20.out).mono ?_); rintro e w30 ⟨rfl, hb⟩; refine ⟨_, rfl, ?_⟩; have n0_ := Aside0.mk (below_step (by repeat (first | (with_reducible first | exact HB.out | apply below_alloc | apply pw_below_drewN | apply below_drew1) | exact HB.out)) hb); clear HB; have HB := n0_; clear n0_; (try clear hb); (try clear hb2); (try clear hk); (try clear hi)) | ((with_reducible refine gate_callee (f := 21) rfl ?_); refine goesL_ (some 90) rfl rfl Try.func21 (by kernel_rfl) rfl #[.int .i64 t183, .int .i64 t184] rfl (by (try simp only [List.map_toArray, List.map_cons, List.map_nil]); first | done | rfl | (simp only [List.length_drop, List.length_take]; rfl)) ?_; (with_reducible refine (civil_Long.calls kj12 t183 t184 t194 _ A24.out).mono ?_); rintro e w' ⟨rfl, ⟨nd, rfl⟩⟩; refine ⟨_, rfl, ?_⟩))
                            go_meet
                            case rel => exact ⟨_, H', ⟨by have := HJ12.out; first | omega | exact Nat.le_refl _⟩, ⟨by repeat (first | (with_reducible first | exact HB.out | apply below_alloc | apply pw_below_drewN | apply below_drew1) | exact HB.out)⟩⟩
                        · rw [if_neg c27] at H
                          have c27b0 : (t191 == (wrap64 (t184 + 1))) = false := beq_eq_false_iff_ne.mpr c27
                          have c27b1 : (t191 != (wrap64 (t184 + 1))) = true := bne_iff_ne.mpr c27
                          by_cases c31 : t190 = (wrap64 (t183 + 1))
                          · rw [if_pos c31] at H
                            have c31b0 : (t190 == (wrap64 (t183 + 1))) = true := beq_iff_eq.mpr c31
                            have c31b1 : (t190 != (wrap64 (t183 + 1))) = false := bne_eq_false_iff_eq.mpr c31
                            clear c31
                            by_cases c32 : t184 = 12
                            · rw [if_pos c32] at H
                              have c32b0 : (t184 == 12) = true := beq_iff_eq.mpr c32
                              have c32b1 : (t184 != 12) = false := bne_eq_false_iff_eq.mpr c32
                              clear c32
                              by_cases c33 : (t192 = (wrap64 (t185 + 1)))
                              · rw [if_pos c33] at H
                                have c33b0 : (t192 == (wrap64 (t185 + 1))) = true := beq_iff_eq.mpr c33
                                have c33b1 : (t192 != (wrap64 (t185 + 1))) = false := bne_eq_false_iff_eq.mpr c33
                                clear c33
                                have H' := Aside0.mk H
                                clear H
                                go_wp2_with (first | ((with_reducible refine gate_callee (f := 17) rfl ?_); refine goesL_ (some 66) rfl rfl Try.func17 (by kernel_rfl) rfl #[.int .i64 (wrap64 (a0 + 1))] rfl (by (try simp only [List.map_toArray, List.map_cons, List.map_nil]); first | done | rfl | (simp only [List.length_drop, List.length_take]; rfl)) ?_; (with_reducible refine (civil_Date.calls (wrap64 (a0 + 1)) t190 t191 t192 t193 _ A20.out).mono ?_); rintro e w34 ⟨rfl, hb⟩; refine ⟨_, rfl, ?_⟩; have n0_ := Aside0.mk (below_step (by repeat (first | (with_reducible first | exact HB.out | apply below_alloc | apply pw_below_drewN | apply below_drew1) | exact HB.out)) hb); clear HB; have HB := n0_; clear n0_; (try clear hb); (try clear hb2); (try clear hk); (try clear hi)) | ((with_reducible refine gate_callee (f := 21) rfl ?_); refine goesL_ (some 90) rfl rfl Try.func21 (by kernel_rfl) rfl #[.int .i64 t183, .int .i64 t184] rfl (by (try simp only [List.map_toArray, List.map_cons, List.map_nil]); first | done | rfl | (simp only [List.length_drop, List.length_take]; rfl)) ?_; (with_reducible refine (civil_Long.calls kj12 t183 t184 t194 _ A24.out).mono ?_); rintro e w' ⟨rfl, ⟨nd, rfl⟩⟩; refine ⟨_, rfl, ?_⟩))
                                go_meet
                                case rel => exact ⟨_, H', ⟨by have := HJ12.out; first | omega | exact Nat.le_refl _⟩, ⟨by repeat (first | (with_reducible first | exact HB.out | apply below_alloc | apply pw_below_drewN | apply below_drew1) | exact HB.out)⟩⟩
                              · rw [if_neg c33] at H
                                have c33b0 : (t192 == (wrap64 (t185 + 1))) = false := beq_eq_false_iff_ne.mpr c33
                                have c33b1 : (t192 != (wrap64 (t185 + 1))) = true := bne_iff_ne.mpr c33
                                by_cases c35 : t191 = 1
                                · rw [if_pos c35] at H
                                  have c35b0 : (t191 == 1) = true := beq_iff_eq.mpr c35
                                  have c35b1 : (t191 != 1) = false := bne_eq_false_iff_eq.mpr c35
                                  clear c35
                                  have H' := Aside0.mk H
                                  clear H
                                  go_wp2_with (first | ((with_reducible refine gate_callee (f := 17) rfl ?_); refine goesL_ (some 66) rfl rfl Try.func17 (by kernel_rfl) rfl #[.int .i64 (wrap64 (a0 + 1))] rfl (by (try simp only [List.map_toArray, List.map_cons, List.map_nil]); first | done | rfl | (simp only [List.length_drop, List.length_take]; rfl)) ?_; (with_reducible refine (civil_Date.calls (wrap64 (a0 + 1)) t190 t191 t192 t193 _ A20.out).mono ?_); rintro e w36 ⟨rfl, hb⟩; refine ⟨_, rfl, ?_⟩; have n0_ := Aside0.mk (below_step (by repeat (first | (with_reducible first | exact HB.out | apply below_alloc | apply pw_below_drewN | apply below_drew1) | exact HB.out)) hb); clear HB; have HB := n0_; clear n0_; (try clear hb); (try clear hb2); (try clear hk); (try clear hi)) | ((with_reducible refine gate_callee (f := 21) rfl ?_); refine goesL_ (some 90) rfl rfl Try.func21 (by kernel_rfl) rfl #[.int .i64 t183, .int .i64 t184] rfl (by (try simp only [List.map_toArray, List.map_cons, List.map_nil]); first | done | rfl | (simp only [List.length_drop, List.length_take]; rfl)) ?_; (with_reducible refine (civil_Long.calls kj12 t183 t184 t194 _ A24.out).mono ?_); rintro e w' ⟨rfl, ⟨nd, rfl⟩⟩; refine ⟨_, rfl, ?_⟩))
                                  go_meet
                                  case rel => exact ⟨_, H', ⟨by have := HJ12.out; first | omega | exact Nat.le_refl _⟩, ⟨by repeat (first | (with_reducible first | exact HB.out | apply below_alloc | apply pw_below_drewN | apply below_drew1) | exact HB.out)⟩⟩
                                · rw [if_neg c35] at H
                                  have c35b0 : (t191 == 1) = false := beq_eq_false_iff_ne.mpr c35
                                  have c35b1 : (t191 != 1) = true := bne_iff_ne.mpr c35
                                  obtain rfl := Option.some.inj H
                                  go_wp2_with (first | ((with_reducible refine gate_callee (f := 17) rfl ?_); refine goesL_ (some 66) rfl rfl Try.func17 (by kernel_rfl) rfl #[.int .i64 (wrap64 (a0 + 1))] rfl (by (try simp only [List.map_toArray, List.map_cons, List.map_nil]); first | done | rfl | (simp only [List.length_drop, List.length_take]; rfl)) ?_; (with_reducible refine (civil_Date.calls (wrap64 (a0 + 1)) t190 t191 t192 t193 _ A20.out).mono ?_); rintro e w37 ⟨rfl, hb⟩; refine ⟨_, rfl, ?_⟩; have n0_ := Aside0.mk (below_step (by repeat (first | (with_reducible first | exact HB.out | apply below_alloc | apply pw_below_drewN | apply below_drew1) | exact HB.out)) hb); clear HB; have HB := n0_; clear n0_; (try clear hb); (try clear hb2); (try clear hk); (try clear hi)) | ((with_reducible refine gate_callee (f := 21) rfl ?_); refine goesL_ (some 90) rfl rfl Try.func21 (by kernel_rfl) rfl #[.int .i64 t183, .int .i64 t184] rfl (by (try simp only [List.map_toArray, List.map_cons, List.map_nil]); first | done | rfl | (simp only [List.length_drop, List.length_take]; rfl)) ?_; (with_reducible refine (civil_Long.calls kj12 t183 t184 t194 _ A24.out).mono ?_); rintro e w' ⟨rfl, ⟨nd, rfl⟩⟩; refine ⟨_, rfl, ?_⟩))
                                  go_ret
                                  exact ⟨by first | rfl | (simp [errW_none, errW_some] <;> rfl) | (simp [*, errW_none, errW_some] <;> rfl), by repeat (first | (with_reducible first | exact HB.out | apply below_alloc | apply pw_below_drewN | apply below_drew1) | exact HB.out)⟩
                            · rw [if_neg c32] at H
                              have c32b0 : (t184 == 12) = false := beq_eq_false_iff_ne.mpr c32
                              have c32b1 : (t184 != 12) = true := bne_iff_ne.mpr c32
                              by_cases c38 : (t192 = (wrap64 (t185 + 1)))
                              · rw [if_pos c38] at H
                                have c38b0 : (t192 == (wrap64 (t185 + 1))) = true := beq_iff_eq.mpr c38
                                have c38b1 : (t192 != (wrap64 (t185 + 1))) = false := bne_eq_false_iff_eq.mpr c38
                                clear c38
                                have H' := Aside0.mk H
                                clear H
                                go_wp2_with (first | ((with_reducible refine gate_callee (f := 17) rfl ?_); refine goesL_ (some 66) rfl rfl Try.func17 (by kernel_rfl) rfl #[.int .i64 (wrap64 (a0 + 1))] rfl (by (try simp only [List.map_toArray, List.map_cons, List.map_nil]); first | done | rfl | (simp only [List.length_drop, List.length_take]; rfl)) ?_; (with_reducible refine (civil_Date.calls (wrap64 (a0 + 1)) t190 t191 t192 t193 _ A20.out).mono ?_); rintro e w39 ⟨rfl, hb⟩; refine ⟨_, rfl, ?_⟩; have n0_ := Aside0.mk (below_step (by repeat (first | (with_reducible first | exact HB.out | apply below_alloc | apply pw_below_drewN | apply below_drew1) | exact HB.out)) hb); clear HB; have HB := n0_; clear n0_; (try clear hb); (try clear hb2); (try clear hk); (try clear hi)) | ((with_reducible refine gate_callee (f := 21) rfl ?_); refine goesL_ (some 90) rfl rfl Try.func21 (by kernel_rfl) rfl #[.int .i64 t183, .int .i64 t184] rfl (by (try simp only [List.map_toArray, List.map_cons, List.map_nil]); first | done | rfl | (simp only [List.length_drop, List.length_take]; rfl)) ?_; (with_reducible refine (civil_Long.calls kj12 t183 t184 t194 _ A24.out).mono ?_); rintro e w' ⟨rfl, ⟨nd, rfl⟩⟩; refine ⟨_, rfl, ?_⟩))
                                go_meet
                                case rel => exact ⟨_, H', ⟨by have := HJ12.out; first | omega | exact Nat.le_refl _⟩, ⟨by repeat (first | (with_reducible first | exact HB.out | apply below_alloc | apply pw_below_drewN | apply below_drew1) | exact HB.out)⟩⟩
                              · rw [if_neg c38] at H
                                have c38b0 : (t192 == (wrap64 (t185 + 1))) = false := beq_eq_false_iff_ne.mpr c38
                                have c38b1 : (t192 != (wrap64 (t185 + 1))) = true := bne_iff_ne.mpr c38
                                obtain rfl := Option.some.inj H
                                go_wp2_with (first | ((with_reducible refine gate_callee (f := 17) rfl ?_); refine goesL_ (some 66) rfl rfl Try.func17 (by kernel_rfl) rfl #[.int .i64 (wrap64 (a0 + 1))] rfl (by (try simp only [List.map_toArray, List.map_cons, List.map_nil]); first | done | rfl | (simp only [List.length_drop, List.length_take]; rfl)) ?_; (with_reducible refine (civil_Date.calls (wrap64 (a0 + 1)) t190 t191 t192 t193 _ A20.out).mono ?_); rintro e w40 ⟨rfl, hb⟩; refine ⟨_, rfl, ?_⟩; have n0_ := Aside0.mk (below_step (by repeat (first | (with_reducible first | exact HB.out | apply below_alloc | apply pw_below_drewN | apply below_drew1) | exact HB.out)) hb); clear HB; have HB := n0_; clear n0_; (try clear hb); (try clear hb2); (try clear hk); (try clear hi)) | ((with_reducible refine gate_callee (f := 21) rfl ?_); refine goesL_ (some 90) rfl rfl Try.func21 (by kernel_rfl) rfl #[.int .i64 t183, .int .i64 t184] rfl (by (try simp only [List.map_toArray, List.map_cons, List.map_nil]); first | done | rfl | (simp only [List.length_drop, List.length_take]; rfl)) ?_; (with_reducible refine (civil_Long.calls kj12 t183 t184 t194 _ A24.out).mono ?_); rintro e w' ⟨rfl, ⟨nd, rfl⟩⟩; refine ⟨_, rfl, ?_⟩))
                                go_ret
                                exact ⟨by first | rfl | (simp [errW_none, errW_some] <;> rfl) | (simp [*, errW_none, errW_some] <;> rfl), by repeat (first | (with_reducible first | exact HB.out | apply below_alloc | apply pw_below_drewN | apply below_drew1) | exact HB.out)⟩
                          · rw [if_neg c31] at H
                            have c31b0 : (t190 == (wrap64 (t183 + 1))) = false := beq_eq_false_iff_ne.mpr c31
                            have c31b1 : (t190 != (wrap64 (t183 + 1))) = true := bne_iff_ne.mpr c31
                            by_cases c41 : (t192 = (wrap64 (t185 + 1)))
                            · rw [if_pos c41] at H
                              have c41b0 : (t192 == (wrap64 (t185 + 1))) = true := beq_iff_eq.mpr c41
                              have c41b1 : (t192 != (wrap64 (t185 + 1))) = false := bne_eq_false_iff_eq.mpr c41
                              clear c41
                              have H' := Aside0.mk H
                              clear H
                              go_wp2_with (first | ((with_reducible refine gate_callee (f := 17) rfl ?_); refine goesL_ (some 66) rfl rfl Try.func17 (by kernel_rfl) rfl #[.int .i64 (wrap64 (a0 + 1))] rfl (by (try simp only [List.map_toArray, List.map_cons, List.map_nil]); first | done | rfl | (simp only [List.length_drop, List.length_take]; rfl)) ?_; (with_reducible refine (civil_Date.calls (wrap64 (a0 + 1)) t190 t191 t192 t193 _ A20.out).mono ?_); rintro e w42 ⟨rfl, hb⟩; refine ⟨_, rfl, ?_⟩; have n0_ := Aside0.mk (below_step (by repeat (first | (with_reducible first | exact HB.out | apply below_alloc | apply pw_below_drewN | apply below_drew1) | exact HB.out)) hb); clear HB; have HB := n0_; clear n0_; (try clear hb); (try clear hb2); (try clear hk); (try clear hi)) | ((with_reducible refine gate_callee (f := 21) rfl ?_); refine goesL_ (some 90) rfl rfl Try.func21 (by kernel_rfl) rfl #[.int .i64 t183, .int .i64 t184] rfl (by (try simp only [List.map_toArray, List.map_cons, List.map_nil]); first | done | rfl | (simp only [List.length_drop, List.length_take]; rfl)) ?_; (with_reducible refine (civil_Long.calls kj12 t183 t184 t194 _ A24.out).mono ?_); rintro e w' ⟨rfl, ⟨nd, rfl⟩⟩; refine ⟨_, rfl, ?_⟩))
                              go_meet
                              case rel => exact ⟨_, H', ⟨by have := HJ12.out; first | omega | exact Nat.le_refl _⟩, ⟨by repeat (first | (with_reducible first | exact HB.out | apply below_alloc | apply pw_below_drewN | apply below_drew1) | exact HB.out)⟩⟩
                            · rw [if_neg c41] at H
                              have c41b0 : (t192 == (wrap64 (t185 + 1))) = false := beq_eq_false_iff_ne.mpr c41
                              have c41b1 : (t192 != (wrap64 (t185 + 1))) = true := bne_iff_ne.mpr c41
                              obtain rfl := Option.some.inj H
                              go_wp2_with (first | ((with_reducible refine gate_callee (f := 17) rfl ?_); refine goesL_ (some 66) rfl rfl Try.func17 (by kernel_rfl) rfl #[.int .i64 (wrap64 (a0 + 1))] rfl (by (try simp only [List.map_toArray, List.map_cons, List.map_nil]); first | done | rfl | (simp only [List.length_drop, List.length_take]; rfl)) ?_; (with_reducible refine (civil_Date.calls (wrap64 (a0 + 1)) t190 t191 t192 t193 _ A20.out).mono ?_); rintro e w43 ⟨rfl, hb⟩; refine ⟨_, rfl, ?_⟩; have n0_ := Aside0.mk (below_step (by repeat (first | (with_reducible first | exact HB.out | apply below_alloc | apply pw_below_drewN | apply below_drew1) | exact HB.out)) hb); clear HB; have HB := n0_; clear n0_; (try clear hb); (try clear hb2); (try clear hk); (try clear hi)) | ((with_reducible refine gate_callee (f := 21) rfl ?_); refine goesL_ (some 90) rfl rfl Try.func21 (by kernel_rfl) rfl #[.int .i64 t183, .int .i64 t184] rfl (by (try simp only [List.map_toArray, List.map_cons, List.map_nil]); first | done | rfl | (simp only [List.length_drop, List.length_take]; rfl)) ?_; (with_reducible refine (civil_Long.calls kj12 t183 t184 t194 _ A24.out).mono ?_); rintro e w' ⟨rfl, ⟨nd, rfl⟩⟩; refine ⟨_, rfl, ?_⟩))
                              go_ret
                              exact ⟨by first | rfl | (simp [errW_none, errW_some] <;> rfl) | (simp [*, errW_none, errW_some] <;> rfl), by repeat (first | (with_reducible first | exact HB.out | apply below_alloc | apply pw_below_drewN | apply below_drew1) | exact HB.out)⟩
                      · rw [if_neg c26] at H
                        have c26b0 : (t192 == 1) = false := beq_eq_false_iff_ne.mpr c26
                        have c26b1 : (t192 != 1) = true := bne_iff_ne.mpr c26
                        by_cases c44 : (t192 = (wrap64 (t185 + 1)))
                        · rw [if_pos c44] at H
                          have c44b0 : (t192 == (wrap64 (t185 + 1))) = true := beq_iff_eq.mpr c44
                          have c44b1 : (t192 != (wrap64 (t185 + 1))) = false := bne_eq_false_iff_eq.mpr c44
                          clear c44
                          have H' := Aside0.mk H
                          clear H
                          go_wp2_with (first | ((with_reducible refine gate_callee (f := 17) rfl ?_); refine goesL_ (some 66) rfl rfl Try.func17 (by kernel_rfl) rfl #[.int .i64 (wrap64 (a0 + 1))] rfl (by (try simp only [List.map_toArray, List.map_cons, List.map_nil]); first | done | rfl | (simp only [List.length_drop, List.length_take]; rfl)) ?_; (with_reducible refine (civil_Date.calls (wrap64 (a0 + 1)) t190 t191 t192 t193 _ A20.out).mono ?_); rintro e w45 ⟨rfl, hb⟩; refine ⟨_, rfl, ?_⟩; have n0_ := Aside0.mk (below_step (by repeat (first | (with_reducible first | exact HB.out | apply below_alloc | apply pw_below_drewN | apply below_drew1) | exact HB.out)) hb); clear HB; have HB := n0_; clear n0_; (try clear hb); (try clear hb2); (try clear hk); (try clear hi)) | ((with_reducible refine gate_callee (f := 21) rfl ?_); refine goesL_ (some 90) rfl rfl Try.func21 (by kernel_rfl) rfl #[.int .i64 t183, .int .i64 t184] rfl (by (try simp only [List.map_toArray, List.map_cons, List.map_nil]); first | done | rfl | (simp only [List.length_drop, List.length_take]; rfl)) ?_; (with_reducible refine (civil_Long.calls kj12 t183 t184 t194 _ A24.out).mono ?_); rintro e w' ⟨rfl, ⟨nd, rfl⟩⟩; refine ⟨_, rfl, ?_⟩))
                          go_meet
                          case rel => exact ⟨_, H', ⟨by have := HJ12.out; first | omega | exact Nat.le_refl _⟩, ⟨by repeat (first | (with_reducible first | exact HB.out | apply below_alloc | apply pw_below_drewN | apply below_drew1) | exact HB.out)⟩⟩
                        · rw [if_neg c44] at H
                          have c44b0 : (t192 == (wrap64 (t185 + 1))) = false := beq_eq_false_iff_ne.mpr c44
                          have c44b1 : (t192 != (wrap64 (t185 + 1))) = true := bne_iff_ne.mpr c44
                          obtain rfl := Option.some.inj H
                          go_wp2_with (first | ((with_reducible refine gate_callee (f := 17) rfl ?_); refine goesL_ (some 66) rfl rfl Try.func17 (by kernel_rfl) rfl #[.int .i64 (wrap64 (a0 + 1))] rfl (by (try simp only [List.map_toArray, List.map_cons, List.map_nil]); first | done | rfl | (simp only [List.length_drop, List.length_take]; rfl)) ?_; (with_reducible refine (civil_Date.calls (wrap64 (a0 + 1)) t190 t191 t192 t193 _ A20.out).mono ?_); rintro e w46 ⟨rfl, hb⟩; refine ⟨_, rfl, ?_⟩; have n0_ := Aside0.mk (below_step (by repeat (first | (with_reducible first | exact HB.out | apply below_alloc | apply pw_below_drewN | apply below_drew1) | exact HB.out)) hb); clear HB; have HB := n0_; clear n0_; (try clear hb); (try clear hb2); (try clear hk); (try clear hi)) | ((with_reducible refine gate_callee (f := 21) rfl ?_); refine goesL_ (some 90) rfl rfl Try.func21 (by kernel_rfl) rfl #[.int .i64 t183, .int .i64 t184] rfl (by (try simp only [List.map_toArray, List.map_cons, List.map_nil]); first | done | rfl | (simp only [List.length_drop, List.length_take]; rfl)) ?_; (with_reducible refine (civil_Long.calls kj12 t183 t184 t194 _ A24.out).mono ?_); rintro e w' ⟨rfl, ⟨nd, rfl⟩⟩; refine ⟨_, rfl, ?_⟩))
                          go_ret
                          exact ⟨by first | rfl | (simp [errW_none, errW_some] <;> rfl) | (simp [*, errW_none, errW_some] <;> rfl), by repeat (first | (with_reducible first | exact HB.out | apply below_alloc | apply pw_below_drewN | apply below_drew1) | exact HB.out)⟩
                    · rw [if_neg c25] at H
                      have c25b0 : (t185 == t194) = false := beq_eq_false_iff_ne.mpr c25
                      have c25b1 : (t185 != t194) = true := bne_iff_ne.mpr c25
                      by_cases c47 : (t192 = (wrap64 (t185 + 1)))
                      · rw [if_pos c47] at H
                        have c47b0 : (t192 == (wrap64 (t185 + 1))) = true := beq_iff_eq.mpr c47
                        have c47b1 : (t192 != (wrap64 (t185 + 1))) = false := bne_eq_false_iff_eq.mpr c47
                        clear c47
                        have H' := Aside0.mk H
                        clear H
                        go_wp2_with (first | ((with_reducible refine gate_callee (f := 17) rfl ?_); refine goesL_ (some 66) rfl rfl Try.func17 (by kernel_rfl) rfl #[.int .i64 (wrap64 (a0 + 1))] rfl (by (try simp only [List.map_toArray, List.map_cons, List.map_nil]); first | done | rfl | (simp only [List.length_drop, List.length_take]; rfl)) ?_; (with_reducible refine (civil_Date.calls (wrap64 (a0 + 1)) t190 t191 t192 t193 _ A20.out).mono ?_); rintro e w48 ⟨rfl, hb⟩; refine ⟨_, rfl, ?_⟩; have n0_ := Aside0.mk (below_step (by repeat (first | (with_reducible first | exact HB.out | apply below_alloc | apply pw_below_drewN | apply below_drew1) | exact HB.out)) hb); clear HB; have HB := n0_; clear n0_; (try clear hb); (try clear hb2); (try clear hk); (try clear hi)) | ((with_reducible refine gate_callee (f := 21) rfl ?_); refine goesL_ (some 90) rfl rfl Try.func21 (by kernel_rfl) rfl #[.int .i64 t183, .int .i64 t184] rfl (by (try simp only [List.map_toArray, List.map_cons, List.map_nil]); first | done | rfl | (simp only [List.length_drop, List.length_take]; rfl)) ?_; (with_reducible refine (civil_Long.calls kj12 t183 t184 t194 _ A24.out).mono ?_); rintro e w' ⟨rfl, ⟨nd, rfl⟩⟩; refine ⟨_, rfl, ?_⟩))
                        go_meet
                        case rel => exact ⟨_, H', ⟨by have := HJ12.out; first | omega | exact Nat.le_refl _⟩, ⟨by repeat (first | (with_reducible first | exact HB.out | apply below_alloc | apply pw_below_drewN | apply below_drew1) | exact HB.out)⟩⟩
                      · rw [if_neg c47] at H
                        have c47b0 : (t192 == (wrap64 (t185 + 1))) = false := beq_eq_false_iff_ne.mpr c47
                        have c47b1 : (t192 != (wrap64 (t185 + 1))) = true := bne_iff_ne.mpr c47
                        obtain rfl := Option.some.inj H
                        go_wp2_with (first | ((with_reducible refine gate_callee (f := 17) rfl ?_); refine goesL_ (some 66) rfl rfl Try.func17 (by kernel_rfl) rfl #[.int .i64 (wrap64 (a0 + 1))] rfl (by (try simp only [List.map_toArray, List.map_cons, List.map_nil]); first | done | rfl | (simp only [List.length_drop, List.length_take]; rfl)) ?_; (with_reducible refine (civil_Date.calls (wrap64 (a0 + 1)) t190 t191 t192 t193 _ A20.out).mono ?_); rintro e w49 ⟨rfl, hb⟩; refine ⟨_, rfl, ?_⟩; have n0_ := Aside0.mk (below_step (by repeat (first | (with_reducible first | exact HB.out | apply below_alloc | apply pw_below_drewN | apply below_drew1) | exact HB.out)) hb); clear HB; have HB := n0_; clear n0_; (try clear hb); (try clear hb2); (try clear hk); (try clear hi)) | ((with_reducible refine gate_callee (f := 21) rfl ?_); refine goesL_ (some 90) rfl rfl Try.func21 (by kernel_rfl) rfl #[.int .i64 t183, .int .i64 t184] rfl (by (try simp only [List.map_toArray, List.map_cons, List.map_nil]); first | done | rfl | (simp only [List.length_drop, List.length_take]; rfl)) ?_; (with_reducible refine (civil_Long.calls kj12 t183 t184 t194 _ A24.out).mono ?_); rintro e w' ⟨rfl, ⟨nd, rfl⟩⟩; refine ⟨_, rfl, ?_⟩))
                        go_ret
                        exact ⟨by first | rfl | (simp [errW_none, errW_some] <;> rfl) | (simp [*, errW_none, errW_some] <;> rfl), by repeat (first | (with_reducible first | exact HB.out | apply below_alloc | apply pw_below_drewN | apply below_drew1) | exact HB.out)⟩
                  · rw [if_neg c23] at H
                    have c23b0 : (t191 == t184) = false := beq_eq_false_iff_ne.mpr c23
                    have c23b1 : (t191 != t184) = true := bne_iff_ne.mpr c23
                    replace H := Option.bind_eq_some_iff.mp H
                    obtain ⟨t195, A500, H⟩ := H
                    replace H : (if t185 = t195 then (if t192 = 1 then (if t191 = (wrap64 (t184 + 1)) then (quitrentlaw03_CivilBack.j1 kj12 a1 a2 a3) else (if t190 = (wrap64 (t183 + 1)) then (if t184 = 12 then (if t191 = 1 then (quitrentlaw03_CivilBack.j1 kj12 a1 a2 a3) else (some false)) else (some false)) else (some false))) else (some false)) else (some false)) = some r := H
                    have A50 := Aside0.mk A500
                    clear A500
                    by_cases c51 : t185 = t195
                    · rw [if_pos c51] at H
                      have c51b0 : (t185 == t195) = true := beq_iff_eq.mpr c51
                      have c51b1 : (t185 != t195) = false := bne_eq_false_iff_eq.mpr c51
                      clear c51
                      by_cases c52 : t192 = 1
                      · rw [if_pos c52] at H
                        have c52b0 : (t192 == 1) = true := beq_iff_eq.mpr c52
                        have c52b1 : (t192 != 1) = false := bne_eq_false_iff_eq.mpr c52
                        clear c52
                        by_cases c53 : t191 = (wrap64 (t184 + 1))
                        · rw [if_pos c53] at H
                          have c53b0 : (t191 == (wrap64 (t184 + 1))) = true := beq_iff_eq.mpr c53
                          have c53b1 : (t191 != (wrap64 (t184 + 1))) = false := bne_eq_false_iff_eq.mpr c53
                          clear c53
                          have H' := Aside0.mk H
                          clear H
                          go_wp2_with (first | ((with_reducible refine gate_callee (f := 17) rfl ?_); refine goesL_ (some 66) rfl rfl Try.func17 (by kernel_rfl) rfl #[.int .i64 (wrap64 (a0 + 1))] rfl (by (try simp only [List.map_toArray, List.map_cons, List.map_nil]); first | done | rfl | (simp only [List.length_drop, List.length_take]; rfl)) ?_; (with_reducible refine (civil_Date.calls (wrap64 (a0 + 1)) t190 t191 t192 t193 _ A20.out).mono ?_); rintro e w54 ⟨rfl, hb⟩; refine ⟨_, rfl, ?_⟩; have n0_ := Aside0.mk (below_step (by repeat (first | (with_reducible first | exact HB.out | apply below_alloc | apply pw_below_drewN | apply below_drew1) | exact HB.out)) hb); clear HB; have HB := n0_; clear n0_; (try clear hb); (try clear hb2); (try clear hk); (try clear hi)) | ((with_reducible refine gate_callee (f := 21) rfl ?_); refine goesL_ (some 90) rfl rfl Try.func21 (by kernel_rfl) rfl #[.int .i64 t183, .int .i64 t184] rfl (by (try simp only [List.map_toArray, List.map_cons, List.map_nil]); first | done | rfl | (simp only [List.length_drop, List.length_take]; rfl)) ?_; (with_reducible refine (civil_Long.calls kj12 t183 t184 t195 _ A50.out).mono ?_); rintro e w' ⟨rfl, ⟨nd, rfl⟩⟩; refine ⟨_, rfl, ?_⟩))
                          go_meet
                          case rel => exact ⟨_, H', ⟨by have := HJ12.out; first | omega | exact Nat.le_refl _⟩, ⟨by repeat (first | (with_reducible first | exact HB.out | apply below_alloc | apply pw_below_drewN | apply below_drew1) | exact HB.out)⟩⟩
                        · rw [if_neg c53] at H
                          have c53b0 : (t191 == (wrap64 (t184 + 1))) = false := beq_eq_false_iff_ne.mpr c53
                          have c53b1 : (t191 != (wrap64 (t184 + 1))) = true := bne_iff_ne.mpr c53
                          by_cases c55 : t190 = (wrap64 (t183 + 1))
                          · rw [if_pos c55] at H
                            have c55b0 : (t190 == (wrap64 (t183 + 1))) = true := beq_iff_eq.mpr c55
                            have c55b1 : (t190 != (wrap64 (t183 + 1))) = false := bne_eq_false_iff_eq.mpr c55
                            clear c55
                            by_cases c56 : t184 = 12
                            · rw [if_pos c56] at H
                              have c56b0 : (t184 == 12) = true := beq_iff_eq.mpr c56
                              have c56b1 : (t184 != 12) = false := bne_eq_false_iff_eq.mpr c56
                              clear c56
                              by_cases c57 : t191 = 1
                              · rw [if_pos c57] at H
                                have c57b0 : (t191 == 1) = true := beq_iff_eq.mpr c57
                                have c57b1 : (t191 != 1) = false := bne_eq_false_iff_eq.mpr c57
                                clear c57
                                have H' := Aside0.mk H
                                clear H
                                go_wp2_with (first | ((with_reducible refine gate_callee (f := 17) rfl ?_); refine goesL_ (some 66) rfl rfl Try.func17 (by kernel_rfl) rfl #[.int .i64 (wrap64 (a0 + 1))] rfl (by (try simp only [List.map_toArray, List.map_cons, List.map_nil]); first | done | rfl | (simp only [List.length_drop, List.length_take]; rfl)) ?_; (with_reducible refine (civil_Date.calls (wrap64 (a0 + 1)) t190 t191 t192 t193 _ A20.out).mono ?_); rintro e w58 ⟨rfl, hb⟩; refine ⟨_, rfl, ?_⟩; have n0_ := Aside0.mk (below_step (by repeat (first | (with_reducible first | exact HB.out | apply below_alloc | apply pw_below_drewN | apply below_drew1) | exact HB.out)) hb); clear HB; have HB := n0_; clear n0_; (try clear hb); (try clear hb2); (try clear hk); (try clear hi)) | ((with_reducible refine gate_callee (f := 21) rfl ?_); refine goesL_ (some 90) rfl rfl Try.func21 (by kernel_rfl) rfl #[.int .i64 t183, .int .i64 t184] rfl (by (try simp only [List.map_toArray, List.map_cons, List.map_nil]); first | done | rfl | (simp only [List.length_drop, List.length_take]; rfl)) ?_; (with_reducible refine (civil_Long.calls kj12 t183 t184 t195 _ A50.out).mono ?_); rintro e w' ⟨rfl, ⟨nd, rfl⟩⟩; refine ⟨_, rfl, ?_⟩))
                                go_meet
                                case rel => exact ⟨_, H', ⟨by have := HJ12.out; first | omega | exact Nat.le_refl _⟩, ⟨by repeat (first | (with_reducible first | exact HB.out | apply below_alloc | apply pw_below_drewN | apply below_drew1) | exact HB.out)⟩⟩
                              · rw [if_neg c57] at H
                                have c57b0 : (t191 == 1) = false := beq_eq_false_iff_ne.mpr c57
                                have c57b1 : (t191 != 1) = true := bne_iff_ne.mpr c57
                                obtain rfl := Option.some.inj H
                                go_wp2_with (first | ((with_reducible refine gate_callee (f := 17) rfl ?_); refine goesL_ (some 66) rfl rfl Try.func17 (by kernel_rfl) rfl #[.int .i64 (wrap64 (a0 + 1))] rfl (by (try simp only [List.map_toArray, List.map_cons, List.map_nil]); first | done | rfl | (simp only [List.length_drop, List.length_take]; rfl)) ?_; (with_reducible refine (civil_Date.calls (wrap64 (a0 + 1)) t190 t191 t192 t193 _ A20.out).mono ?_); rintro e w59 ⟨rfl, hb⟩; refine ⟨_, rfl, ?_⟩; have n0_ := Aside0.mk (below_step (by repeat (first | (with_reducible first | exact HB.out | apply below_alloc | apply pw_below_drewN | apply below_drew1) | exact HB.out)) hb); clear HB; have HB := n0_; clear n0_; (try clear hb); (try clear hb2); (try clear hk); (try clear hi)) | ((with_reducible refine gate_callee (f := 21) rfl ?_); refine goesL_ (some 90) rfl rfl Try.func21 (by kernel_rfl) rfl #[.int .i64 t183, .int .i64 t184] rfl (by (try simp only [List.map_toArray, List.map_cons, List.map_nil]); first | done | rfl | (simp only [List.length_drop, List.length_take]; rfl)) ?_; (with_reducible refine (civil_Long.calls kj12 t183 t184 t195 _ A50.out).mono ?_); rintro e w' ⟨rfl, ⟨nd, rfl⟩⟩; refine ⟨_, rfl, ?_⟩))
                                go_ret
                                exact ⟨by first | rfl | (simp [errW_none, errW_some] <;> rfl) | (simp [*, errW_none, errW_some] <;> rfl), by repeat (first | (with_reducible first | exact HB.out | apply below_alloc | apply pw_below_drewN | apply below_drew1) | exact HB.out)⟩
                            · rw [if_neg c56] at H
                              have c56b0 : (t184 == 12) = false := beq_eq_false_iff_ne.mpr c56
                              have c56b1 : (t184 != 12) = true := bne_iff_ne.mpr c56
                              obtain rfl := Option.some.inj H
                              go_wp2_with (first | ((with_reducible refine gate_callee (f := 17) rfl ?_); refine goesL_ (some 66) rfl rfl Try.func17 (by kernel_rfl) rfl #[.int .i64 (wrap64 (a0 + 1))] rfl (by (try simp only [List.map_toArray, List.map_cons, List.map_nil]); first | done | rfl | (simp only [List.length_drop, List.length_take]; rfl)) ?_; (with_reducible refine (civil_Date.calls (wrap64 (a0 + 1)) t190 t191 t192 t193 _ A20.out).mono ?_); rintro e w60 ⟨rfl, hb⟩; refine ⟨_, rfl, ?_⟩; have n0_ := Aside0.mk (below_step (by repeat (first | (with_reducible first | exact HB.out | apply below_alloc | apply pw_below_drewN | apply below_drew1) | exact HB.out)) hb); clear HB; have HB := n0_; clear n0_; (try clear hb); (try clear hb2); (try clear hk); (try clear hi)) | ((with_reducible refine gate_callee (f := 21) rfl ?_); refine goesL_ (some 90) rfl rfl Try.func21 (by kernel_rfl) rfl #[.int .i64 t183, .int .i64 t184] rfl (by (try simp only [List.map_toArray, List.map_cons, List.map_nil]); first | done | rfl | (simp only [List.length_drop, List.length_take]; rfl)) ?_; (with_reducible refine (civil_Long.calls kj12 t183 t184 t195 _ A50.out).mono ?_); rintro e w' ⟨rfl, ⟨nd, rfl⟩⟩; refine ⟨_, rfl, ?_⟩))
                              go_ret
                              exact ⟨by first | rfl | (simp [errW_none, errW_some] <;> rfl) | (simp [*, errW_none, errW_some] <;> rfl), by repeat (first | (with_reducible first | exact HB.out | apply below_alloc | apply pw_below_drewN | apply below_drew1) | exact HB.out)⟩
                          · rw [if_neg c55] at H
                            have c55b0 : (t190 == (wrap64 (t183 + 1))) = false := beq_eq_false_iff_ne.mpr c55
                            have c55b1 : (t190 != (wrap64 (t183 + 1))) = true := bne_iff_ne.mpr c55
                            obtain rfl := Option.some.inj H
                            go_wp2_with (first | ((with_reducible refine gate_callee (f := 17) rfl ?_); refine goesL_ (some 66) rfl rfl Try.func17 (by kernel_rfl) rfl #[.int .i64 (wrap64 (a0 + 1))] rfl (by (try simp only [List.map_toArray, List.map_cons, List.map_nil]); first | done | rfl | (simp only [List.length_drop, List.length_take]; rfl)) ?_; (with_reducible refine (civil_Date.calls (wrap64 (a0 + 1)) t190 t191 t192 t193 _ A20.out).mono ?_); rintro e w61 ⟨rfl, hb⟩; refine ⟨_, rfl, ?_⟩; have n0_ := Aside0.mk (below_step (by repeat (first | (with_reducible first | exact HB.out | apply below_alloc | apply pw_below_drewN | apply below_drew1) | exact HB.out)) hb); clear HB; have HB := n0_; clear n0_; (try clear hb); (try clear hb2); (try clear hk); (try clear hi)) | ((with_reducible refine gate_callee (f := 21) rfl ?_); refine goesL_ (some 90) rfl rfl Try.func21 (by kernel_rfl) rfl #[.int .i64 t183, .int .i64 t184] rfl (by (try simp only [List.map_toArray, List.map_cons, List.map_nil]); first | done | rfl | (simp only [List.length_drop, List.length_take]; rfl)) ?_; (with_reducible refine (civil_Long.calls kj12 t183 t184 t195 _ A50.out).mono ?_); rintro e w' ⟨rfl, ⟨nd, rfl⟩⟩; refine ⟨_, rfl, ?_⟩))
                            go_ret
                            exact ⟨by first | rfl | (simp [errW_none, errW_some] <;> rfl) | (simp [*, errW_none, errW_some] <;> rfl), by repeat (first | (with_reducible first | exact HB.out | apply below_alloc | apply pw_below_drewN | apply below_drew1) | exact HB.out)⟩
                      · rw [if_neg c52] at H
                        have c52b0 : (t192 == 1) = false := beq_eq_false_iff_ne.mpr c52
                        have c52b1 : (t192 != 1) = true := bne_iff_ne.mpr c52
                        obtain rfl := Option.some.inj H
                        go_wp2_with (first | ((with_reducible refine gate_callee (f := 17) rfl ?_); refine goesL_ (some 66) rfl rfl Try.func17 (by kernel_rfl) rfl #[.int .i64 (wrap64 (a0 + 1))] rfl (by (try simp only [List.map_toArray, List.map_cons, List.map_nil]); first | done | rfl | (simp only [List.length_drop, List.length_take]; rfl)) ?_; (with_reducible refine (civil_Date.calls (wrap64 (a0 + 1)) t190 t191 t192 t193 _ A20.out).mono ?_); rintro e w62 ⟨rfl, hb⟩; refine ⟨_, rfl, ?_⟩; have n0_ := Aside0.mk (below_step (by repeat (first | (with_reducible first | exact HB.out | apply below_alloc | apply pw_below_drewN | apply below_drew1) | exact HB.out)) hb); clear HB; have HB := n0_; clear n0_; (try clear hb); (try clear hb2); (try clear hk); (try clear hi)) | ((with_reducible refine gate_callee (f := 21) rfl ?_); refine goesL_ (some 90) rfl rfl Try.func21 (by kernel_rfl) rfl #[.int .i64 t183, .int .i64 t184] rfl (by (try simp only [List.map_toArray, List.map_cons, List.map_nil]); first | done | rfl | (simp only [List.length_drop, List.length_take]; rfl)) ?_; (with_reducible refine (civil_Long.calls kj12 t183 t184 t195 _ A50.out).mono ?_); rintro e w' ⟨rfl, ⟨nd, rfl⟩⟩; refine ⟨_, rfl, ?_⟩))
                        go_ret
                        exact ⟨by first | rfl | (simp [errW_none, errW_some] <;> rfl) | (simp [*, errW_none, errW_some] <;> rfl), by repeat (first | (with_reducible first | exact HB.out | apply below_alloc | apply pw_below_drewN | apply below_drew1) | exact HB.out)⟩
                    · rw [if_neg c51] at H
                      have c51b0 : (t185 == t195) = false := beq_eq_false_iff_ne.mpr c51
                      have c51b1 : (t185 != t195) = true := bne_iff_ne.mpr c51
                      obtain rfl := Option.some.inj H
                      go_wp2_with (first | ((with_reducible refine gate_callee (f := 17) rfl ?_); refine goesL_ (some 66) rfl rfl Try.func17 (by kernel_rfl) rfl #[.int .i64 (wrap64 (a0 + 1))] rfl (by (try simp only [List.map_toArray, List.map_cons, List.map_nil]); first | done | rfl | (simp only [List.length_drop, List.length_take]; rfl)) ?_; (with_reducible refine (civil_Date.calls (wrap64 (a0 + 1)) t190 t191 t192 t193 _ A20.out).mono ?_); rintro e w63 ⟨rfl, hb⟩; refine ⟨_, rfl, ?_⟩; have n0_ := Aside0.mk (below_step (by repeat (first | (with_reducible first | exact HB.out | apply below_alloc | apply pw_below_drewN | apply below_drew1) | exact HB.out)) hb); clear HB; have HB := n0_; clear n0_; (try clear hb); (try clear hb2); (try clear hk); (try clear hi)) | ((with_reducible refine gate_callee (f := 21) rfl ?_); refine goesL_ (some 90) rfl rfl Try.func21 (by kernel_rfl) rfl #[.int .i64 t183, .int .i64 t184] rfl (by (try simp only [List.map_toArray, List.map_cons, List.map_nil]); first | done | rfl | (simp only [List.length_drop, List.length_take]; rfl)) ?_; (with_reducible refine (civil_Long.calls kj12 t183 t184 t195 _ A50.out).mono ?_); rintro e w' ⟨rfl, ⟨nd, rfl⟩⟩; refine ⟨_, rfl, ?_⟩))
                      go_ret
                      exact ⟨by first | rfl | (simp [errW_none, errW_some] <;> rfl) | (simp [*, errW_none, errW_some] <;> rfl), by repeat (first | (with_reducible first | exact HB.out | apply below_alloc | apply pw_below_drewN | apply below_drew1) | exact HB.out)⟩
                · rw [if_neg c22] at H
                  have c22b0 : (t190 == t183) = false := beq_eq_false_iff_ne.mpr c22
                  have c22b1 : (t190 != t183) = true := bne_iff_ne.mpr c22
                  replace H := Option.bind_eq_some_iff.mp H
                  obtain ⟨t196, A640, H⟩ := H
                  replace H : (if t185 = t196 then (if t192 = 1 then (if t190 = (wrap64 (t183 + 1)) then (if t184 = 12 then (if t191 = 1 then (quitrentlaw03_CivilBack.j1 kj12 a1 a2 a3) else (some false)) else (some false)) else (some false)) else (some false)) else (some false)) = some r := H
                  have A64 := Aside0.mk A640
                  clear A640
                  by_cases c65 : t185 = t196
                  · rw [if_pos c65] at H
                    have c65b0 : (t185 == t196) = true := beq_iff_eq.mpr c65
                    have c65b1 : (t185 != t196) = false := bne_eq_false_iff_eq.mpr c65
                    clear c65
                    by_cases c66 : t192 = 1
                    · rw [if_pos c66] at H
                      have c66b0 : (t192 == 1) = true := beq_iff_eq.mpr c66
                      have c66b1 : (t192 != 1) = false := bne_eq_false_iff_eq.mpr c66
                      clear c66
                      by_cases c67 : t190 = (wrap64 (t183 + 1))
                      · rw [if_pos c67] at H
                        have c67b0 : (t190 == (wrap64 (t183 + 1))) = true := beq_iff_eq.mpr c67
                        have c67b1 : (t190 != (wrap64 (t183 + 1))) = false := bne_eq_false_iff_eq.mpr c67
                        clear c67
                        by_cases c68 : t184 = 12
                        · rw [if_pos c68] at H
                          have c68b0 : (t184 == 12) = true := beq_iff_eq.mpr c68
                          have c68b1 : (t184 != 12) = false := bne_eq_false_iff_eq.mpr c68
                          clear c68
                          by_cases c69 : t191 = 1
                          · rw [if_pos c69] at H
                            have c69b0 : (t191 == 1) = true := beq_iff_eq.mpr c69
                            have c69b1 : (t191 != 1) = false := bne_eq_false_iff_eq.mpr c69
                            clear c69
                            have H' := Aside0.mk H
                            clear H
                            go_wp2_with (first | ((with_reducible refine gate_callee (f := 17) rfl ?_); refine goesL_ (some 66) rfl rfl Try.func17 (by kernel_rfl) rfl #[.int .i64 (wrap64 (a0 + 1))] rfl (by (try simp only [List.map_toArray, List.map_cons, List.map_nil]); first | done | rfl | (simp only [List.length_drop, List.length_take]; rfl)) ?_; (with_reducible refine (civil_Date.calls (wrap64 (a0 + 1)) t190 t191 t192 t193 _ A20.out).mono ?_); rintro e w70 ⟨rfl, hb⟩; refine ⟨_, rfl, ?_⟩; have n0_ := Aside0.mk (below_step (by repeat (first | (with_reducible first | exact HB.out | apply below_alloc | apply pw_below_drewN | apply below_drew1) | exact HB.out)) hb); clear HB; have HB := n0_; clear n0_; (try clear hb); (try clear hb2); (try clear hk); (try clear hi)) | ((with_reducible refine gate_callee (f := 21) rfl ?_); refine goesL_ (some 90) rfl rfl Try.func21 (by kernel_rfl) rfl #[.int .i64 t183, .int .i64 t184] rfl (by (try simp only [List.map_toArray, List.map_cons, List.map_nil]); first | done | rfl | (simp only [List.length_drop, List.length_take]; rfl)) ?_; (with_reducible refine (civil_Long.calls kj12 t183 t184 t196 _ A64.out).mono ?_); rintro e w' ⟨rfl, ⟨nd, rfl⟩⟩; refine ⟨_, rfl, ?_⟩))
                            go_meet
                            case rel => exact ⟨_, H', ⟨by have := HJ12.out; first | omega | exact Nat.le_refl _⟩, ⟨by repeat (first | (with_reducible first | exact HB.out | apply below_alloc | apply pw_below_drewN | apply below_drew1) | exact HB.out)⟩⟩
                          · rw [if_neg c69] at H
                            have c69b0 : (t191 == 1) = false := beq_eq_false_iff_ne.mpr c69
                            have c69b1 : (t191 != 1) = true := bne_iff_ne.mpr c69
                            obtain rfl := Option.some.inj H
                            go_wp2_with (first | ((with_reducible refine gate_callee (f := 17) rfl ?_); refine goesL_ (some 66) rfl rfl Try.func17 (by kernel_rfl) rfl #[.int .i64 (wrap64 (a0 + 1))] rfl (by (try simp only [List.map_toArray, List.map_cons, List.map_nil]); first | done | rfl | (simp only [List.length_drop, List.length_take]; rfl)) ?_; (with_reducible refine (civil_Date.calls (wrap64 (a0 + 1)) t190 t191 t192 t193 _ A20.out).mono ?_); rintro e w71 ⟨rfl, hb⟩; refine ⟨_, rfl, ?_⟩; have n0_ := Aside0.mk (below_step (by repeat (first | (with_reducible first | exact HB.out | apply below_alloc | apply pw_below_drewN | apply below_drew1) | exact HB.out)) hb); clear HB; have HB := n0_; clear n0_; (try clear hb); (try clear hb2); (try clear hk); (try clear hi)) | ((with_reducible refine gate_callee (f := 21) rfl ?_); refine goesL_ (some 90) rfl rfl Try.func21 (by kernel_rfl) rfl #[.int .i64 t183, .int .i64 t184] rfl (by (try simp only [List.map_toArray, List.map_cons, List.map_nil]); first | done | rfl | (simp only [List.length_drop, List.length_take]; rfl)) ?_; (with_reducible refine (civil_Long.calls kj12 t183 t184 t196 _ A64.out).mono ?_); rintro e w' ⟨rfl, ⟨nd, rfl⟩⟩; refine ⟨_, rfl, ?_⟩))
                            go_ret
                            exact ⟨by first | rfl | (simp [errW_none, errW_some] <;> rfl) | (simp [*, errW_none, errW_some] <;> rfl), by repeat (first | (with_reducible first | exact HB.out | apply below_alloc | apply pw_below_drewN | apply below_drew1) | exact HB.out)⟩
                        · rw [if_neg c68] at H
                          have c68b0 : (t184 == 12) = false := beq_eq_false_iff_ne.mpr c68
                          have c68b1 : (t184 != 12) = true := bne_iff_ne.mpr c68
                          obtain rfl := Option.some.inj H
                          go_wp2_with (first | ((with_reducible refine gate_callee (f := 17) rfl ?_); refine goesL_ (some 66) rfl rfl Try.func17 (by kernel_rfl) rfl #[.int .i64 (wrap64 (a0 + 1))] rfl (by (try simp only [List.map_toArray, List.map_cons, List.map_nil]); first | done | rfl | (simp only [List.length_drop, List.length_take]; rfl)) ?_; (with_reducible refine (civil_Date.calls (wrap64 (a0 + 1)) t190 t191 t192 t193 _ A20.out).mono ?_); rintro e w72 ⟨rfl, hb⟩; refine ⟨_, rfl, ?_⟩; have n0_ := Aside0.mk (below_step (by repeat (first | (with_reducible first | exact HB.out | apply below_alloc | apply pw_below_drewN | apply below_drew1) | exact HB.out)) hb); clear HB; have HB := n0_; clear n0_; (try clear hb); (try clear hb2); (try clear hk); (try clear hi)) | ((with_reducible refine gate_callee (f := 21) rfl ?_); refine goesL_ (some 90) rfl rfl Try.func21 (by kernel_rfl) rfl #[.int .i64 t183, .int .i64 t184] rfl (by (try simp only [List.map_toArray, List.map_cons, List.map_nil]); first | done | rfl | (simp only [List.length_drop, List.length_take]; rfl)) ?_; (with_reducible refine (civil_Long.calls kj12 t183 t184 t196 _ A64.out).mono ?_); rintro e w' ⟨rfl, ⟨nd, rfl⟩⟩; refine ⟨_, rfl, ?_⟩))
                          go_ret
                          exact ⟨by first | rfl | (simp [errW_none, errW_some] <;> rfl) | (simp [*, errW_none, errW_some] <;> rfl), by repeat (first | (with_reducible first | exact HB.out | apply below_alloc | apply pw_below_drewN | apply below_drew1) | exact HB.out)⟩
                      · rw [if_neg c67] at H
                        have c67b0 : (t190 == (wrap64 (t183 + 1))) = false := beq_eq_false_iff_ne.mpr c67
                        have c67b1 : (t190 != (wrap64 (t183 + 1))) = true := bne_iff_ne.mpr c67
                        obtain rfl := Option.some.inj H
                        go_wp2_with (first | ((with_reducible refine gate_callee (f := 17) rfl ?_); refine goesL_ (some 66) rfl rfl Try.func17 (by kernel_rfl) rfl #[.int .i64 (wrap64 (a0 + 1))] rfl (by (try simp only [List.map_toArray, List.map_cons, List.map_nil]); first | done | rfl | (simp only [List.length_drop, List.length_take]; rfl)) ?_; (with_reducible refine (civil_Date.calls (wrap64 (a0 + 1)) t190 t191 t192 t193 _ A20.out).mono ?_); rintro e w73 ⟨rfl, hb⟩; refine ⟨_, rfl, ?_⟩; have n0_ := Aside0.mk (below_step (by repeat (first | (with_reducible first | exact HB.out | apply below_alloc | apply pw_below_drewN | apply below_drew1) | exact HB.out)) hb); clear HB; have HB := n0_; clear n0_; (try clear hb); (try clear hb2); (try clear hk); (try clear hi)) | ((with_reducible refine gate_callee (f := 21) rfl ?_); refine goesL_ (some 90) rfl rfl Try.func21 (by kernel_rfl) rfl #[.int .i64 t183, .int .i64 t184] rfl (by (try simp only [List.map_toArray, List.map_cons, List.map_nil]); first | done | rfl | (simp only [List.length_drop, List.length_take]; rfl)) ?_; (with_reducible refine (civil_Long.calls kj12 t183 t184 t196 _ A64.out).mono ?_); rintro e w' ⟨rfl, ⟨nd, rfl⟩⟩; refine ⟨_, rfl, ?_⟩))
                        go_ret
                        exact ⟨by first | rfl | (simp [errW_none, errW_some] <;> rfl) | (simp [*, errW_none, errW_some] <;> rfl), by repeat (first | (with_reducible first | exact HB.out | apply below_alloc | apply pw_below_drewN | apply below_drew1) | exact HB.out)⟩
                    · rw [if_neg c66] at H
                      have c66b0 : (t192 == 1) = false := beq_eq_false_iff_ne.mpr c66
                      have c66b1 : (t192 != 1) = true := bne_iff_ne.mpr c66
                      obtain rfl := Option.some.inj H
                      go_wp2_with (first | ((with_reducible refine gate_callee (f := 17) rfl ?_); refine goesL_ (some 66) rfl rfl Try.func17 (by kernel_rfl) rfl #[.int .i64 (wrap64 (a0 + 1))] rfl (by (try simp only [List.map_toArray, List.map_cons, List.map_nil]); first | done | rfl | (simp only [List.length_drop, List.length_take]; rfl)) ?_; (with_reducible refine (civil_Date.calls (wrap64 (a0 + 1)) t190 t191 t192 t193 _ A20.out).mono ?_); rintro e w74 ⟨rfl, hb⟩; refine ⟨_, rfl, ?_⟩; have n0_ := Aside0.mk (below_step (by repeat (first | (with_reducible first | exact HB.out | apply below_alloc | apply pw_below_drewN | apply below_drew1) | exact HB.out)) hb); clear HB; have HB := n0_; clear n0_; (try clear hb); (try clear hb2); (try clear hk); (try clear hi)) | ((with_reducible refine gate_callee (f := 21) rfl ?_); refine goesL_ (some 90) rfl rfl Try.func21 (by kernel_rfl) rfl #[.int .i64 t183, .int .i64 t184] rfl (by (try simp only [List.map_toArray, List.map_cons, List.map_nil]); first | done | rfl | (simp only [List.length_drop, List.length_take]; rfl)) ?_; (with_reducible refine (civil_Long.calls kj12 t183 t184 t196 _ A64.out).mono ?_); rintro e w' ⟨rfl, ⟨nd, rfl⟩⟩; refine ⟨_, rfl, ?_⟩))
                      go_ret
                      exact ⟨by first | rfl | (simp [errW_none, errW_some] <;> rfl) | (simp [*, errW_none, errW_some] <;> rfl), by repeat (first | (with_reducible first | exact HB.out | apply below_alloc | apply pw_below_drewN | apply below_drew1) | exact HB.out)⟩
                  · rw [if_neg c65] at H
                    have c65b0 : (t185 == t196) = false := beq_eq_false_iff_ne.mpr c65
                    have c65b1 : (t185 != t196) = true := bne_iff_ne.mpr c65
                    obtain rfl := Option.some.inj H
                    go_wp2_with (first | ((with_reducible refine gate_callee (f := 17) rfl ?_); refine goesL_ (some 66) rfl rfl Try.func17 (by kernel_rfl) rfl #[.int .i64 (wrap64 (a0 + 1))] rfl (by (try simp only [List.map_toArray, List.map_cons, List.map_nil]); first | done | rfl | (simp only [List.length_drop, List.length_take]; rfl)) ?_; (with_reducible refine (civil_Date.calls (wrap64 (a0 + 1)) t190 t191 t192 t193 _ A20.out).mono ?_); rintro e w75 ⟨rfl, hb⟩; refine ⟨_, rfl, ?_⟩; have n0_ := Aside0.mk (below_step (by repeat (first | (with_reducible first | exact HB.out | apply below_alloc | apply pw_below_drewN | apply below_drew1) | exact HB.out)) hb); clear HB; have HB := n0_; clear n0_; (try clear hb); (try clear hb2); (try clear hk); (try clear hi)) | ((with_reducible refine gate_callee (f := 21) rfl ?_); refine goesL_ (some 90) rfl rfl Try.func21 (by kernel_rfl) rfl #[.int .i64 t183, .int .i64 t184] rfl (by (try simp only [List.map_toArray, List.map_cons, List.map_nil]); first | done | rfl | (simp only [List.length_drop, List.length_take]; rfl)) ?_; (with_reducible refine (civil_Long.calls kj12 t183 t184 t196 _ A64.out).mono ?_); rintro e w' ⟨rfl, ⟨nd, rfl⟩⟩; refine ⟨_, rfl, ?_⟩))
                    go_ret
                    exact ⟨by first | rfl | (simp [errW_none, errW_some] <;> rfl) | (simp [*, errW_none, errW_some] <;> rfl), by repeat (first | (with_reducible first | exact HB.out | apply below_alloc | apply pw_below_drewN | apply below_drew1) | exact HB.out)⟩
              · rw [if_neg c21] at H
                have c21b0 : (t193 == 0) = false := beq_eq_false_iff_ne.mpr c21
                have c21b1 : (t193 != 0) = true := bne_iff_ne.mpr c21
                have H' := Aside0.mk H
                clear H
                go_wp2_with (first | ((with_reducible refine gate_callee (f := 17) rfl ?_); refine goesL_ (some 66) rfl rfl Try.func17 (by kernel_rfl) rfl #[.int .i64 (wrap64 (a0 + 1))] rfl (by (try simp only [List.map_toArray, List.map_cons, List.map_nil]); first | done | rfl | (simp only [List.length_drop, List.length_take]; rfl)) ?_; (with_reducible refine (civil_Date.calls (wrap64 (a0 + 1)) t190 t191 t192 t193 _ A20.out).mono ?_); rintro e w76 ⟨rfl, hb⟩; refine ⟨_, rfl, ?_⟩; have n0_ := Aside0.mk (below_step (by repeat (first | (with_reducible first | exact HB.out | apply below_alloc | apply pw_below_drewN | apply below_drew1) | exact HB.out)) hb); clear HB; have HB := n0_; clear n0_; (try clear hb); (try clear hb2); (try clear hk); (try clear hi)))
                go_meet
                case rel => exact ⟨_, H', ⟨by have := HJ12.out; first | omega | exact Nat.le_refl _⟩, ⟨by repeat (first | (with_reducible first | exact HB.out | apply below_alloc | apply pw_below_drewN | apply below_drew1) | exact HB.out)⟩⟩
      · rw [if_neg c11] at H
        have c11b0 : (t186 == 0) = false := beq_eq_false_iff_ne.mpr c11
        have c11b1 : (t186 != 0) = true := bne_iff_ne.mpr c11
        (first | rw [c11b0] | (simp only [i64_w, i32_w]; rw [c11b0]) | skip)
        have H' := Aside0.mk H
        clear H
        go_wp2
        go_meet
        case rel => exact ⟨_, H', ⟨by first | omega | exact Nat.le_refl _⟩, ⟨by repeat (first | (with_reducible first | exact HB.out | apply below_alloc | apply pw_below_drewN | apply below_drew1) | exact HB.out)⟩⟩
    case rest =>
      clear HC8
      try clear c1
      try clear c2
      try clear p2
      try clear c3
      try clear c4
      try clear c5
      try clear c6
      try clear p6
      try clear c11
      try clear c11b0
      try clear c11b1
      try clear c14
      try clear c15
      try clear c15b0
      try clear c15b1
      try clear c16
      try clear c16b0
      try clear c16b1
      try clear c17
      try clear c17b0
      try clear c19
      try clear c21
      try clear c21b0
      try clear c21b1
      try clear c22
      try clear c22b0
      try clear c22b1
      try clear c23
      try clear c23b0
      try clear c23b1
      try clear c25
      try clear c25b0
      try clear c25b1
      try clear c26
      try clear c26b0
      try clear c26b1
      try clear c27
      try clear c27b0
      try clear c27b1
      try clear c28
      try clear c28b0
      try clear c28b1
      try clear c31
      try clear c31b0
      try clear c31b1
      try clear c32
      try clear c32b0
      try clear c32b1
      try clear c33
      try clear c33b0
      try clear c33b1
      try clear c35
      try clear c35b0
      try clear c35b1
      try clear c38
      try clear c38b0
      try clear c38b1
      try clear c41
      try clear c41b0
      try clear c41b1
      try clear c44
      try clear c44b0
      try clear c44b1
      try clear c47
      try clear c47b0
      try clear c47b1
      try clear c51
      try clear c51b0
      try clear c51b1
      try clear c52
      try clear c52b0
      try clear c52b1
      try clear c53
      try clear c53b0
      try clear c53b1
      try clear c55
      try clear c55b0
      try clear c55b1
      try clear c56
      try clear c56b0
      try clear c56b1
      try clear c57
      try clear c57b0
      try clear c57b1
      try clear p64
      try clear c65
      try clear c65b0
      try clear c65b1
      try clear c66
      try clear c66b0
      try clear c66b1
      try clear c67
      try clear c67b0
      try clear c67b1
      try clear c68
      try clear c68b0
      try clear c68b1
      try clear c69
      try clear c69b0
      try clear c69b1
      try clear p2
      obtain ⟨kq, HA, HJ7, HB⟩ := hcut
      cases kq with
      | zero => exact absurd HA.out (by simp [quitrentlaw03_CivilBack.j1])
      | succ kj7 =>
        have H := HA.out
        clear HA
        simp only [quitrentlaw03_CivilBack.j1] at H
        replace H := Option.bind_eq_some_iff.mp H
        obtain ⟨⟨t197, t198⟩, A770, H⟩ := H
        replace H : (if t198 = 0 then ((civil_Date.f t197).bind fun bt199 => (if bt199.2.2.2 = 0 then (if bt199.1 = a1 then (if bt199.2.1 = a2 then (some (bt199.2.2.1 == a3)) else (some false)) else (some false)) else (some false))) else (some (t197 == 0))) = some r := H
        have A77 := Aside0.mk A770
        clear A770
        by_cases c78 : t198 = 0
        · rw [if_pos c78] at H
          have c78b0 : (t198 == 0) = true := beq_iff_eq.mpr c78
          have c78b1 : (t198 != 0) = false := bne_eq_false_iff_eq.mpr c78
          clear c78
          replace H := Option.bind_eq_some_iff.mp H
          obtain ⟨⟨t199, t200, t201, t202⟩, A790, H⟩ := H
          replace H : (if t202 = 0 then (if t199 = a1 then (if t200 = a2 then (some (t201 == a3)) else (some false)) else (some false)) else (some false)) = some r := H
          have A79 := Aside0.mk A790
          clear A790
          by_cases c80 : t202 = 0
          · rw [if_pos c80] at H
            have c80b0 : (t202 == 0) = true := beq_iff_eq.mpr c80
            have c80b1 : (t202 != 0) = false := bne_eq_false_iff_eq.mpr c80
            clear c80
            by_cases c81 : t199 = a1
            · rw [if_pos c81] at H
              have c81b0 : (t199 == a1) = true := beq_iff_eq.mpr c81
              have c81b1 : (t199 != a1) = false := bne_eq_false_iff_eq.mpr c81
              clear c81
              by_cases c82 : t200 = a2
              · rw [if_pos c82] at H
                have c82b0 : (t200 == a2) = true := beq_iff_eq.mpr c82
                have c82b1 : (t200 != a2) = false := bne_eq_false_iff_eq.mpr c82
                clear c82
                obtain rfl := Option.some.inj H
                go_wp2_with (first | ((with_reducible refine gate_callee (f := 15) rfl ?_); refine goesL_ (some 131) rfl rfl Try.func15 (by kernel_rfl) rfl #[.int .i64 a1, .int .i64 a2, .int .i64 a3] rfl (by (try simp only [List.map_toArray, List.map_cons, List.map_nil]); first | done | rfl | (simp only [List.length_drop, List.length_take]; rfl)) ?_; (with_reducible refine (civil_Days.calls kj7 a1 a2 a3 t197 t198 _ A77.out).mono ?_); rintro e w83 ⟨rfl, hb⟩; refine ⟨_, rfl, ?_⟩; have n0_ := Aside0.mk (below_step (by repeat (first | (with_reducible first | exact HB.out | apply below_alloc | apply pw_below_drewN | apply below_drew1) | exact HB.out)) hb); clear HB; have HB := n0_; clear n0_; (try clear hb); (try clear hb2); (try clear hk); (try clear hi)) | ((with_reducible refine gate_callee (f := 17) rfl ?_); refine goesL_ (some 140) rfl rfl Try.func17 (by kernel_rfl) rfl #[.int .i64 t197] rfl (by (try simp only [List.map_toArray, List.map_cons, List.map_nil]); first | done | rfl | (simp only [List.length_drop, List.length_take]; rfl)) ?_; (with_reducible refine (civil_Date.calls t197 t199 t200 t201 t202 _ A79.out).mono ?_); rintro e w84 ⟨rfl, hb⟩; refine ⟨_, rfl, ?_⟩; have n0_ := Aside0.mk (below_step (by repeat (first | (with_reducible first | exact HB.out | apply below_alloc | apply pw_below_drewN | apply below_drew1) | exact HB.out)) hb); clear HB; have HB := n0_; clear n0_; (try clear hb); (try clear hb2); (try clear hk); (try clear hi)))
                go_ret
                exact ⟨by first | rfl | (simp [errW_none, errW_some] <;> rfl) | (simp [*, errW_none, errW_some] <;> rfl), by repeat (first | (with_reducible first | exact HB.out | apply below_alloc | apply pw_below_drewN | apply below_drew1) | exact HB.out)⟩
              · rw [if_neg c82] at H
                have c82b0 : (t200 == a2) = false := beq_eq_false_iff_ne.mpr c82
                have c82b1 : (t200 != a2) = true := bne_iff_ne.mpr c82
                obtain rfl := Option.some.inj H
                go_wp2_with (first | ((with_reducible refine gate_callee (f := 15) rfl ?_); refine goesL_ (some 131) rfl rfl Try.func15 (by kernel_rfl) rfl #[.int .i64 a1, .int .i64 a2, .int .i64 a3] rfl (by (try simp only [List.map_toArray, List.map_cons, List.map_nil]); first | done | rfl | (simp only [List.length_drop, List.length_take]; rfl)) ?_; (with_reducible refine (civil_Days.calls kj7 a1 a2 a3 t197 t198 _ A77.out).mono ?_); rintro e w85 ⟨rfl, hb⟩; refine ⟨_, rfl, ?_⟩; have n0_ := Aside0.mk (below_step (by repeat (first | (with_reducible first | exact HB.out | apply below_alloc | apply pw_below_drewN | apply below_drew1) | exact HB.out)) hb); clear HB; have HB := n0_; clear n0_; (try clear hb); (try clear hb2); (try clear hk); (try clear hi)) | ((with_reducible refine gate_callee (f := 17) rfl ?_); refine goesL_ (some 140) rfl rfl Try.func17 (by kernel_rfl) rfl #[.int .i64 t197] rfl (by (try simp only [List.map_toArray, List.map_cons, List.map_nil]); first | done | rfl | (simp only [List.length_drop, List.length_take]; rfl)) ?_; (with_reducible refine (civil_Date.calls t197 t199 t200 t201 t202 _ A79.out).mono ?_); rintro e w86 ⟨rfl, hb⟩; refine ⟨_, rfl, ?_⟩; have n0_ := Aside0.mk (below_step (by repeat (first | (with_reducible first | exact HB.out | apply below_alloc | apply pw_below_drewN | apply below_drew1) | exact HB.out)) hb); clear HB; have HB := n0_; clear n0_; (try clear hb); (try clear hb2); (try clear hk); (try clear hi)))
                go_ret
                exact ⟨by first | rfl | (simp [errW_none, errW_some] <;> rfl) | (simp [*, errW_none, errW_some] <;> rfl), by repeat (first | (with_reducible first | exact HB.out | apply below_alloc | apply pw_below_drewN | apply below_drew1) | exact HB.out)⟩
            · rw [if_neg c81] at H
              have c81b0 : (t199 == a1) = false := beq_eq_false_iff_ne.mpr c81
              have c81b1 : (t199 != a1) = true := bne_iff_ne.mpr c81
              obtain rfl := Option.some.inj H
              go_wp2_with (first | ((with_reducible refine gate_callee (f := 15) rfl ?_); refine goesL_ (some 131) rfl rfl Try.func15 (by kernel_rfl) rfl #[.int .i64 a1, .int .i64 a2, .int .i64 a3] rfl (by (try simp only [List.map_toArray, List.map_cons, List.map_nil]); first | done | rfl | (simp only [List.length_drop, List.length_take]; rfl)) ?_; (with_reducible refine (civil_Days.calls kj7 a1 a2 a3 t197 t198 _ A77.out).mono ?_); rintro e w87 ⟨rfl, hb⟩; refine ⟨_, rfl, ?_⟩; have n0_ := Aside0.mk (below_step (by repeat (first | (with_reducible first | exact HB.out | apply below_alloc | apply pw_below_drewN | apply below_drew1) | exact HB.out)) hb); clear HB; have HB := n0_; clear n0_; (try clear hb); (try clear hb2); (try clear hk); (try clear hi)) | ((with_reducible refine gate_callee (f := 17) rfl ?_); refine goesL_ (some 140) rfl rfl Try.func17 (by kernel_rfl) rfl #[.int .i64 t197] rfl (by (try simp only [List.map_toArray, List.map_cons, List.map_nil]); first | done | rfl | (simp only [List.length_drop, List.length_take]; rfl)) ?_; (with_reducible refine (civil_Date.calls t197 t199 t200 t201 t202 _ A79.out).mono ?_); rintro e w88 ⟨rfl, hb⟩; refine ⟨_, rfl, ?_⟩; have n0_ := Aside0.mk (below_step (by repeat (first | (with_reducible first | exact HB.out | apply below_alloc | apply pw_below_drewN | apply below_drew1) | exact HB.out)) hb); clear HB; have HB := n0_; clear n0_; (try clear hb); (try clear hb2); (try clear hk); (try clear hi)))
              go_ret
              exact ⟨by first | rfl | (simp [errW_none, errW_some] <;> rfl) | (simp [*, errW_none, errW_some] <;> rfl), by repeat (first | (with_reducible first | exact HB.out | apply below_alloc | apply pw_below_drewN | apply below_drew1) | exact HB.out)⟩
          · rw [if_neg c80] at H
            have c80b0 : (t202 == 0) = false := beq_eq_false_iff_ne.mpr c80
            have c80b1 : (t202 != 0) = true := bne_iff_ne.mpr c80
            obtain rfl := Option.some.inj H
            go_wp2_with (first | ((with_reducible refine gate_callee (f := 15) rfl ?_); refine goesL_ (some 131) rfl rfl Try.func15 (by kernel_rfl) rfl #[.int .i64 a1, .int .i64 a2, .int .i64 a3] rfl (by (try simp only [List.map_toArray, List.map_cons, List.map_nil]); first | done | rfl | (simp only [List.length_drop, List.length_take]; rfl)) ?_; (with_reducible refine (civil_Days.calls kj7 a1 a2 a3 t197 t198 _ A77.out).mono ?_); rintro e w89 ⟨rfl, hb⟩; refine ⟨_, rfl, ?_⟩; have n0_ := Aside0.mk (below_step (by repeat (first | (with_reducible first | exact HB.out | apply below_alloc | apply pw_below_drewN | apply below_drew1) | exact HB.out)) hb); clear HB; have HB := n0_; clear n0_; (try clear hb); (try clear hb2); (try clear hk); (try clear hi)) | ((with_reducible refine gate_callee (f := 17) rfl ?_); refine goesL_ (some 140) rfl rfl Try.func17 (by kernel_rfl) rfl #[.int .i64 t197] rfl (by (try simp only [List.map_toArray, List.map_cons, List.map_nil]); first | done | rfl | (simp only [List.length_drop, List.length_take]; rfl)) ?_; (with_reducible refine (civil_Date.calls t197 t199 t200 t201 t202 _ A79.out).mono ?_); rintro e w90 ⟨rfl, hb⟩; refine ⟨_, rfl, ?_⟩; have n0_ := Aside0.mk (below_step (by repeat (first | (with_reducible first | exact HB.out | apply below_alloc | apply pw_below_drewN | apply below_drew1) | exact HB.out)) hb); clear HB; have HB := n0_; clear n0_; (try clear hb); (try clear hb2); (try clear hk); (try clear hi)))
            go_ret
            exact ⟨by first | rfl | (simp [errW_none, errW_some] <;> rfl) | (simp [*, errW_none, errW_some] <;> rfl), by repeat (first | (with_reducible first | exact HB.out | apply below_alloc | apply pw_below_drewN | apply below_drew1) | exact HB.out)⟩
        · rw [if_neg c78] at H
          have c78b0 : (t198 == 0) = false := beq_eq_false_iff_ne.mpr c78
          have c78b1 : (t198 != 0) = true := bne_iff_ne.mpr c78
          obtain rfl := Option.some.inj H
          go_wp2_with (first | ((with_reducible refine gate_callee (f := 15) rfl ?_); refine goesL_ (some 131) rfl rfl Try.func15 (by kernel_rfl) rfl #[.int .i64 a1, .int .i64 a2, .int .i64 a3] rfl (by (try simp only [List.map_toArray, List.map_cons, List.map_nil]); first | done | rfl | (simp only [List.length_drop, List.length_take]; rfl)) ?_; (with_reducible refine (civil_Days.calls kj7 a1 a2 a3 t197 t198 _ A77.out).mono ?_); rintro e w91 ⟨rfl, hb⟩; refine ⟨_, rfl, ?_⟩; have n0_ := Aside0.mk (below_step (by repeat (first | (with_reducible first | exact HB.out | apply below_alloc | apply pw_below_drewN | apply below_drew1) | exact HB.out)) hb); clear HB; have HB := n0_; clear n0_; (try clear hb); (try clear hb2); (try clear hk); (try clear hi)))
          go_ret
          exact ⟨by first | rfl | (simp [errW_none, errW_some] <;> rfl) | (simp [*, errW_none, errW_some] <;> rfl), by repeat (first | (with_reducible first | exact HB.out | apply below_alloc | apply pw_below_drewN | apply below_drew1) | exact HB.out)⟩
  · replace c6 := Bool.eq_false_iff.mpr c6
    subst c6
    have H1 : (some false) = some r := by rw [if_neg (show ¬ (false = true) by decide)] at H; exact H
    clear H
    have H := H1
    clear H1
    obtain rfl := Option.some.inj H
    go_enter Try.func5, Try.ntmps5
    go_wp2_with (first | ((with_reducible refine gate_callee (f := 14) rfl ?_); refine goesL_ (some 27) rfl rfl Try.func14 (by kernel_rfl) rfl #[] rfl (by (try simp only [List.map_toArray, List.map_cons, List.map_nil]); first | done | rfl | (simp only [List.length_drop, List.length_take]; rfl)) ?_; (with_reducible refine (quitrentlaw03_awake.calls k  false _ A5.out).mono ?_); rintro e w92 ⟨rfl, hb⟩; refine ⟨_, rfl, ?_⟩; have n0_ := Aside0.mk (below_step (by repeat (first | (with_reducible first | exact HB.out | apply below_alloc | apply pw_below_drewN | apply below_drew1) | exact HB.out)) hb); clear HB; have HB := n0_; clear n0_; (try clear hb); (try clear hb2); (try clear hk); (try clear hi)))
    go_ret
    exact ⟨by first | rfl | (simp [errW_none, errW_some] <;> rfl) | (simp [*, errW_none, errW_some] <;> rfl), by repeat (first | (with_reducible first | exact HB.out | apply below_alloc | apply pw_below_drewN | apply below_drew1) | exact HB.out)⟩

/-- THE ONE PURE STATEMENT of quitrentlaw03_CivilBack: yours. -/
def quitrentlaw03_CivilBack.Pure : Prop := ∀ (a0 : Int) (a1 : Int) (a2 : Int) (a3 : Int), (Lit.int .i64 a0).wf = true → (Lit.int .i64 a1).wf = true → (Lit.int .i64 a2).wf = true → (Lit.int .i64 a3).wf = true → ∃ k, quitrentlaw03_CivilBack.f k a0 a1 a2 a3 = some true
theorem quitrentlaw03_CivilBack.walk (P : quitrentlaw03_CivilBack.Pure) (a0 : Int) (a1 : Int) (a2 : Int) (a3 : Int) (w : World) (w0 : (Lit.int .i64 a0).wf = true) (w1 : (Lit.int .i64 a1).wf = true) (w2 : (Lit.int .i64 a2).wf = true) (w3 : (Lit.int .i64 a3).wf = true) :
    Calls Try.prog 5 #[.int .i64 a0, .int .i64 a1, .int .i64 a2, .int .i64 a3] w fun e w' => e = .returned (.bool true) ∧ Below w.heap.size w w' := by
  obtain ⟨k, h⟩ := P a0 a1 a2 a3 w0 w1 w2 w3
  refine (quitrentlaw03_CivilBack.calls k a0 a1 a2 a3 true w h).mono ?_
  rintro e w' ⟨rfl, hd⟩
  exact ⟨rfl, hd⟩
end Go.Proofs.Ytkfbmplhcigopaa.PCiv
