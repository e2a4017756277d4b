-- out of the print of PFis: quitrentlaw04_FiscalNext
import Derived.Test.YtkfbmplhcigopabPFisx0
import Derived.Test.YtkfbmplhcigopabPFisx1
import Derived.Test.YtkfbmplhcigopabPFisF18
import Derived.Test.YtkfbmplhcigopabPFisF19
import Derived.Test.YtkfbmplhcigopabPFisF21
import Derived.Test.YtkfbmplhcigopabPFisF23
import Derived.Test.YtkfbmplhcigopabPFisF25
import Derived.Test.YtkfbmplhcigopabPFisF27
namespace Go.Proofs.Ytkfbmplhcigopab.PFis
open Go.RowKit Go.Proofs.YtkfbmplhcigopabW.PrintWords Go.Proofs.YtkfbmplhcigopabW.PrintLast Go.Proofs.YtkfbmplhcigopabW.PrintMore
attribute [local go_sem] max2_int min2_int max_two min_two max_three min_three max_four min_four   -- for this text's walks alone
set_option linter.unusedVariables false
set_option linter.unusedSimpArgs false

/-! ### quitrentlaw04_FiscalNext: function 6 -/
def quitrentlaw04_FiscalNext.j0 : Nat → Int → Int → Int → Int → Bool → Int → Int → Option (Bool)
  | 0, _, _, _, _, _, _, _ => none
  | k + 1, x1, x2, x7, x9, x93, x222000, x222001 => if x93 = true then (some false) else ((fiscal_First.f k x222000 x222001 (wrap64 (x1 + 1))).bind fun bt234 => (if bt234.2 = 0 then (if bt234.1 = (wrap64 (x9 + 1)) then ((fiscal_Of.f k x222000 x222001 x2).bind fun bt236 => (if bt236.1 = x1 then (if x7 ≤ x2 then (some ((bt236.2 == 0) == (decide (x2 ≤ x9)))) else (some ((bt236.2 == 0) == false))) else (if x7 ≤ x2 then (some (false == (decide (x2 ≤ x9)))) else (some (false == false))))) else (none)) else ((fiscal_Of.f k x222000 x222001 x2).bind fun bt238 => (if bt238.1 = x1 then (if x7 ≤ x2 then (some ((bt238.2 == 0) == (decide (x2 ≤ x9)))) else (some ((bt238.2 == 0) == false))) else (if x7 ≤ x2 then (some (false == (decide (x2 ≤ x9)))) else (some (false == false)))))))
def quitrentlaw04_FiscalNext.f (k : Nat) (a0_0 : Int) (a0_1 : Int) (a1 : Int) (a2 : Int) : Option (Bool) := (quitrentlaw04_awake.f k).bind fun t222 => (if t222 = true then ((fiscal_Check.f k a0_0 a0_1).bind fun t223 => (if t223 = 0 then ((fiscal_First.f k a0_0 a0_1 a1).bind fun bt224 => ((fiscal_Last.f k a0_0 a0_1 a1).bind fun bt226 => (if bt224.2 = 0 then ((fiscal_Of.f k a0_0 a0_1 bt224.1).bind fun bt229 => ((fiscal_Of.f k a0_0 a0_1 bt226.1).bind fun bt231 => (if bt226.2 = 0 then ((fiscal_Days.f k a0_0 a0_1 a1).bind fun t233 => (if (wrap64 ((wrap64 (bt226.1 - bt224.1)) + 1)) = t233 then (if bt226.1 < bt224.1 then (quitrentlaw04_FiscalNext.j0 k a1 a2 bt224.1 bt226.1 true a0_0 a0_1) else (if bt229.1 = a1 then (if bt231.1 = a1 then (if bt229.2 = 0 then (quitrentlaw04_FiscalNext.j0 k a1 a2 bt224.1 bt226.1 (bt231.2 != 0) a0_0 a0_1) else (quitrentlaw04_FiscalNext.j0 k a1 a2 bt224.1 bt226.1 true a0_0 a0_1)) else (quitrentlaw04_FiscalNext.j0 k a1 a2 bt224.1 bt226.1 true a0_0 a0_1)) else (quitrentlaw04_FiscalNext.j0 k a1 a2 bt224.1 bt226.1 true a0_0 a0_1))) else (quitrentlaw04_FiscalNext.j0 k a1 a2 bt224.1 bt226.1 true a0_0 a0_1))) else (quitrentlaw04_FiscalNext.j0 k a1 a2 bt224.1 bt226.1 true a0_0 a0_1)))) else (if bt226.2 = bt224.2 then ((fiscal_Days.f k a0_0 a0_1 a1).bind fun t228 => (some (t228 == 0))) else (none))))) else (some true))) else (none))
theorem quitrentlaw04_FiscalNext.mono_l : ∀ k, (∀ y0 y1 y2 y3 y4 y5 y6, LeO (quitrentlaw04_FiscalNext.j0 k y0 y1 y2 y3 y4 y5 y6) (quitrentlaw04_FiscalNext.j0 (k + 1) y0 y1 y2 y3 y4 y5 y6))
  | 0 => fun _ _ _ _ _ _ _ r h => by simp [quitrentlaw04_FiscalNext.j0] at h
  | k + 1 => by
    have ih0 := quitrentlaw04_FiscalNext.mono_l k
    · intro y0 y1 y2 y3 y4 y5 y6
      unfold quitrentlaw04_FiscalNext.j0
      repeat' first
      | (with_reducible exact ih0 _ _ _ _ _ _ _)
      | (with_reducible exact fiscal_Check.mono _ _ _)
      | (with_reducible exact fiscal_Days.mono _ _ _ _)
      | (with_reducible exact fiscal_First.mono _ _ _ _)
      | (with_reducible exact fiscal_Last.mono _ _ _ _)
      | (with_reducible exact fiscal_Of.mono _ _ _ _)
      | (with_reducible exact quitrentlaw04_awake.mono _)
      | (with_reducible exact LeO.refl _)
      | (with_reducible exact LeO.none _)
      | (with_reducible refine LeO.ite ?_ ?_)
      | (with_reducible refine LeO.bind ?_ (fun _ => ?_))
      | exact ih0 _ _ _ _ _ _ _
      | exact fiscal_Check.mono _ _ _
      | exact fiscal_Days.mono _ _ _ _
      | exact fiscal_First.mono _ _ _ _
      | exact fiscal_Last.mono _ _ _ _
      | exact fiscal_Of.mono _ _ _ _
      | exact quitrentlaw04_awake.mono _
      | exact LeO.none _
      | refine LeO.ite ?_ ?_
      | refine LeO.bind ?_ (fun _ => ?_)
theorem quitrentlaw04_FiscalNext.mono : ∀ a0 a1 a2 a3 k, LeO (quitrentlaw04_FiscalNext.f k a0 a1 a2 a3) (quitrentlaw04_FiscalNext.f (k + 1) a0 a1 a2 a3) := by
  intro a0 a1 a2 a3 k
  have ih0 := quitrentlaw04_FiscalNext.mono_l k
  unfold quitrentlaw04_FiscalNext.f
  repeat' first
      | (with_reducible exact ih0 _ _ _ _ _ _ _)
      | (with_reducible exact fiscal_Check.mono _ _ _)
      | (with_reducible exact fiscal_Days.mono _ _ _ _)
      | (with_reducible exact fiscal_First.mono _ _ _ _)
      | (with_reducible exact fiscal_Last.mono _ _ _ _)
      | (with_reducible exact fiscal_Of.mono _ _ _ _)
      | (with_reducible exact quitrentlaw04_awake.mono _)
      | (with_reducible exact LeO.refl _)
      | (with_reducible exact LeO.none _)
      | (with_reducible refine LeO.ite ?_ ?_)
      | (with_reducible refine LeO.bind ?_ (fun _ => ?_))
      | exact ih0 _ _ _ _ _ _ _
      | exact fiscal_Check.mono _ _ _
      | exact fiscal_Days.mono _ _ _ _
      | exact fiscal_First.mono _ _ _ _
      | exact fiscal_Last.mono _ _ _ _
      | exact fiscal_Of.mono _ _ _ _
      | exact quitrentlaw04_awake.mono _
      | exact LeO.none _
      | refine LeO.ite ?_ ?_
      | refine LeO.bind ?_ (fun _ => ?_)
set_option maxHeartbeats 8000000 in
set_option maxRecDepth 100000 in
theorem quitrentlaw04_FiscalNext.calls (k : Nat) (a0_0 : Int) (a0_1 : Int) (a1 : Int) (a2 : Int) (r : Bool) (w : World) (h : quitrentlaw04_FiscalNext.f k a0_0 a0_1 a1 a2 = some r) :
    Calls Try.prog 6 #[.agg #[.int .i64 a0_0, .int .i64 a0_1], .int .i64 a1, .int .i64 a2] w fun e w' => e = .returned (.bool r) ∧ Below w.heap.size w w' := by
  have hu44 := Try.underlying44
  have HB := Aside0.mk (Below.refl w.heap.size w)
  have H : ((quitrentlaw04_awake.f k).bind fun t222 => (if t222 = true then ((fiscal_Check.f k a0_0 a0_1).bind fun t223 => (if t223 = 0 then ((fiscal_First.f k a0_0 a0_1 a1).bind fun bt224 => ((fiscal_Last.f k a0_0 a0_1 a1).bind fun bt226 => (if bt224.2 = 0 then ((fiscal_Of.f k a0_0 a0_1 bt224.1).bind fun bt229 => ((fiscal_Of.f k a0_0 a0_1 bt226.1).bind fun bt231 => (if bt226.2 = 0 then ((fiscal_Days.f k a0_0 a0_1 a1).bind fun t233 => (if (wrap64 ((wrap64 (bt226.1 - bt224.1)) + 1)) = t233 then (if bt226.1 < bt224.1 then (quitrentlaw04_FiscalNext.j0 k a1 a2 bt224.1 bt226.1 true a0_0 a0_1) else (if bt229.1 = a1 then (if bt231.1 = a1 then (if bt229.2 = 0 then (quitrentlaw04_FiscalNext.j0 k a1 a2 bt224.1 bt226.1 (bt231.2 != 0) a0_0 a0_1) else (quitrentlaw04_FiscalNext.j0 k a1 a2 bt224.1 bt226.1 true a0_0 a0_1)) else (quitrentlaw04_FiscalNext.j0 k a1 a2 bt224.1 bt226.1 true a0_0 a0_1)) else (quitrentlaw04_FiscalNext.j0 k a1 a2 bt224.1 bt226.1 true a0_0 a0_1))) else (quitrentlaw04_FiscalNext.j0 k a1 a2 bt224.1 bt226.1 true a0_0 a0_1))) else (quitrentlaw04_FiscalNext.j0 k a1 a2 bt224.1 bt226.1 true a0_0 a0_1)))) else (if bt226.2 = bt224.2 then ((fiscal_Days.f k a0_0 a0_1 a1).bind fun t228 => (some (t228 == 0))) else (none))))) else (some true))) else (none))) = some r := h
  clear h
  replace H := Option.bind_eq_some_iff.mp H
  obtain ⟨t222, A40, H⟩ := H
  replace H : (if t222 = true then ((fiscal_Check.f k a0_0 a0_1).bind fun t223 => (if t223 = 0 then ((fiscal_First.f k a0_0 a0_1 a1).bind fun bt224 => ((fiscal_Last.f k a0_0 a0_1 a1).bind fun bt226 => (if bt224.2 = 0 then ((fiscal_Of.f k a0_0 a0_1 bt224.1).bind fun bt229 => ((fiscal_Of.f k a0_0 a0_1 bt226.1).bind fun bt231 => (if bt226.2 = 0 then ((fiscal_Days.f k a0_0 a0_1 a1).bind fun t233 => (if (wrap64 ((wrap64 (bt226.1 - bt224.1)) + 1)) = t233 then (if bt226.1 < bt224.1 then (quitrentlaw04_FiscalNext.j0 k a1 a2 bt224.1 bt226.1 true a0_0 a0_1) else (if bt229.1 = a1 then (if bt231.1 = a1 then (if bt229.2 = 0 then (quitrentlaw04_FiscalNext.j0 k a1 a2 bt224.1 bt226.1 (bt231.2 != 0) a0_0 a0_1) else (quitrentlaw04_FiscalNext.j0 k a1 a2 bt224.1 bt226.1 true a0_0 a0_1)) else (quitrentlaw04_FiscalNext.j0 k a1 a2 bt224.1 bt226.1 true a0_0 a0_1)) else (quitrentlaw04_FiscalNext.j0 k a1 a2 bt224.1 bt226.1 true a0_0 a0_1))) else (quitrentlaw04_FiscalNext.j0 k a1 a2 bt224.1 bt226.1 true a0_0 a0_1))) else (quitrentlaw04_FiscalNext.j0 k a1 a2 bt224.1 bt226.1 true a0_0 a0_1)))) else (if bt226.2 = bt224.2 then ((fiscal_Days.f k a0_0 a0_1 a1).bind fun t228 => (some (t228 == 0))) else (none))))) else (some true))) else (none)) = some r := H
  have A4 := Aside0.mk A40
  clear A40
  by_cases c5 : t222 = true
  · subst c5
    have H1 : ((fiscal_Check.f k a0_0 a0_1).bind fun t223 => (if t223 = 0 then ((fiscal_First.f k a0_0 a0_1 a1).bind fun bt224 => ((fiscal_Last.f k a0_0 a0_1 a1).bind fun bt226 => (if bt224.2 = 0 then ((fiscal_Of.f k a0_0 a0_1 bt224.1).bind fun bt229 => ((fiscal_Of.f k a0_0 a0_1 bt226.1).bind fun bt231 => (if bt226.2 = 0 then ((fiscal_Days.f k a0_0 a0_1 a1).bind fun t233 => (if (wrap64 ((wrap64 (bt226.1 - bt224.1)) + 1)) = t233 then (if bt226.1 < bt224.1 then (quitrentlaw04_FiscalNext.j0 k a1 a2 bt224.1 bt226.1 true a0_0 a0_1) else (if bt229.1 = a1 then (if bt231.1 = a1 then (if bt229.2 = 0 then (quitrentlaw04_FiscalNext.j0 k a1 a2 bt224.1 bt226.1 (bt231.2 != 0) a0_0 a0_1) else (quitrentlaw04_FiscalNext.j0 k a1 a2 bt224.1 bt226.1 true a0_0 a0_1)) else (quitrentlaw04_FiscalNext.j0 k a1 a2 bt224.1 bt226.1 true a0_0 a0_1)) else (quitrentlaw04_FiscalNext.j0 k a1 a2 bt224.1 bt226.1 true a0_0 a0_1))) else (quitrentlaw04_FiscalNext.j0 k a1 a2 bt224.1 bt226.1 true a0_0 a0_1))) else (quitrentlaw04_FiscalNext.j0 k a1 a2 bt224.1 bt226.1 true a0_0 a0_1)))) else (if bt226.2 = bt224.2 then ((fiscal_Days.f k a0_0 a0_1 a1).bind fun t228 => (some (t228 == 0))) else (none))))) else (some true))) = some r := by rw [if_pos rfl] at H; exact H
    clear H
    have H := H1
    clear H1
    replace H := Option.bind_eq_some_iff.mp H
    obtain ⟨t223, A60, H⟩ := H
    replace H : (if t223 = 0 then ((fiscal_First.f k a0_0 a0_1 a1).bind fun bt224 => ((fiscal_Last.f k a0_0 a0_1 a1).bind fun bt226 => (if bt224.2 = 0 then ((fiscal_Of.f k a0_0 a0_1 bt224.1).bind fun bt229 => ((fiscal_Of.f k a0_0 a0_1 bt226.1).bind fun bt231 => (if bt226.2 = 0 then ((fiscal_Days.f k a0_0 a0_1 a1).bind fun t233 => (if (wrap64 ((wrap64 (bt226.1 - bt224.1)) + 1)) = t233 then (if bt226.1 < bt224.1 then (quitrentlaw04_FiscalNext.j0 k a1 a2 bt224.1 bt226.1 true a0_0 a0_1) else (if bt229.1 = a1 then (if bt231.1 = a1 then (if bt229.2 = 0 then (quitrentlaw04_FiscalNext.j0 k a1 a2 bt224.1 bt226.1 (bt231.2 != 0) a0_0 a0_1) else (quitrentlaw04_FiscalNext.j0 k a1 a2 bt224.1 bt226.1 true a0_0 a0_1)) else (quitrentlaw04_FiscalNext.j0 k a1 a2 bt224.1 bt226.1 true a0_0 a0_1)) else (quitrentlaw04_FiscalNext.j0 k a1 a2 bt224.1 bt226.1 true a0_0 a0_1))) else (quitrentlaw04_FiscalNext.j0 k a1 a2 bt224.1 bt226.1 true a0_0 a0_1))) else (quitrentlaw04_FiscalNext.j0 k a1 a2 bt224.1 bt226.1 true a0_0 a0_1)))) else (if bt226.2 = bt224.2 then ((fiscal_Days.f k a0_0 a0_1 a1).bind fun t228 => (some (t228 == 0))) else (none))))) else (some true)) = some r := H
    have A6 := Aside0.mk A60
    clear A60
    by_cases c7 : t223 = 0
    · rw [if_pos c7] at H
      have c7b0 : (t223 == 0) = true := beq_iff_eq.mpr c7
      have c7b1 : (t223 != 0) = false := bne_eq_false_iff_eq.mpr c7
      clear c7
      replace H := Option.bind_eq_some_iff.mp H
      obtain ⟨⟨t224, t225⟩, A80, H⟩ := H
      replace H : ((fiscal_Last.f k a0_0 a0_1 a1).bind fun bt226 => (if t225 = 0 then ((fiscal_Of.f k a0_0 a0_1 t224).bind fun bt229 => ((fiscal_Of.f k a0_0 a0_1 bt226.1).bind fun bt231 => (if bt226.2 = 0 then ((fiscal_Days.f k a0_0 a0_1 a1).bind fun t233 => (if (wrap64 ((wrap64 (bt226.1 - t224)) + 1)) = t233 then (if bt226.1 < t224 then (quitrentlaw04_FiscalNext.j0 k a1 a2 t224 bt226.1 true a0_0 a0_1) else (if bt229.1 = a1 then (if bt231.1 = a1 then (if bt229.2 = 0 then (quitrentlaw04_FiscalNext.j0 k a1 a2 t224 bt226.1 (bt231.2 != 0) a0_0 a0_1) else (quitrentlaw04_FiscalNext.j0 k a1 a2 t224 bt226.1 true a0_0 a0_1)) else (quitrentlaw04_FiscalNext.j0 k a1 a2 t224 bt226.1 true a0_0 a0_1)) else (quitrentlaw04_FiscalNext.j0 k a1 a2 t224 bt226.1 true a0_0 a0_1))) else (quitrentlaw04_FiscalNext.j0 k a1 a2 t224 bt226.1 true a0_0 a0_1))) else (quitrentlaw04_FiscalNext.j0 k a1 a2 t224 bt226.1 true a0_0 a0_1)))) else (if bt226.2 = t225 then ((fiscal_Days.f k a0_0 a0_1 a1).bind fun t228 => (some (t228 == 0))) else (none)))) = some r := H
      have A8 := Aside0.mk A80
      clear A80
      replace H := Option.bind_eq_some_iff.mp H
      obtain ⟨⟨t226, t227⟩, A90, H⟩ := H
      replace H : (if t225 = 0 then ((fiscal_Of.f k a0_0 a0_1 t224).bind fun bt229 => ((fiscal_Of.f k a0_0 a0_1 t226).bind fun bt231 => (if t227 = 0 then ((fiscal_Days.f k a0_0 a0_1 a1).bind fun t233 => (if (wrap64 ((wrap64 (t226 - t224)) + 1)) = t233 then (if t226 < t224 then (quitrentlaw04_FiscalNext.j0 k a1 a2 t224 t226 true a0_0 a0_1) else (if bt229.1 = a1 then (if bt231.1 = a1 then (if bt229.2 = 0 then (quitrentlaw04_FiscalNext.j0 k a1 a2 t224 t226 (bt231.2 != 0) a0_0 a0_1) else (quitrentlaw04_FiscalNext.j0 k a1 a2 t224 t226 true a0_0 a0_1)) else (quitrentlaw04_FiscalNext.j0 k a1 a2 t224 t226 true a0_0 a0_1)) else (quitrentlaw04_FiscalNext.j0 k a1 a2 t224 t226 true a0_0 a0_1))) else (quitrentlaw04_FiscalNext.j0 k a1 a2 t224 t226 true a0_0 a0_1))) else (quitrentlaw04_FiscalNext.j0 k a1 a2 t224 t226 true a0_0 a0_1)))) else (if t227 = t225 then ((fiscal_Days.f k a0_0 a0_1 a1).bind fun t228 => (some (t228 == 0))) else (none))) = some r := H
      have A9 := Aside0.mk A90
      clear A90
      by_cases c10 : t225 = 0
      · rw [if_pos c10] at H
        have c10b0 : (t225 == 0) = true := beq_iff_eq.mpr c10
        have c10b1 : (t225 != 0) = false := bne_eq_false_iff_eq.mpr c10
        clear c10
        replace H := Option.bind_eq_some_iff.mp H
        obtain ⟨⟨t229, t230⟩, A110, H⟩ := H
        replace H : ((fiscal_Of.f k a0_0 a0_1 t226).bind fun bt231 => (if t227 = 0 then ((fiscal_Days.f k a0_0 a0_1 a1).bind fun t233 => (if (wrap64 ((wrap64 (t226 - t224)) + 1)) = t233 then (if t226 < t224 then (quitrentlaw04_FiscalNext.j0 k a1 a2 t224 t226 true a0_0 a0_1) else (if t229 = a1 then (if bt231.1 = a1 then (if t230 = 0 then (quitrentlaw04_FiscalNext.j0 k a1 a2 t224 t226 (bt231.2 != 0) a0_0 a0_1) else (quitrentlaw04_FiscalNext.j0 k a1 a2 t224 t226 true a0_0 a0_1)) else (quitrentlaw04_FiscalNext.j0 k a1 a2 t224 t226 true a0_0 a0_1)) else (quitrentlaw04_FiscalNext.j0 k a1 a2 t224 t226 true a0_0 a0_1))) else (quitrentlaw04_FiscalNext.j0 k a1 a2 t224 t226 true a0_0 a0_1))) else (quitrentlaw04_FiscalNext.j0 k a1 a2 t224 t226 true a0_0 a0_1))) = some r := H
        have A11 := Aside0.mk A110
        clear A110
        replace H := Option.bind_eq_some_iff.mp H
        obtain ⟨⟨t231, t232⟩, A120, H⟩ := H
        replace H : (if t227 = 0 then ((fiscal_Days.f k a0_0 a0_1 a1).bind fun t233 => (if (wrap64 ((wrap64 (t226 - t224)) + 1)) = t233 then (if t226 < t224 then (quitrentlaw04_FiscalNext.j0 k a1 a2 t224 t226 true a0_0 a0_1) else (if t229 = a1 then (if t231 = a1 then (if t230 = 0 then (quitrentlaw04_FiscalNext.j0 k a1 a2 t224 t226 (t232 != 0) a0_0 a0_1) else (quitrentlaw04_FiscalNext.j0 k a1 a2 t224 t226 true a0_0 a0_1)) else (quitrentlaw04_FiscalNext.j0 k a1 a2 t224 t226 true a0_0 a0_1)) else (quitrentlaw04_FiscalNext.j0 k a1 a2 t224 t226 true a0_0 a0_1))) else (quitrentlaw04_FiscalNext.j0 k a1 a2 t224 t226 true a0_0 a0_1))) else (quitrentlaw04_FiscalNext.j0 k a1 a2 t224 t226 true a0_0 a0_1)) = some r := H
        have A12 := Aside0.mk A120
        clear A120
        have HC13 := Aside0.mk H
        clear H
        go_enter Try.func6, Try.ntmps6
        go_upto_region 11 with (first | ((with_reducible refine gate_dst (N := 3) rfl ?_); refine box_event ?hg (N := 3) ?hd (cs := #[.int .i64 a0_0, .int .i64 a0_1]) (t := 44) ?hr ?_; (case hd => rfl); (case hg => rfl); (case hr => first | (go_simp; done) | (go_simp; rfl)); intro gb221 hg w14 hbox hb; have n0_ := Aside0.mk (below_step (by repeat (first | (with_reducible first | exact HB.out | apply below_alloc | apply pw_below_drewN | apply below_drew1) | exact HB.out)) hb); have n1_ := Aside0.mk (hbox); have n2_ := Aside0.mk ((by rw [hg]; exact (below_size (by repeat (first | (with_reducible first | exact HB.out | apply below_alloc | apply pw_below_drewN | apply below_drew1) | exact HB.out))) : w.heap.size ≤ gb221)); have n3_ := Aside0.mk ((by rw [hg]; exact (below_size (by repeat (first | (with_reducible first | exact HB.out | apply below_alloc | apply pw_below_drewN | apply below_drew1) | exact HB.out))) : w.heap.size ≤ gb221)); clear HB; have HB := n0_; have BK221 := n1_; have GW221 := n2_; have GE221 := n3_; clear n0_ n1_ n2_ n3_; clear hb hbox hg) | ((with_reducible refine gate_callee (f := 18) rfl ?_); refine goesL_ (some 19) rfl rfl Try.func18 (by kernel_rfl) rfl #[] rfl (by (try simp only [List.map_toArray, List.map_cons, List.map_nil]); first | done | rfl | (simp only [List.length_drop, List.length_take]; rfl)) ?_; (with_reducible refine (quitrentlaw04_awake.calls k  true _ A4.out).mono ?_); rintro e w15 ⟨rfl, hb⟩; refine ⟨_, rfl, ?_⟩; have n0_ := Aside0.mk (blk_below (g := gb221) (o := .cells #[.int .i64 a0_0, .int .i64 a0_1] 44 (0, 0)) (by (with_reducible repeat (first | refine blk_drewN ?_ _ | refine blk_drew ?_ | refine blk_alloc ?_ _)); exact BK221.out) hb); have n1_ := Aside0.mk (below_step (by repeat (first | (with_reducible first | exact HB.out | apply below_alloc | apply pw_below_drewN | apply below_drew1 | refine below_set ?_ GE221.out) | exact HB.out)) hb); clear BK221; clear HB; have BK221 := n0_; have HB := n1_; clear n0_ n1_; (try clear hb); (try clear hb2); (try clear hk); (try clear hi); have hcz16_0 : w15.cell? ⟨gb221, 0, none⟩ = some (.int .i64 a0_0) := (blk_cell BK221.out 0).trans rfl; have hcz16_1 : w15.cell? ⟨gb221, 1, none⟩ = some (.int .i64 a0_1) := (blk_cell BK221.out 1).trans rfl; have hfz16_0 := blk_frozen BK221.out 0; have hfz16_1 := blk_frozen BK221.out 1) | ((with_reducible refine gate_callee (f := 19) rfl ?_); refine goesL_ (some 22) rfl rfl Try.func19 (by kernel_rfl) rfl #[.agg #[.int .i64 a0_0, .int .i64 a0_1]] rfl (by (try simp only [List.map_toArray, List.map_cons, List.map_nil]); first | done | rfl | (simp only [List.length_drop, List.length_take]; rfl)) ?_; (with_reducible refine (fiscal_Check.calls k a0_0 a0_1 t223 _ A6.out).mono ?_); rintro e w17 ⟨rfl, hb⟩; refine ⟨_, rfl, ?_⟩; have n0_ := Aside0.mk (blk_below (g := gb221) (o := .cells #[.int .i64 a0_0, .int .i64 a0_1] 44 (0, 0)) (by (with_reducible repeat (first | refine blk_drewN ?_ _ | refine blk_drew ?_ | refine blk_alloc ?_ _)); exact BK221.out) hb); have n1_ := Aside0.mk (below_step (by repeat (first | (with_reducible first | exact HB.out | apply below_alloc | apply pw_below_drewN | apply below_drew1 | refine below_set ?_ GE221.out) | exact HB.out)) hb); clear BK221; clear HB; have BK221 := n0_; have HB := n1_; clear n0_ n1_; (try clear hb); (try clear hb2); (try clear hk); (try clear hi); have hcz18_0 : w17.cell? ⟨gb221, 0, none⟩ = some (.int .i64 a0_0) := (blk_cell BK221.out 0).trans rfl; have hcz18_1 : w17.cell? ⟨gb221, 1, none⟩ = some (.int .i64 a0_1) := (blk_cell BK221.out 1).trans rfl; have hfz18_0 := blk_frozen BK221.out 0; have hfz18_1 := blk_frozen BK221.out 1) | ((with_reducible refine gate_callee (f := 21) rfl ?_); refine goesL_ (some 27) rfl rfl Try.func21 (by kernel_rfl) rfl #[.agg #[.int .i64 a0_0, .int .i64 a0_1], .int .i64 a1] rfl (by (try simp only [List.map_toArray, List.map_cons, List.map_nil]); first | done | rfl | (simp only [List.length_drop, List.length_take]; rfl)) ?_; (with_reducible refine (fiscal_First.calls k a0_0 a0_1 a1 t224 t225 _ A8.out).mono ?_); rintro e w19 ⟨rfl, hb⟩; refine ⟨_, rfl, ?_⟩; have n0_ := Aside0.mk (blk_below (g := gb221) (o := .cells #[.int .i64 a0_0, .int .i64 a0_1] 44 (0, 0)) (by (with_reducible repeat (first | refine blk_drewN ?_ _ | refine blk_drew ?_ | refine blk_alloc ?_ _)); exact BK221.out) hb); have n1_ := Aside0.mk (below_step (by repeat (first | (with_reducible first | exact HB.out | apply below_alloc | apply pw_below_drewN | apply below_drew1 | refine below_set ?_ GE221.out) | exact HB.out)) hb); clear BK221; clear HB; have BK221 := n0_; have HB := n1_; clear n0_ n1_; (try clear hb); (try clear hb2); (try clear hk); (try clear hi); have hcz20_0 : w19.cell? ⟨gb221, 0, none⟩ = some (.int .i64 a0_0) := (blk_cell BK221.out 0).trans rfl; have hcz20_1 : w19.cell? ⟨gb221, 1, none⟩ = some (.int .i64 a0_1) := (blk_cell BK221.out 1).trans rfl; have hfz20_0 := blk_frozen BK221.out 0; have hfz20_1 := blk_frozen BK221.out 1) | ((with_reducible refine gate_callee (f := 23) rfl ?_); refine goesL_ (some 33) rfl rfl Try.func23 (by kernel_rfl) rfl #[.agg #[.int .i64 a0_0, .int .i64 a0_1], .int .i64 a1] rfl (by (try simp only [List.map_toArray, List.map_cons, List.map_nil]); first | done | rfl | (simp only [List.length_drop, List.length_take]; rfl)) ?_; (with_reducible refine (fiscal_Last.calls k a0_0 a0_1 a1 t226 t227 _ A9.out).mono ?_); rintro e w21 ⟨rfl, hb⟩; refine ⟨_, rfl, ?_⟩; have n0_ := Aside0.mk (blk_below (g := gb221) (o := .cells #[.int .i64 a0_0, .int .i64 a0_1] 44 (0, 0)) (by (with_reducible repeat (first | refine blk_drewN ?_ _ | refine blk_drew ?_ | refine blk_alloc ?_ _)); exact BK221.out) hb); have n1_ := Aside0.mk (below_step (by repeat (first | (with_reducible first | exact HB.out | apply below_alloc | apply pw_below_drewN | apply below_drew1 | refine below_set ?_ GE221.out) | exact HB.out)) hb); clear BK221; clear HB; have BK221 := n0_; have HB := n1_; clear n0_ n1_; (try clear hb); (try clear hb2); (try clear hk); (try clear hi); have hcz22_0 : w21.cell? ⟨gb221, 0, none⟩ = some (.int .i64 a0_0) := (blk_cell BK221.out 0).trans rfl; have hcz22_1 : w21.cell? ⟨gb221, 1, none⟩ = some (.int .i64 a0_1) := (blk_cell BK221.out 1).trans rfl; have hfz22_0 := blk_frozen BK221.out 0; have hfz22_1 := blk_frozen BK221.out 1) | ((with_reducible refine gate_callee (f := 25) rfl ?_); refine goesL_ (some 50) rfl rfl Try.func25 (by kernel_rfl) rfl #[.agg #[.int .i64 a0_0, .int .i64 a0_1], .int .i64 t224] rfl (by (try simp only [List.map_toArray, List.map_cons, List.map_nil]); first | done | rfl | (simp only [List.length_drop, List.length_take]; rfl)) ?_; (with_reducible refine (fiscal_Of.calls k a0_0 a0_1 t224 t229 t230 _ A11.out).mono ?_); rintro e w23 ⟨rfl, hb⟩; refine ⟨_, rfl, ?_⟩; have n0_ := Aside0.mk (blk_below (g := gb221) (o := .cells #[.int .i64 a0_0, .int .i64 a0_1] 44 (0, 0)) (by (with_reducible repeat (first | refine blk_drewN ?_ _ | refine blk_drew ?_ | refine blk_alloc ?_ _)); exact BK221.out) hb); have n1_ := Aside0.mk (below_step (by repeat (first | (with_reducible first | exact HB.out | apply below_alloc | apply pw_below_drewN | apply below_drew1 | refine below_set ?_ GE221.out) | exact HB.out)) hb); clear BK221; clear HB; have BK221 := n0_; have HB := n1_; clear n0_ n1_; (try clear hb); (try clear hb2); (try clear hk); (try clear hi); have hcz24_0 : w23.cell? ⟨gb221, 0, none⟩ = some (.int .i64 a0_0) := (blk_cell BK221.out 0).trans rfl; have hcz24_1 : w23.cell? ⟨gb221, 1, none⟩ = some (.int .i64 a0_1) := (blk_cell BK221.out 1).trans rfl; have hfz24_0 := blk_frozen BK221.out 0; have hfz24_1 := blk_frozen BK221.out 1) | ((with_reducible refine gate_callee (f := 25) rfl ?_); refine goesL_ (some 56) rfl rfl Try.func25 (by kernel_rfl) rfl #[.agg #[.int .i64 a0_0, .int .i64 a0_1], .int .i64 t226] rfl (by (try simp only [List.map_toArray, List.map_cons, List.map_nil]); first | done | rfl | (simp only [List.length_drop, List.length_take]; rfl)) ?_; (with_reducible refine (fiscal_Of.calls k a0_0 a0_1 t226 t231 t232 _ A12.out).mono ?_); rintro e w25 ⟨rfl, hb⟩; refine ⟨_, rfl, ?_⟩; have n0_ := Aside0.mk (blk_below (g := gb221) (o := .cells #[.int .i64 a0_0, .int .i64 a0_1] 44 (0, 0)) (by (with_reducible repeat (first | refine blk_drewN ?_ _ | refine blk_drew ?_ | refine blk_alloc ?_ _)); exact BK221.out) hb); have n1_ := Aside0.mk (below_step (by repeat (first | (with_reducible first | exact HB.out | apply below_alloc | apply pw_below_drewN | apply below_drew1 | refine below_set ?_ GE221.out) | exact HB.out)) hb); clear BK221; clear HB; have BK221 := n0_; have HB := n1_; clear n0_ n1_; (try clear hb); (try clear hb2); (try clear hk); (try clear hi)))
        (try simp only [Act.put, List.setIfInBounds_toArray, List.set_cons_zero, List.set_cons_succ])
        go_cut [93] (fun v93 wc => ∃ (kq : Nat) (x93_12 : Bool), v93 = .bool x93_12 ∧ Aside0 (quitrentlaw04_FiscalNext.j0 kq a1 a2 t224 t226 x93_12 a0_0 a0_1 = some r) ∧ Aside0 (kq ≤ k) ∧ Aside0 (wc.heap[gb221]? = some (.cells #[.int .i64 a0_0, .int .i64 a0_1] 44 (0, 0))) ∧ Aside0 (Below w.heap.size w wc))
        case first =>
          have H := HC13.out
          clear HC13
          by_cases c26 : t227 = 0
          · rw [if_pos c26] at H
            have c26b0 : (t227 == 0) = true := beq_iff_eq.mpr c26
            have c26b1 : (t227 != 0) = false := bne_eq_false_iff_eq.mpr c26
            clear c26
            (first | rw [c26b0] | (simp only [i64_w, i32_w]; rw [c26b0]) | skip)
            replace H := Option.bind_eq_some_iff.mp H
            obtain ⟨t233, A270, H⟩ := H
            replace H : (if (wrap64 ((wrap64 (t226 - t224)) + 1)) = t233 then (if t226 < t224 then (quitrentlaw04_FiscalNext.j0 k a1 a2 t224 t226 true a0_0 a0_1) else (if t229 = a1 then (if t231 = a1 then (if t230 = 0 then (quitrentlaw04_FiscalNext.j0 k a1 a2 t224 t226 (t232 != 0) a0_0 a0_1) else (quitrentlaw04_FiscalNext.j0 k a1 a2 t224 t226 true a0_0 a0_1)) else (quitrentlaw04_FiscalNext.j0 k a1 a2 t224 t226 true a0_0 a0_1)) else (quitrentlaw04_FiscalNext.j0 k a1 a2 t224 t226 true a0_0 a0_1))) else (quitrentlaw04_FiscalNext.j0 k a1 a2 t224 t226 true a0_0 a0_1)) = some r := H
            have A27 := Aside0.mk A270
            clear A270
            by_cases c28 : (wrap64 ((wrap64 (t226 - t224)) + 1)) = t233
            · rw [if_pos c28] at H
              have c28b0 : ((wrap64 ((wrap64 (t226 - t224)) + 1)) == t233) = true := beq_iff_eq.mpr c28
              have c28b1 : ((wrap64 ((wrap64 (t226 - t224)) + 1)) != t233) = false := bne_eq_false_iff_eq.mpr c28
              clear c28
              by_cases c29 : t226 < t224
              · rw [if_pos c29] at H
                have c29b0 : decide (t226 < t224) = true := decide_eq_true c29
                clear c29
                have H' := Aside0.mk H
                clear H
                have hcz30_0 : w25.cell? ⟨gb221, 0, none⟩ = some (.int .i64 a0_0) := (blk_cell BK221.out 0).trans rfl
                have hcz30_1 : w25.cell? ⟨gb221, 1, none⟩ = some (.int .i64 a0_1) := (blk_cell BK221.out 1).trans rfl
                have hfz30_0 := blk_frozen BK221.out 0
                have hfz30_1 := blk_frozen BK221.out 1
                go_wp2_with (first | (go_at_call 27; (with_reducible refine (fiscal_Days.calls k a0_0 a0_1 a1 t233 _ A27.out).mono ?_); rintro e w31 ⟨rfl, hb⟩; have n0_ := Aside0.mk (blk_below (g := gb221) (o := .cells #[.int .i64 a0_0, .int .i64 a0_1] 44 (0, 0)) (by (with_reducible repeat (first | refine blk_drewN ?_ _ | refine blk_drew ?_ | refine blk_alloc ?_ _)); exact BK221.out) hb); have n1_ := Aside0.mk (below_step (by repeat (first | (with_reducible first | exact HB.out | apply below_alloc | apply pw_below_drewN | apply below_drew1 | refine below_set ?_ GE221.out) | exact HB.out)) hb); clear BK221; clear HB; have BK221 := n0_; have HB := n1_; clear n0_ n1_; (try clear hb); (try clear hb2); (try clear hk); (try clear hi)))
                go_meet
                case rel => exact ⟨_, (true), (by first | rfl | (simp; done) | (simp [*]; done)), H', ⟨by first | omega | exact Nat.le_refl _⟩, ⟨by (with_reducible repeat (first | refine blk_drewN ?_ _ | refine blk_drew ?_ | refine blk_alloc ?_ _)); exact BK221.out⟩, ⟨by repeat (first | (with_reducible first | exact HB.out | apply below_alloc | apply pw_below_drewN | apply below_drew1 | refine below_set ?_ GE221.out) | exact HB.out)⟩⟩
              · rw [if_neg c29] at H
                have c29b0 : decide (t226 < t224) = false := decide_eq_false c29
                clear c29
                by_cases c32 : t229 = a1
                · rw [if_pos c32] at H
                  have c32b0 : (t229 == a1) = true := beq_iff_eq.mpr c32
                  have c32b1 : (t229 != a1) = false := bne_eq_false_iff_eq.mpr c32
                  clear c32
                  by_cases c33 : t231 = a1
                  · rw [if_pos c33] at H
                    have c33b0 : (t231 == a1) = true := beq_iff_eq.mpr c33
                    have c33b1 : (t231 != a1) = false := bne_eq_false_iff_eq.mpr c33
                    clear c33
                    by_cases c34 : t230 = 0
                    · rw [if_pos c34] at H
                      have c34b0 : (t230 == 0) = true := beq_iff_eq.mpr c34
                      have c34b1 : (t230 != 0) = false := bne_eq_false_iff_eq.mpr c34
                      clear c34
                      have H' := Aside0.mk H
                      clear H
                      have hcz35_0 : w25.cell? ⟨gb221, 0, none⟩ = some (.int .i64 a0_0) := (blk_cell BK221.out 0).trans rfl
                      have hcz35_1 : w25.cell? ⟨gb221, 1, none⟩ = some (.int .i64 a0_1) := (blk_cell BK221.out 1).trans rfl
                      have hfz35_0 := blk_frozen BK221.out 0
                      have hfz35_1 := blk_frozen BK221.out 1
                      go_wp2_with (first | (go_at_call 27; (with_reducible refine (fiscal_Days.calls k a0_0 a0_1 a1 t233 _ A27.out).mono ?_); rintro e w36 ⟨rfl, hb⟩; have n0_ := Aside0.mk (blk_below (g := gb221) (o := .cells #[.int .i64 a0_0, .int .i64 a0_1] 44 (0, 0)) (by (with_reducible repeat (first | refine blk_drewN ?_ _ | refine blk_drew ?_ | refine blk_alloc ?_ _)); exact BK221.out) hb); have n1_ := Aside0.mk (below_step (by repeat (first | (with_reducible first | exact HB.out | apply below_alloc | apply pw_below_drewN | apply below_drew1 | refine below_set ?_ GE221.out) | exact HB.out)) hb); clear BK221; clear HB; have BK221 := n0_; have HB := n1_; clear n0_ n1_; (try clear hb); (try clear hb2); (try clear hk); (try clear hi)))
                      go_meet
                      case rel => exact ⟨_, ((t232 != 0)), (by first | rfl | (simp; done) | (simp [*]; done)), H', ⟨by first | omega | exact Nat.le_refl _⟩, ⟨by (with_reducible repeat (first | refine blk_drewN ?_ _ | refine blk_drew ?_ | refine blk_alloc ?_ _)); exact BK221.out⟩, ⟨by repeat (first | (with_reducible first | exact HB.out | apply below_alloc | apply pw_below_drewN | apply below_drew1 | refine below_set ?_ GE221.out) | exact HB.out)⟩⟩
                    · rw [if_neg c34] at H
                      have c34b0 : (t230 == 0) = false := beq_eq_false_iff_ne.mpr c34
                      have c34b1 : (t230 != 0) = true := bne_iff_ne.mpr c34
                      have H' := Aside0.mk H
                      clear H
                      have hcz37_0 : w25.cell? ⟨gb221, 0, none⟩ = some (.int .i64 a0_0) := (blk_cell BK221.out 0).trans rfl
                      have hcz37_1 : w25.cell? ⟨gb221, 1, none⟩ = some (.int .i64 a0_1) := (blk_cell BK221.out 1).trans rfl
                      have hfz37_0 := blk_frozen BK221.out 0
                      have hfz37_1 := blk_frozen BK221.out 1
                      go_wp2_with (first | (go_at_call 27; (with_reducible refine (fiscal_Days.calls k a0_0 a0_1 a1 t233 _ A27.out).mono ?_); rintro e w38 ⟨rfl, hb⟩; have n0_ := Aside0.mk (blk_below (g := gb221) (o := .cells #[.int .i64 a0_0, .int .i64 a0_1] 44 (0, 0)) (by (with_reducible repeat (first | refine blk_drewN ?_ _ | refine blk_drew ?_ | refine blk_alloc ?_ _)); exact BK221.out) hb); have n1_ := Aside0.mk (below_step (by repeat (first | (with_reducible first | exact HB.out | apply below_alloc | apply pw_below_drewN | apply below_drew1 | refine below_set ?_ GE221.out) | exact HB.out)) hb); clear BK221; clear HB; have BK221 := n0_; have HB := n1_; clear n0_ n1_; (try clear hb); (try clear hb2); (try clear hk); (try clear hi)))
                      go_meet
                      case rel => exact ⟨_, (true), (by first | rfl | (simp; done) | (simp [*]; done)), H', ⟨by first | omega | exact Nat.le_refl _⟩, ⟨by (with_reducible repeat (first | refine blk_drewN ?_ _ | refine blk_drew ?_ | refine blk_alloc ?_ _)); exact BK221.out⟩, ⟨by repeat (first | (with_reducible first | exact HB.out | apply below_alloc | apply pw_below_drewN | apply below_drew1 | refine below_set ?_ GE221.out) | exact HB.out)⟩⟩
                  · rw [if_neg c33] at H
                    have c33b0 : (t231 == a1) = false := beq_eq_false_iff_ne.mpr c33
                    have c33b1 : (t231 != a1) = true := bne_iff_ne.mpr c33
                    have H' := Aside0.mk H
                    clear H
                    have hcz39_0 : w25.cell? ⟨gb221, 0, none⟩ = some (.int .i64 a0_0) := (blk_cell BK221.out 0).trans rfl
                    have hcz39_1 : w25.cell? ⟨gb221, 1, none⟩ = some (.int .i64 a0_1) := (blk_cell BK221.out 1).trans rfl
                    have hfz39_0 := blk_frozen BK221.out 0
                    have hfz39_1 := blk_frozen BK221.out 1
                    go_wp2_with (first | (go_at_call 27; (with_reducible refine (fiscal_Days.calls k a0_0 a0_1 a1 t233 _ A27.out).mono ?_); rintro e w40 ⟨rfl, hb⟩; have n0_ := Aside0.mk (blk_below (g := gb221) (o := .cells #[.int .i64 a0_0, .int .i64 a0_1] 44 (0, 0)) (by (with_reducible repeat (first | refine blk_drewN ?_ _ | refine blk_drew ?_ | refine blk_alloc ?_ _)); exact BK221.out) hb); have n1_ := Aside0.mk (below_step (by repeat (first | (with_reducible first | exact HB.out | apply below_alloc | apply pw_below_drewN | apply below_drew1 | refine below_set ?_ GE221.out) | exact HB.out)) hb); clear BK221; clear HB; have BK221 := n0_; have HB := n1_; clear n0_ n1_; (try clear hb); (try clear hb2); (try clear hk); (try clear hi)))
                    go_meet
                    case rel => exact ⟨_, (true), (by first | rfl | (simp; done) | (simp [*]; done)), H', ⟨by first | omega | exact Nat.le_refl _⟩, ⟨by (with_reducible repeat (first | refine blk_drewN ?_ _ | refine blk_drew ?_ | refine blk_alloc ?_ _)); exact BK221.out⟩, ⟨by repeat (first | (with_reducible first | exact HB.out | apply below_alloc | apply pw_below_drewN | apply below_drew1 | refine below_set ?_ GE221.out) | exact HB.out)⟩⟩
                · rw [if_neg c32] at H
                  have c32b0 : (t229 == a1) = false := beq_eq_false_iff_ne.mpr c32
                  have c32b1 : (t229 != a1) = true := bne_iff_ne.mpr c32
                  have H' := Aside0.mk H
                  clear H
                  have hcz41_0 : w25.cell? ⟨gb221, 0, none⟩ = some (.int .i64 a0_0) := (blk_cell BK221.out 0).trans rfl
                  have hcz41_1 : w25.cell? ⟨gb221, 1, none⟩ = some (.int .i64 a0_1) := (blk_cell BK221.out 1).trans rfl
                  have hfz41_0 := blk_frozen BK221.out 0
                  have hfz41_1 := blk_frozen BK221.out 1
                  go_wp2_with (first | (go_at_call 27; (with_reducible refine (fiscal_Days.calls k a0_0 a0_1 a1 t233 _ A27.out).mono ?_); rintro e w42 ⟨rfl, hb⟩; have n0_ := Aside0.mk (blk_below (g := gb221) (o := .cells #[.int .i64 a0_0, .int .i64 a0_1] 44 (0, 0)) (by (with_reducible repeat (first | refine blk_drewN ?_ _ | refine blk_drew ?_ | refine blk_alloc ?_ _)); exact BK221.out) hb); have n1_ := Aside0.mk (below_step (by repeat (first | (with_reducible first | exact HB.out | apply below_alloc | apply pw_below_drewN | apply below_drew1 | refine below_set ?_ GE221.out) | exact HB.out)) hb); clear BK221; clear HB; have BK221 := n0_; have HB := n1_; clear n0_ n1_; (try clear hb); (try clear hb2); (try clear hk); (try clear hi)))
                  go_meet
                  case rel => exact ⟨_, (true), (by first | rfl | (simp; done) | (simp [*]; done)), H', ⟨by first | omega | exact Nat.le_refl _⟩, ⟨by (with_reducible repeat (first | refine blk_drewN ?_ _ | refine blk_drew ?_ | refine blk_alloc ?_ _)); exact BK221.out⟩, ⟨by repeat (first | (with_reducible first | exact HB.out | apply below_alloc | apply pw_below_drewN | apply below_drew1 | refine below_set ?_ GE221.out) | exact HB.out)⟩⟩
            · rw [if_neg c28] at H
              have c28b0 : ((wrap64 ((wrap64 (t226 - t224)) + 1)) == t233) = false := beq_eq_false_iff_ne.mpr c28
              have c28b1 : ((wrap64 ((wrap64 (t226 - t224)) + 1)) != t233) = true := bne_iff_ne.mpr c28
              have H' := Aside0.mk H
              clear H
              have hcz43_0 : w25.cell? ⟨gb221, 0, none⟩ = some (.int .i64 a0_0) := (blk_cell BK221.out 0).trans rfl
              have hcz43_1 : w25.cell? ⟨gb221, 1, none⟩ = some (.int .i64 a0_1) := (blk_cell BK221.out 1).trans rfl
              have hfz43_0 := blk_frozen BK221.out 0
              have hfz43_1 := blk_frozen BK221.out 1
              go_wp2_with (first | (go_at_call 27; (with_reducible refine (fiscal_Days.calls k a0_0 a0_1 a1 t233 _ A27.out).mono ?_); rintro e w44 ⟨rfl, hb⟩; have n0_ := Aside0.mk (blk_below (g := gb221) (o := .cells #[.int .i64 a0_0, .int .i64 a0_1] 44 (0, 0)) (by (with_reducible repeat (first | refine blk_drewN ?_ _ | refine blk_drew ?_ | refine blk_alloc ?_ _)); exact BK221.out) hb); have n1_ := Aside0.mk (below_step (by repeat (first | (with_reducible first | exact HB.out | apply below_alloc | apply pw_below_drewN | apply below_drew1 | refine below_set ?_ GE221.out) | exact HB.out)) hb); clear BK221; clear HB; have BK221 := n0_; have HB := n1_; clear n0_ n1_; (try clear hb); (try clear hb2); (try clear hk); (try clear hi)))
              go_meet
              case rel => exact ⟨_, (true), (by first | rfl | (simp; done) | (simp [*]; done)), H', ⟨by first | omega | exact Nat.le_refl _⟩, ⟨by (with_reducible repeat (first | refine blk_drewN ?_ _ | refine blk_drew ?_ | refine blk_alloc ?_ _)); exact BK221.out⟩, ⟨by repeat (first | (with_reducible first | exact HB.out | apply below_alloc | apply pw_below_drewN | apply below_drew1 | refine below_set ?_ GE221.out) | exact HB.out)⟩⟩
          · rw [if_neg c26] at H
            have c26b0 : (t227 == 0) = false := beq_eq_false_iff_ne.mpr c26
            have c26b1 : (t227 != 0) = true := bne_iff_ne.mpr c26
            (first | rw [c26b0] | (simp only [i64_w, i32_w]; rw [c26b0]) | skip)
            have H' := Aside0.mk H
            clear H
            go_wp2
            go_meet
            case rel => exact ⟨_, (true), (by first | rfl | (simp; done) | (simp [*]; done)), H', ⟨by first | omega | exact Nat.le_refl _⟩, ⟨by (with_reducible repeat (first | refine blk_drewN ?_ _ | refine blk_drew ?_ | refine blk_alloc ?_ _)); exact BK221.out⟩, ⟨by repeat (first | (with_reducible first | exact HB.out | apply below_alloc | apply pw_below_drewN | apply below_drew1 | refine below_set ?_ GE221.out) | exact HB.out)⟩⟩
        case rest =>
          clear HC13
          try clear c1
          try clear c2
          try clear p2
          try clear c3
          try clear c5
          try clear c6
          try clear p6
          try clear c7
          try clear c7b0
          try clear c7b1
          try clear c10
          try clear c10b0
          try clear c10b1
          try clear c18
          try clear c19
          try clear c21
          try clear c23
          try clear c25
          try clear c26
          try clear c26b0
          try clear c26b1
          try clear c28
          try clear c28b0
          try clear c28b1
          try clear c29
          try clear c29b0
          try clear c32
          try clear c32b0
          try clear c32b1
          try clear c33
          try clear c33b0
          try clear c33b1
          try clear c34
          try clear c34b0
          try clear c34b1
          try clear hcz16_0
          try clear hcz16_1
          try clear hcz18_0
          try clear hcz18_1
          try clear hcz20_0
          try clear hcz20_1
          try clear hcz22_0
          try clear hcz22_1
          try clear hcz24_0
          try clear hcz24_1
          try clear hcz30_0
          try clear hcz30_1
          try clear hcz35_0
          try clear hcz35_1
          try clear hcz37_0
          try clear hcz37_1
          try clear hcz39_0
          try clear hcz39_1
          try clear hcz41_0
          try clear hcz41_1
          try clear hcz43_0
          try clear hcz43_1
          try clear hfz16_0
          try clear hfz16_1
          try clear hfz18_0
          try clear hfz18_1
          try clear hfz20_0
          try clear hfz20_1
          try clear hfz22_0
          try clear hfz22_1
          try clear hfz24_0
          try clear hfz24_1
          try clear hfz30_0
          try clear hfz30_1
          try clear hfz35_0
          try clear hfz35_1
          try clear hfz37_0
          try clear hfz37_1
          try clear hfz39_0
          try clear hfz39_1
          try clear hfz41_0
          try clear hfz41_1
          try clear hfz43_0
          try clear hfz43_1
          obtain ⟨kq, x93_12, rfl, HA, HJ12, BK221, HB⟩ := hcut
          cases kq with
          | zero => exact absurd HA.out (by simp [quitrentlaw04_FiscalNext.j0])
          | succ kj12 =>
            have H := HA.out
            clear HA
            simp only [quitrentlaw04_FiscalNext.j0] at H
            by_cases c45 : x93_12 = true
            · subst c45
              have H1 : (some false) = some r := by rw [if_pos rfl] at H; exact H
              clear H
              have H := H1
              clear H1
              obtain rfl := Option.some.inj H
              go_wp2
              go_ret
              exact ⟨by first | rfl | (simp [errW_none, errW_some] <;> rfl) | (simp [*, errW_none, errW_some] <;> rfl), by repeat (first | (with_reducible first | exact HB.out | apply below_alloc | apply pw_below_drewN | apply below_drew1 | refine below_set ?_ GE221.out) | exact HB.out)⟩
            · replace c45 := Bool.eq_false_iff.mpr c45
              subst c45
              have H1 : ((fiscal_First.f kj12 a0_0 a0_1 (wrap64 (a1 + 1))).bind fun bt234 => (if bt234.2 = 0 then (if bt234.1 = (wrap64 (t226 + 1)) then ((fiscal_Of.f kj12 a0_0 a0_1 a2).bind fun bt236 => (if bt236.1 = a1 then (if t224 ≤ a2 then (some ((bt236.2 == 0) == (decide (a2 ≤ t226)))) else (some ((bt236.2 == 0) == false))) else (if t224 ≤ a2 then (some (false == (decide (a2 ≤ t226)))) else (some (false == false))))) else (none)) else ((fiscal_Of.f kj12 a0_0 a0_1 a2).bind fun bt238 => (if bt238.1 = a1 then (if t224 ≤ a2 then (some ((bt238.2 == 0) == (decide (a2 ≤ t226)))) else (some ((bt238.2 == 0) == false))) else (if t224 ≤ a2 then (some (false == (decide (a2 ≤ t226)))) else (some (false == false))))))) = some r := by rw [if_neg (show ¬ (false = true) by decide)] at H; exact H
              clear H
              have H := H1
              clear H1
              replace H := Option.bind_eq_some_iff.mp H
              obtain ⟨⟨t234, t235⟩, A460, H⟩ := H
              replace H : (if t235 = 0 then (if t234 = (wrap64 (t226 + 1)) then ((fiscal_Of.f kj12 a0_0 a0_1 a2).bind fun bt236 => (if bt236.1 = a1 then (if t224 ≤ a2 then (some ((bt236.2 == 0) == (decide (a2 ≤ t226)))) else (some ((bt236.2 == 0) == false))) else (if t224 ≤ a2 then (some (false == (decide (a2 ≤ t226)))) else (some (false == false))))) else (none)) else ((fiscal_Of.f kj12 a0_0 a0_1 a2).bind fun bt238 => (if bt238.1 = a1 then (if t224 ≤ a2 then (some ((bt238.2 == 0) == (decide (a2 ≤ t226)))) else (some ((bt238.2 == 0) == false))) else (if t224 ≤ a2 then (some (false == (decide (a2 ≤ t226)))) else (some (false == false)))))) = some r := H
              have A46 := Aside0.mk A460
              clear A460
              by_cases c47 : t235 = 0
              · rw [if_pos c47] at H
                have c47b0 : (t235 == 0) = true := beq_iff_eq.mpr c47
                have c47b1 : (t235 != 0) = false := bne_eq_false_iff_eq.mpr c47
                clear c47
                by_cases c48 : t234 = (wrap64 (t226 + 1))
                · rw [if_pos c48] at H
                  have c48b0 : (t234 == (wrap64 (t226 + 1))) = true := beq_iff_eq.mpr c48
                  have c48b1 : (t234 != (wrap64 (t226 + 1))) = false := bne_eq_false_iff_eq.mpr c48
                  clear c48
                  replace H := Option.bind_eq_some_iff.mp H
                  obtain ⟨⟨t236, t237⟩, A490, H⟩ := H
                  replace H : (if t236 = a1 then (if t224 ≤ a2 then (some ((t237 == 0) == (decide (a2 ≤ t226)))) else (some ((t237 == 0) == false))) else (if t224 ≤ a2 then (some (false == (decide (a2 ≤ t226)))) else (some (false == false)))) = some r := H
                  have A49 := Aside0.mk A490
                  clear A490
                  by_cases c50 : t236 = a1
                  · rw [if_pos c50] at H
                    have c50b0 : (t236 == a1) = true := beq_iff_eq.mpr c50
                    have c50b1 : (t236 != a1) = false := bne_eq_false_iff_eq.mpr c50
                    clear c50
                    by_cases c51 : t224 ≤ a2
                    · rw [if_pos c51] at H
                      have c51b0 : decide (t224 ≤ a2) = true := decide_eq_true c51
                      clear c51
                      obtain rfl := Option.some.inj H
                      have hcz52_0 : wc.cell? ⟨gb221, 0, none⟩ = some (.int .i64 a0_0) := (blk_cell BK221.out 0).trans rfl
                      have hcz52_1 : wc.cell? ⟨gb221, 1, none⟩ = some (.int .i64 a0_1) := (blk_cell BK221.out 1).trans rfl
                      have hfz52_0 := blk_frozen BK221.out 0
                      have hfz52_1 := blk_frozen BK221.out 1
                      go_wp2_with (first | ((with_reducible refine gate_callee (f := 21) rfl ?_); refine goesL_ (some 98) rfl rfl Try.func21 (by kernel_rfl) rfl #[.agg #[.int .i64 a0_0, .int .i64 a0_1], .int .i64 (wrap64 (a1 + 1))] rfl (by (try simp only [List.map_toArray, List.map_cons, List.map_nil]); first | done | rfl | (simp only [List.length_drop, List.length_take]; rfl)) ?_; (with_reducible refine (fiscal_First.calls kj12 a0_0 a0_1 (wrap64 (a1 + 1)) t234 t235 _ A46.out).mono ?_); rintro e w53 ⟨rfl, hb⟩; refine ⟨_, rfl, ?_⟩; have n0_ := Aside0.mk (blk_below (g := gb221) (o := .cells #[.int .i64 a0_0, .int .i64 a0_1] 44 (0, 0)) (by (with_reducible repeat (first | refine blk_drewN ?_ _ | refine blk_drew ?_ | refine blk_alloc ?_ _)); exact BK221.out) hb); have n1_ := Aside0.mk (below_step (by repeat (first | (with_reducible first | exact HB.out | apply below_alloc | apply pw_below_drewN | apply below_drew1 | refine below_set ?_ GE221.out) | exact HB.out)) hb); clear BK221; clear HB; have BK221 := n0_; have HB := n1_; clear n0_ n1_; (try clear hb); (try clear hb2); (try clear hk); (try clear hi); have hcz54_0 : w53.cell? ⟨gb221, 0, none⟩ = some (.int .i64 a0_0) := (blk_cell BK221.out 0).trans rfl; have hcz54_1 : w53.cell? ⟨gb221, 1, none⟩ = some (.int .i64 a0_1) := (blk_cell BK221.out 1).trans rfl; have hfz54_0 := blk_frozen BK221.out 0; have hfz54_1 := blk_frozen BK221.out 1) | ((with_reducible refine gate_callee (f := 25) rfl ?_); refine goesL_ (some 112) rfl rfl Try.func25 (by kernel_rfl) rfl #[.agg #[.int .i64 a0_0, .int .i64 a0_1], .int .i64 a2] rfl (by (try simp only [List.map_toArray, List.map_cons, List.map_nil]); first | done | rfl | (simp only [List.length_drop, List.length_take]; rfl)) ?_; (with_reducible refine (fiscal_Of.calls kj12 a0_0 a0_1 a2 t236 t237 _ A49.out).mono ?_); rintro e w55 ⟨rfl, hb⟩; refine ⟨_, rfl, ?_⟩; have n0_ := Aside0.mk (blk_below (g := gb221) (o := .cells #[.int .i64 a0_0, .int .i64 a0_1] 44 (0, 0)) (by (with_reducible repeat (first | refine blk_drewN ?_ _ | refine blk_drew ?_ | refine blk_alloc ?_ _)); exact BK221.out) hb); have n1_ := Aside0.mk (below_step (by repeat (first | (with_reducible first | exact HB.out | apply below_alloc | apply pw_below_drewN | apply below_drew1 | refine below_set ?_ GE221.out) | exact HB.out)) hb); clear BK221; clear HB; have BK221 := n0_; have HB := n1_; clear n0_ n1_; (try clear hb); (try clear hb2); (try clear hk); (try clear hi)))
                      go_ret
                      exact ⟨by first | rfl | (simp [errW_none, errW_some] <;> rfl) | (simp [*, errW_none, errW_some] <;> rfl), by repeat (first | (with_reducible first | exact HB.out | apply below_alloc | apply pw_below_drewN | apply below_drew1 | refine below_set ?_ GE221.out) | exact HB.out)⟩
                    · rw [if_neg c51] at H
                      have c51b0 : decide (t224 ≤ a2) = false := decide_eq_false c51
                      clear c51
                      obtain rfl := Option.some.inj H
                      have hcz56_0 : wc.cell? ⟨gb221, 0, none⟩ = some (.int .i64 a0_0) := (blk_cell BK221.out 0).trans rfl
                      have hcz56_1 : wc.cell? ⟨gb221, 1, none⟩ = some (.int .i64 a0_1) := (blk_cell BK221.out 1).trans rfl
                      have hfz56_0 := blk_frozen BK221.out 0
                      have hfz56_1 := blk_frozen BK221.out 1
                      go_wp2_with (first | ((with_reducible refine gate_callee (f := 21) rfl ?_); refine goesL_ (some 98) rfl rfl Try.func21 (by kernel_rfl) rfl #[.agg #[.int .i64 a0_0, .int .i64 a0_1], .int .i64 (wrap64 (a1 + 1))] rfl (by (try simp only [List.map_toArray, List.map_cons, List.map_nil]); first | done | rfl | (simp only [List.length_drop, List.length_take]; rfl)) ?_; (with_reducible refine (fiscal_First.calls kj12 a0_0 a0_1 (wrap64 (a1 + 1)) t234 t235 _ A46.out).mono ?_); rintro e w57 ⟨rfl, hb⟩; refine ⟨_, rfl, ?_⟩; have n0_ := Aside0.mk (blk_below (g := gb221) (o := .cells #[.int .i64 a0_0, .int .i64 a0_1] 44 (0, 0)) (by (with_reducible repeat (first | refine blk_drewN ?_ _ | refine blk_drew ?_ | refine blk_alloc ?_ _)); exact BK221.out) hb); have n1_ := Aside0.mk (below_step (by repeat (first | (with_reducible first | exact HB.out | apply below_alloc | apply pw_below_drewN | apply below_drew1 | refine below_set ?_ GE221.out) | exact HB.out)) hb); clear BK221; clear HB; have BK221 := n0_; have HB := n1_; clear n0_ n1_; (try clear hb); (try clear hb2); (try clear hk); (try clear hi); have hcz58_0 : w57.cell? ⟨gb221, 0, none⟩ = some (.int .i64 a0_0) := (blk_cell BK221.out 0).trans rfl; have hcz58_1 : w57.cell? ⟨gb221, 1, none⟩ = some (.int .i64 a0_1) := (blk_cell BK221.out 1).trans rfl; have hfz58_0 := blk_frozen BK221.out 0; have hfz58_1 := blk_frozen BK221.out 1) | ((with_reducible refine gate_callee (f := 25) rfl ?_); refine goesL_ (some 112) rfl rfl Try.func25 (by kernel_rfl) rfl #[.agg #[.int .i64 a0_0, .int .i64 a0_1], .int .i64 a2] rfl (by (try simp only [List.map_toArray, List.map_cons, List.map_nil]); first | done | rfl | (simp only [List.length_drop, List.length_take]; rfl)) ?_; (with_reducible refine (fiscal_Of.calls kj12 a0_0 a0_1 a2 t236 t237 _ A49.out).mono ?_); rintro e w59 ⟨rfl, hb⟩; refine ⟨_, rfl, ?_⟩; have n0_ := Aside0.mk (blk_below (g := gb221) (o := .cells #[.int .i64 a0_0, .int .i64 a0_1] 44 (0, 0)) (by (with_reducible repeat (first | refine blk_drewN ?_ _ | refine blk_drew ?_ | refine blk_alloc ?_ _)); exact BK221.out) hb); have n1_ := Aside0.mk (below_step (by repeat (first | (with_reducible first | exact HB.out | apply below_alloc | apply pw_below_drewN | apply below_drew1 | refine below_set ?_ GE221.out) | exact HB.out)) hb); clear BK221; clear HB; have BK221 := n0_; have HB := n1_; clear n0_ n1_; (try clear hb); (try clear hb2); (try clear hk); (try clear hi)))
                      go_ret
                      exact ⟨by first | rfl | (simp [errW_none, errW_some] <;> rfl) | (simp [*, errW_none, errW_some] <;> rfl), by repeat (first | (with_reducible first | exact HB.out | apply below_alloc | apply pw_below_drewN | apply below_drew1 | refine below_set ?_ GE221.out) | exact HB.out)⟩
                  · rw [if_neg c50] at H
                    have c50b0 : (t236 == a1) = false := beq_eq_false_iff_ne.mpr c50
                    have c50b1 : (t236 != a1) = true := bne_iff_ne.mpr c50
                    by_cases c60 : t224 ≤ a2
                    · rw [if_pos c60] at H
                      have c60b0 : decide (t224 ≤ a2) = true := decide_eq_true c60
                      clear c60
                      obtain rfl := Option.some.inj H
                      have hcz61_0 : wc.cell? ⟨gb221, 0, none⟩ = some (.int .i64 a0_0) := (blk_cell BK221.out 0).trans rfl
                      have hcz61_1 : wc.cell? ⟨gb221, 1, none⟩ = some (.int .i64 a0_1) := (blk_cell BK221.out 1).trans rfl
                      have hfz61_0 := blk_frozen BK221.out 0
                      have hfz61_1 := blk_frozen BK221.out 1
                      go_wp2_with (first | ((with_reducible refine gate_callee (f := 21) rfl ?_); refine goesL_ (some 98) rfl rfl Try.func21 (by kernel_rfl) rfl #[.agg #[.int .i64 a0_0, .int .i64 a0_1], .int .i64 (wrap64 (a1 + 1))] rfl (by (try simp only [List.map_toArray, List.map_cons, List.map_nil]); first | done | rfl | (simp only [List.length_drop, List.length_take]; rfl)) ?_; (with_reducible refine (fiscal_First.calls kj12 a0_0 a0_1 (wrap64 (a1 + 1)) t234 t235 _ A46.out).mono ?_); rintro e w62 ⟨rfl, hb⟩; refine ⟨_, rfl, ?_⟩; have n0_ := Aside0.mk (blk_below (g := gb221) (o := .cells #[.int .i64 a0_0, .int .i64 a0_1] 44 (0, 0)) (by (with_reducible repeat (first | refine blk_drewN ?_ _ | refine blk_drew ?_ | refine blk_alloc ?_ _)); exact BK221.out) hb); have n1_ := Aside0.mk (below_step (by repeat (first | (with_reducible first | exact HB.out | apply below_alloc | apply pw_below_drewN | apply below_drew1 | refine below_set ?_ GE221.out) | exact HB.out)) hb); clear BK221; clear HB; have BK221 := n0_; have HB := n1_; clear n0_ n1_; (try clear hb); (try clear hb2); (try clear hk); (try clear hi); have hcz63_0 : w62.cell? ⟨gb221, 0, none⟩ = some (.int .i64 a0_0) := (blk_cell BK221.out 0).trans rfl; have hcz63_1 : w62.cell? ⟨gb221, 1, none⟩ = some (.int .i64 a0_1) := (blk_cell BK221.out 1).trans rfl; have hfz63_0 := blk_frozen BK221.out 0; have hfz63_1 := blk_frozen BK221.out 1) | ((with_reducible refine gate_callee (f := 25) rfl ?_); refine goesL_ (some 112) rfl rfl Try.func25 (by kernel_rfl) rfl #[.agg #[.int .i64 a0_0, .int .i64 a0_1], .int .i64 a2] rfl (by (try simp only [List.map_toArray, List.map_cons, List.map_nil]); first | done | rfl | (simp only [List.length_drop, List.length_take]; rfl)) ?_; (with_reducible refine (fiscal_Of.calls kj12 a0_0 a0_1 a2 t236 t237 _ A49.out).mono ?_); rintro e w64 ⟨rfl, hb⟩; refine ⟨_, rfl, ?_⟩; have n0_ := Aside0.mk (blk_below (g := gb221) (o := .cells #[.int .i64 a0_0, .int .i64 a0_1] 44 (0, 0)) (by (with_reducible repeat (first | refine blk_drewN ?_ _ | refine blk_drew ?_ | refine blk_alloc ?_ _)); exact BK221.out) hb); have n1_ := Aside0.mk (below_step (by repeat (first | (with_reducible first | exact HB.out | apply below_alloc | apply pw_below_drewN | apply below_drew1 | refine below_set ?_ GE221.out) | exact HB.out)) hb); clear BK221; clear HB; have BK221 := n0_; have HB := n1_; clear n0_ n1_; (try clear hb); (try clear hb2); (try clear hk); (try clear hi)))
                      go_ret
                      exact ⟨by first | rfl | (simp [errW_none, errW_some] <;> rfl) | (simp [*, errW_none, errW_some] <;> rfl), by repeat (first | (with_reducible first | exact HB.out | apply below_alloc | apply pw_below_drewN | apply below_drew1 | refine below_set ?_ GE221.out) | exact HB.out)⟩
                    · rw [if_neg c60] at H
                      have c60b0 : decide (t224 ≤ a2) = false := decide_eq_false c60
                      clear c60
                      obtain rfl := Option.some.inj H
                      have hcz65_0 : wc.cell? ⟨gb221, 0, none⟩ = some (.int .i64 a0_0) := (blk_cell BK221.out 0).trans rfl
                      have hcz65_1 : wc.cell? ⟨gb221, 1, none⟩ = some (.int .i64 a0_1) := (blk_cell BK221.out 1).trans rfl
                      have hfz65_0 := blk_frozen BK221.out 0
                      have hfz65_1 := blk_frozen BK221.out 1
                      go_wp2_with (first | ((with_reducible refine gate_callee (f := 21) rfl ?_); refine goesL_ (some 98) rfl rfl Try.func21 (by kernel_rfl) rfl #[.agg #[.int .i64 a0_0, .int .i64 a0_1], .int .i64 (wrap64 (a1 + 1))] rfl (by (try simp only [List.map_toArray, List.map_cons, List.map_nil]); first | done | rfl | (simp only [List.length_drop, List.length_take]; rfl)) ?_; (with_reducible refine (fiscal_First.calls kj12 a0_0 a0_1 (wrap64 (a1 + 1)) t234 t235 _ A46.out).mono ?_); rintro e w66 ⟨rfl, hb⟩; refine ⟨_, rfl, ?_⟩; have n0_ := Aside0.mk (blk_below (g := gb221) (o := .cells #[.int .i64 a0_0, .int .i64 a0_1] 44 (0, 0)) (by (with_reducible repeat (first | refine blk_drewN ?_ _ | refine blk_drew ?_ | refine blk_alloc ?_ _)); exact BK221.out) hb); have n1_ := Aside0.mk (below_step (by repeat (first | (with_reducible first | exact HB.out | apply below_alloc | apply pw_below_drewN | apply below_drew1 | refine below_set ?_ GE221.out) | exact HB.out)) hb); clear BK221; clear HB; have BK221 := n0_; have HB := n1_; clear n0_ n1_; (try clear hb); (try clear hb2); (try clear hk); (try clear hi); have hcz67_0 : w66.cell? ⟨gb221, 0, none⟩ = some (.int .i64 a0_0) := (blk_cell BK221.out 0).trans rfl; have hcz67_1 : w66.cell? ⟨gb221, 1, none⟩ = some (.int .i64 a0_1) := (blk_cell BK221.out 1).trans rfl; have hfz67_0 := blk_frozen BK221.out 0; have hfz67_1 := blk_frozen BK221.out 1) | ((with_reducible refine gate_callee (f := 25) rfl ?_); refine goesL_ (some 112) rfl rfl Try.func25 (by kernel_rfl) rfl #[.agg #[.int .i64 a0_0, .int .i64 a0_1], .int .i64 a2] rfl (by (try simp only [List.map_toArray, List.map_cons, List.map_nil]); first | done | rfl | (simp only [List.length_drop, List.length_take]; rfl)) ?_; (with_reducible refine (fiscal_Of.calls kj12 a0_0 a0_1 a2 t236 t237 _ A49.out).mono ?_); rintro e w68 ⟨rfl, hb⟩; refine ⟨_, rfl, ?_⟩; have n0_ := Aside0.mk (blk_below (g := gb221) (o := .cells #[.int .i64 a0_0, .int .i64 a0_1] 44 (0, 0)) (by (with_reducible repeat (first | refine blk_drewN ?_ _ | refine blk_drew ?_ | refine blk_alloc ?_ _)); exact BK221.out) hb); have n1_ := Aside0.mk (below_step (by repeat (first | (with_reducible first | exact HB.out | apply below_alloc | apply pw_below_drewN | apply below_drew1 | refine below_set ?_ GE221.out) | exact HB.out)) hb); clear BK221; clear HB; have BK221 := n0_; have HB := n1_; clear n0_ n1_; (try clear hb); (try clear hb2); (try clear hk); (try clear hi)))
                      go_ret
                      exact ⟨by first | rfl | (simp [errW_none, errW_some] <;> rfl) | (simp [*, errW_none, errW_some] <;> rfl), by repeat (first | (with_reducible first | exact HB.out | apply below_alloc | apply pw_below_drewN | apply below_drew1 | refine below_set ?_ GE221.out) | exact HB.out)⟩
                · rw [if_neg c48] at H; cases H
              · rw [if_neg c47] at H
                have c47b0 : (t235 == 0) = false := beq_eq_false_iff_ne.mpr c47
                have c47b1 : (t235 != 0) = true := bne_iff_ne.mpr c47
                replace H := Option.bind_eq_some_iff.mp H
                obtain ⟨⟨t238, t239⟩, A710, H⟩ := H
                replace H : (if t238 = a1 then (if t224 ≤ a2 then (some ((t239 == 0) == (decide (a2 ≤ t226)))) else (some ((t239 == 0) == false))) else (if t224 ≤ a2 then (some (false == (decide (a2 ≤ t226)))) else (some (false == false)))) = some r := H
                have A71 := Aside0.mk A710
                clear A710
                by_cases c72 : t238 = a1
                · rw [if_pos c72] at H
                  have c72b0 : (t238 == a1) = true := beq_iff_eq.mpr c72
                  have c72b1 : (t238 != a1) = false := bne_eq_false_iff_eq.mpr c72
                  clear c72
                  by_cases c73 : t224 ≤ a2
                  · rw [if_pos c73] at H
                    have c73b0 : decide (t224 ≤ a2) = true := decide_eq_true c73
                    clear c73
                    obtain rfl := Option.some.inj H
                    have hcz74_0 : wc.cell? ⟨gb221, 0, none⟩ = some (.int .i64 a0_0) := (blk_cell BK221.out 0).trans rfl
                    have hcz74_1 : wc.cell? ⟨gb221, 1, none⟩ = some (.int .i64 a0_1) := (blk_cell BK221.out 1).trans rfl
                    have hfz74_0 := blk_frozen BK221.out 0
                    have hfz74_1 := blk_frozen BK221.out 1
                    go_wp2_with (first | ((with_reducible refine gate_callee (f := 21) rfl ?_); refine goesL_ (some 98) rfl rfl Try.func21 (by kernel_rfl) rfl #[.agg #[.int .i64 a0_0, .int .i64 a0_1], .int .i64 (wrap64 (a1 + 1))] rfl (by (try simp only [List.map_toArray, List.map_cons, List.map_nil]); first | done | rfl | (simp only [List.length_drop, List.length_take]; rfl)) ?_; (with_reducible refine (fiscal_First.calls kj12 a0_0 a0_1 (wrap64 (a1 + 1)) t234 t235 _ A46.out).mono ?_); rintro e w75 ⟨rfl, hb⟩; refine ⟨_, rfl, ?_⟩; have n0_ := Aside0.mk (blk_below (g := gb221) (o := .cells #[.int .i64 a0_0, .int .i64 a0_1] 44 (0, 0)) (by (with_reducible repeat (first | refine blk_drewN ?_ _ | refine blk_drew ?_ | refine blk_alloc ?_ _)); exact BK221.out) hb); have n1_ := Aside0.mk (below_step (by repeat (first | (with_reducible first | exact HB.out | apply below_alloc | apply pw_below_drewN | apply below_drew1 | refine below_set ?_ GE221.out) | exact HB.out)) hb); clear BK221; clear HB; have BK221 := n0_; have HB := n1_; clear n0_ n1_; (try clear hb); (try clear hb2); (try clear hk); (try clear hi); have hcz76_0 : w75.cell? ⟨gb221, 0, none⟩ = some (.int .i64 a0_0) := (blk_cell BK221.out 0).trans rfl; have hcz76_1 : w75.cell? ⟨gb221, 1, none⟩ = some (.int .i64 a0_1) := (blk_cell BK221.out 1).trans rfl; have hfz76_0 := blk_frozen BK221.out 0; have hfz76_1 := blk_frozen BK221.out 1) | ((with_reducible refine gate_callee (f := 25) rfl ?_); refine goesL_ (some 112) rfl rfl Try.func25 (by kernel_rfl) rfl #[.agg #[.int .i64 a0_0, .int .i64 a0_1], .int .i64 a2] rfl (by (try simp only [List.map_toArray, List.map_cons, List.map_nil]); first | done | rfl | (simp only [List.length_drop, List.length_take]; rfl)) ?_; (with_reducible refine (fiscal_Of.calls kj12 a0_0 a0_1 a2 t238 t239 _ A71.out).mono ?_); rintro e w77 ⟨rfl, hb⟩; refine ⟨_, rfl, ?_⟩; have n0_ := Aside0.mk (blk_below (g := gb221) (o := .cells #[.int .i64 a0_0, .int .i64 a0_1] 44 (0, 0)) (by (with_reducible repeat (first | refine blk_drewN ?_ _ | refine blk_drew ?_ | refine blk_alloc ?_ _)); exact BK221.out) hb); have n1_ := Aside0.mk (below_step (by repeat (first | (with_reducible first | exact HB.out | apply below_alloc | apply pw_below_drewN | apply below_drew1 | refine below_set ?_ GE221.out) | exact HB.out)) hb); clear BK221; clear HB; have BK221 := n0_; have HB := n1_; clear n0_ n1_; (try clear hb); (try clear hb2); (try clear hk); (try clear hi)))
                    go_ret
                    exact ⟨by first | rfl | (simp [errW_none, errW_some] <;> rfl) | (simp [*, errW_none, errW_some] <;> rfl), by repeat (first | (with_reducible first | exact HB.out | apply below_alloc | apply pw_below_drewN | apply below_drew1 | refine below_set ?_ GE221.out) | exact HB.out)⟩
                  · rw [if_neg c73] at H
                    have c73b0 : decide (t224 ≤ a2) = false := decide_eq_false c73
                    clear c73
                    obtain rfl := Option.some.inj H
                    have hcz78_0 : wc.cell? ⟨gb221, 0, none⟩ = some (.int .i64 a0_0) := (blk_cell BK221.out 0).trans rfl
                    have hcz78_1 : wc.cell? ⟨gb221, 1, none⟩ = some (.int .i64 a0_1) := (blk_cell BK221.out 1).trans rfl
                    have hfz78_0 := blk_frozen BK221.out 0
                    have hfz78_1 := blk_frozen BK221.out 1
                    go_wp2_with (first | ((with_reducible refine gate_callee (f := 21) rfl ?_); refine goesL_ (some 98) rfl rfl Try.func21 (by kernel_rfl) rfl #[.agg #[.int .i64 a0_0, .int .i64 a0_1], .int .i64 (wrap64 (a1 + 1))] rfl (by (try simp only [List.map_toArray, List.map_cons, List.map_nil]); first | done | rfl | (simp only [List.length_drop, List.length_take]; rfl)) ?_; (with_reducible refine (fiscal_First.calls kj12 a0_0 a0_1 (wrap64 (a1 + 1)) t234 t235 _ A46.out).mono ?_); rintro e w79 ⟨rfl, hb⟩; refine ⟨_, rfl, ?_⟩; have n0_ := Aside0.mk (blk_below (g := gb221) (o := .cells #[.int .i64 a0_0, .int .i64 a0_1] 44 (0, 0)) (by (with_reducible repeat (first | refine blk_drewN ?_ _ | refine blk_drew ?_ | refine blk_alloc ?_ _)); exact BK221.out) hb); have n1_ := Aside0.mk (below_step (by repeat (first | (with_reducible first | exact HB.out | apply below_alloc | apply pw_below_drewN | apply below_drew1 | refine below_set ?_ GE221.out) | exact HB.out)) hb); clear BK221; clear HB; have BK221 := n0_; have HB := n1_; clear n0_ n1_; (try clear hb); (try clear hb2); (try clear hk); (try clear hi); have hcz80_0 : w79.cell? ⟨gb221, 0, none⟩ = some (.int .i64 a0_0) := (blk_cell BK221.out 0).trans rfl; have hcz80_1 : w79.cell? ⟨gb221, 1, none⟩ = some (.int .i64 a0_1) := (blk_cell BK221.out 1).trans rfl; have hfz80_0 := blk_frozen BK221.out 0; have hfz80_1 := blk_frozen BK221.out 1) | ((with_reducible refine gate_callee (f := 25) rfl ?_); refine goesL_ (some 112) rfl rfl Try.func25 (by kernel_rfl) rfl #[.agg #[.int .i64 a0_0, .int .i64 a0_1], .int .i64 a2] rfl (by (try simp only [List.map_toArray, List.map_cons, List.map_nil]); first | done | rfl | (simp only [List.length_drop, List.length_take]; rfl)) ?_; (with_reducible refine (fiscal_Of.calls kj12 a0_0 a0_1 a2 t238 t239 _ A71.out).mono ?_); rintro e w81 ⟨rfl, hb⟩; refine ⟨_, rfl, ?_⟩; have n0_ := Aside0.mk (blk_below (g := gb221) (o := .cells #[.int .i64 a0_0, .int .i64 a0_1] 44 (0, 0)) (by (with_reducible repeat (first | refine blk_drewN ?_ _ | refine blk_drew ?_ | refine blk_alloc ?_ _)); exact BK221.out) hb); have n1_ := Aside0.mk (below_step (by repeat (first | (with_reducible first | exact HB.out | apply below_alloc | apply pw_below_drewN | apply below_drew1 | refine below_set ?_ GE221.out) | exact HB.out)) hb); clear BK221; clear HB; have BK221 := n0_; have HB := n1_; clear n0_ n1_; (try clear hb); (try clear hb2); (try clear hk); (try clear hi)))
                    go_ret
                    exact ⟨by first | rfl | (simp [errW_none, errW_some] <;> rfl) | (simp [*, errW_none, errW_some] <;> rfl), by repeat (first | (with_reducible first | exact HB.out | apply below_alloc | apply pw_below_drewN | apply below_drew1 | refine below_set ?_ GE221.out) | exact HB.out)⟩
                · rw [if_neg c72] at H
                  have c72b0 : (t238 == a1) = false := beq_eq_false_iff_ne.mpr c72
                  have c72b1 : (t238 != a1) = true := bne_iff_ne.mpr c72
                  by_cases c82 : t224 ≤ a2
                  · rw [if_pos c82] at H
                    have c82b0 : decide (t224 ≤ a2) = true := decide_eq_true c82
                    clear c82
                    obtain rfl := Option.some.inj H
                    have hcz83_0 : wc.cell? ⟨gb221, 0, none⟩ = some (.int .i64 a0_0) := (blk_cell BK221.out 0).trans rfl
                    have hcz83_1 : wc.cell? ⟨gb221, 1, none⟩ = some (.int .i64 a0_1) := (blk_cell BK221.out 1).trans rfl
                    have hfz83_0 := blk_frozen BK221.out 0
                    have hfz83_1 := blk_frozen BK221.out 1
                    go_wp2_with (first | ((with_reducible refine gate_callee (f := 21) rfl ?_); refine goesL_ (some 98) rfl rfl Try.func21 (by kernel_rfl) rfl #[.agg #[.int .i64 a0_0, .int .i64 a0_1], .int .i64 (wrap64 (a1 + 1))] rfl (by (try simp only [List.map_toArray, List.map_cons, List.map_nil]); first | done | rfl | (simp only [List.length_drop, List.length_take]; rfl)) ?_; (with_reducible refine (fiscal_First.calls kj12 a0_0 a0_1 (wrap64 (a1 + 1)) t234 t235 _ A46.out).mono ?_); rintro e w84 ⟨rfl, hb⟩; refine ⟨_, rfl, ?_⟩; have n0_ := Aside0.mk (blk_below (g := gb221) (o := .cells #[.int .i64 a0_0, .int .i64 a0_1] 44 (0, 0)) (by (with_reducible repeat (first | refine blk_drewN ?_ _ | refine blk_drew ?_ | refine blk_alloc ?_ _)); exact BK221.out) hb); have n1_ := Aside0.mk (below_step (by repeat (first | (with_reducible first | exact HB.out | apply below_alloc | apply pw_below_drewN | apply below_drew1 | refine below_set ?_ GE221.out) | exact HB.out)) hb); clear BK221; clear HB; have BK221 := n0_; have HB := n1_; clear n0_ n1_; (try clear hb); (try clear hb2); (try clear hk); (try clear hi); have hcz85_0 : w84.cell? ⟨gb221, 0, none⟩ = some (.int .i64 a0_0) := (blk_cell BK221.out 0).trans rfl; have hcz85_1 : w84.cell? ⟨gb221, 1, none⟩ = some (.int .i64 a0_1) := (blk_cell BK221.out 1).trans rfl; have hfz85_0 := blk_frozen BK221.out 0; have hfz85_1 := blk_frozen BK221.out 1) | ((with_reducible refine gate_callee (f := 25) rfl ?_); refine goesL_ (some 112) rfl rfl Try.func25 (by kernel_rfl) rfl #[.agg #[.int .i64 a0_0, .int .i64 a0_1], .int .i64 a2] rfl (by (try simp only [List.map_toArray, List.map_cons, List.map_nil]); first | done | rfl | (simp only [List.length_drop, List.length_take]; rfl)) ?_; (with_reducible refine (fiscal_Of.calls kj12 a0_0 a0_1 a2 t238 t239 _ A71.out).mono ?_); rintro e w86 ⟨rfl, hb⟩; refine ⟨_, rfl, ?_⟩; have n0_ := Aside0.mk (blk_below (g := gb221) (o := .cells #[.int .i64 a0_0, .int .i64 a0_1] 44 (0, 0)) (by (with_reducible repeat (first | refine blk_drewN ?_ _ | refine blk_drew ?_ | refine blk_alloc ?_ _)); exact BK221.out) hb); have n1_ := Aside0.mk (below_step (by repeat (first | (with_reducible first | exact HB.out | apply below_alloc | apply pw_below_drewN | apply below_drew1 | refine below_set ?_ GE221.out) | exact HB.out)) hb); clear BK221; clear HB; have BK221 := n0_; have HB := n1_; clear n0_ n1_; (try clear hb); (try clear hb2); (try clear hk); (try clear hi)))
                    go_ret
                    exact ⟨by first | rfl | (simp [errW_none, errW_some] <;> rfl) | (simp [*, errW_none, errW_some] <;> rfl), by repeat (first | (with_reducible first | exact HB.out | apply below_alloc | apply pw_below_drewN | apply below_drew1 | refine below_set ?_ GE221.out) | exact HB.out)⟩
                  · rw [if_neg c82] at H
                    have c82b0 : decide (t224 ≤ a2) = false := decide_eq_false c82
                    clear c82
                    obtain rfl := Option.some.inj H
                    have hcz87_0 : wc.cell? ⟨gb221, 0, none⟩ = some (.int .i64 a0_0) := (blk_cell BK221.out 0).trans rfl
                    have hcz87_1 : wc.cell? ⟨gb221, 1, none⟩ = some (.int .i64 a0_1) := (blk_cell BK221.out 1).trans rfl
                    have hfz87_0 := blk_frozen BK221.out 0
                    have hfz87_1 := blk_frozen BK221.out 1
                    go_wp2_with (first | ((with_reducible refine gate_callee (f := 21) rfl ?_); refine goesL_ (some 98) rfl rfl Try.func21 (by kernel_rfl) rfl #[.agg #[.int .i64 a0_0, .int .i64 a0_1], .int .i64 (wrap64 (a1 + 1))] rfl (by (try simp only [List.map_toArray, List.map_cons, List.map_nil]); first | done | rfl | (simp only [List.length_drop, List.length_take]; rfl)) ?_; (with_reducible refine (fiscal_First.calls kj12 a0_0 a0_1 (wrap64 (a1 + 1)) t234 t235 _ A46.out).mono ?_); rintro e w88 ⟨rfl, hb⟩; refine ⟨_, rfl, ?_⟩; have n0_ := Aside0.mk (blk_below (g := gb221) (o := .cells #[.int .i64 a0_0, .int .i64 a0_1] 44 (0, 0)) (by (with_reducible repeat (first | refine blk_drewN ?_ _ | refine blk_drew ?_ | refine blk_alloc ?_ _)); exact BK221.out) hb); have n1_ := Aside0.mk (below_step (by repeat (first | (with_reducible first | exact HB.out | apply below_alloc | apply pw_below_drewN | apply below_drew1 | refine below_set ?_ GE221.out) | exact HB.out)) hb); clear BK221; clear HB; have BK221 := n0_; have HB := n1_; clear n0_ n1_; (try clear hb); (try clear hb2); (try clear hk); (try clear hi); have hcz89_0 : w88.cell? ⟨gb221, 0, none⟩ = some (.int .i64 a0_0) := (blk_cell BK221.out 0).trans rfl; have hcz89_1 : w88.cell? ⟨gb221, 1, none⟩ = some (.int .i64 a0_1) := (blk_cell BK221.out 1).trans rfl; have hfz89_0 := blk_frozen BK221.out 0; have hfz89_1 := blk_frozen BK221.out 1) | ((with_reducible refine gate_callee (f := 25) rfl ?_); refine goesL_ (some 112) rfl rfl Try.func25 (by kernel_rfl) rfl #[.agg #[.int .i64 a0_0, .int .i64 a0_1], .int .i64 a2] rfl (by (try simp only [List.map_toArray, List.map_cons, List.map_nil]); first | done | rfl | (simp only [List.length_drop, List.length_take]; rfl)) ?_; (with_reducible refine (fiscal_Of.calls kj12 a0_0 a0_1 a2 t238 t239 _ A71.out).mono ?_); rintro e w90 ⟨rfl, hb⟩; refine ⟨_, rfl, ?_⟩; have n0_ := Aside0.mk (blk_below (g := gb221) (o := .cells #[.int .i64 a0_0, .int .i64 a0_1] 44 (0, 0)) (by (with_reducible repeat (first | refine blk_drewN ?_ _ | refine blk_drew ?_ | refine blk_alloc ?_ _)); exact BK221.out) hb); have n1_ := Aside0.mk (below_step (by repeat (first | (with_reducible first | exact HB.out | apply below_alloc | apply pw_below_drewN | apply below_drew1 | refine below_set ?_ GE221.out) | exact HB.out)) hb); clear BK221; clear HB; have BK221 := n0_; have HB := n1_; clear n0_ n1_; (try clear hb); (try clear hb2); (try clear hk); (try clear hi)))
                    go_ret
                    exact ⟨by first | rfl | (simp [errW_none, errW_some] <;> rfl) | (simp [*, errW_none, errW_some] <;> rfl), by repeat (first | (with_reducible first | exact HB.out | apply below_alloc | apply pw_below_drewN | apply below_drew1 | refine below_set ?_ GE221.out) | exact HB.out)⟩
      · rw [if_neg c10] at H
        have c10b0 : (t225 == 0) = false := beq_eq_false_iff_ne.mpr c10
        have c10b1 : (t225 != 0) = true := bne_iff_ne.mpr c10
        by_cases c91 : t227 = t225
        · rw [if_pos c91] at H
          have c91b0 : (t227 == t225) = true := beq_iff_eq.mpr c91
          have c91b1 : (t227 != t225) = false := bne_eq_false_iff_eq.mpr c91
          clear c91
          replace H := Option.bind_eq_some_iff.mp H
          obtain ⟨t228, A920, H⟩ := H
          replace H : (some (t228 == 0)) = some r := H
          have A92 := Aside0.mk A920
          clear A920
          obtain rfl := Option.some.inj H
          go_enter Try.func6, Try.ntmps6
          go_wp2_with (first | ((with_reducible refine gate_dst (N := 3) rfl ?_); refine box_event ?hg (N := 3) ?hd (cs := #[.int .i64 a0_0, .int .i64 a0_1]) (t := 44) ?hr ?_; (case hd => rfl); (case hg => rfl); (case hr => first | (go_simp; done) | (go_simp; rfl)); intro gb221 hg w93 hbox hb; have n0_ := Aside0.mk (below_step (by repeat (first | (with_reducible first | exact HB.out | apply below_alloc | apply pw_below_drewN | apply below_drew1) | exact HB.out)) hb); have n1_ := Aside0.mk (hbox); have n2_ := Aside0.mk ((by rw [hg]; exact (below_size (by repeat (first | (with_reducible first | exact HB.out | apply below_alloc | apply pw_below_drewN | apply below_drew1) | exact HB.out))) : w.heap.size ≤ gb221)); have n3_ := Aside0.mk ((by rw [hg]; exact (below_size (by repeat (first | (with_reducible first | exact HB.out | apply below_alloc | apply pw_below_drewN | apply below_drew1) | exact HB.out))) : w.heap.size ≤ gb221)); clear HB; have HB := n0_; have BK221 := n1_; have GW221 := n2_; have GE221 := n3_; clear n0_ n1_ n2_ n3_; clear hb hbox hg) | ((with_reducible refine gate_callee (f := 18) rfl ?_); refine goesL_ (some 19) rfl rfl Try.func18 (by kernel_rfl) rfl #[] rfl (by (try simp only [List.map_toArray, List.map_cons, List.map_nil]); first | done | rfl | (simp only [List.length_drop, List.length_take]; rfl)) ?_; (with_reducible refine (quitrentlaw04_awake.calls k  true _ A4.out).mono ?_); rintro e w94 ⟨rfl, hb⟩; refine ⟨_, rfl, ?_⟩; have n0_ := Aside0.mk (blk_below (g := gb221) (o := .cells #[.int .i64 a0_0, .int .i64 a0_1] 44 (0, 0)) (by (with_reducible repeat (first | refine blk_drewN ?_ _ | refine blk_drew ?_ | refine blk_alloc ?_ _)); exact BK221.out) hb); have n1_ := Aside0.mk (below_step (by repeat (first | (with_reducible first | exact HB.out | apply below_alloc | apply pw_below_drewN | apply below_drew1 | refine below_set ?_ GE221.out) | exact HB.out)) hb); clear BK221; clear HB; have BK221 := n0_; have HB := n1_; clear n0_ n1_; (try clear hb); (try clear hb2); (try clear hk); (try clear hi); have hcz95_0 : w94.cell? ⟨gb221, 0, none⟩ = some (.int .i64 a0_0) := (blk_cell BK221.out 0).trans rfl; have hcz95_1 : w94.cell? ⟨gb221, 1, none⟩ = some (.int .i64 a0_1) := (blk_cell BK221.out 1).trans rfl; have hfz95_0 := blk_frozen BK221.out 0; have hfz95_1 := blk_frozen BK221.out 1) | ((with_reducible refine gate_callee (f := 19) rfl ?_); refine goesL_ (some 22) rfl rfl Try.func19 (by kernel_rfl) rfl #[.agg #[.int .i64 a0_0, .int .i64 a0_1]] rfl (by (try simp only [List.map_toArray, List.map_cons, List.map_nil]); first | done | rfl | (simp only [List.length_drop, List.length_take]; rfl)) ?_; (with_reducible refine (fiscal_Check.calls k a0_0 a0_1 t223 _ A6.out).mono ?_); rintro e w96 ⟨rfl, hb⟩; refine ⟨_, rfl, ?_⟩; have n0_ := Aside0.mk (blk_below (g := gb221) (o := .cells #[.int .i64 a0_0, .int .i64 a0_1] 44 (0, 0)) (by (with_reducible repeat (first | refine blk_drewN ?_ _ | refine blk_drew ?_ | refine blk_alloc ?_ _)); exact BK221.out) hb); have n1_ := Aside0.mk (below_step (by repeat (first | (with_reducible first | exact HB.out | apply below_alloc | apply pw_below_drewN | apply below_drew1 | refine below_set ?_ GE221.out) | exact HB.out)) hb); clear BK221; clear HB; have BK221 := n0_; have HB := n1_; clear n0_ n1_; (try clear hb); (try clear hb2); (try clear hk); (try clear hi); have hcz97_0 : w96.cell? ⟨gb221, 0, none⟩ = some (.int .i64 a0_0) := (blk_cell BK221.out 0).trans rfl; have hcz97_1 : w96.cell? ⟨gb221, 1, none⟩ = some (.int .i64 a0_1) := (blk_cell BK221.out 1).trans rfl; have hfz97_0 := blk_frozen BK221.out 0; have hfz97_1 := blk_frozen BK221.out 1) | ((with_reducible refine gate_callee (f := 21) rfl ?_); refine goesL_ (some 27) rfl rfl Try.func21 (by kernel_rfl) rfl #[.agg #[.int .i64 a0_0, .int .i64 a0_1], .int .i64 a1] rfl (by (try simp only [List.map_toArray, List.map_cons, List.map_nil]); first | done | rfl | (simp only [List.length_drop, List.length_take]; rfl)) ?_; (with_reducible refine (fiscal_First.calls k a0_0 a0_1 a1 t224 t225 _ A8.out).mono ?_); rintro e w98 ⟨rfl, hb⟩; refine ⟨_, rfl, ?_⟩; have n0_ := Aside0.mk (blk_below (g := gb221) (o := .cells #[.int .i64 a0_0, .int .i64 a0_1] 44 (0, 0)) (by (with_reducible repeat (first | refine blk_drewN ?_ _ | refine blk_drew ?_ | refine blk_alloc ?_ _)); exact BK221.out) hb); have n1_ := Aside0.mk (below_step (by repeat (first | (with_reducible first | exact HB.out | apply below_alloc | apply pw_below_drewN | apply below_drew1 | refine below_set ?_ GE221.out) | exact HB.out)) hb); clear BK221; clear HB; have BK221 := n0_; have HB := n1_; clear n0_ n1_; (try clear hb); (try clear hb2); (try clear hk); (try clear hi); have hcz99_0 : w98.cell? ⟨gb221, 0, none⟩ = some (.int .i64 a0_0) := (blk_cell BK221.out 0).trans rfl; have hcz99_1 : w98.cell? ⟨gb221, 1, none⟩ = some (.int .i64 a0_1) := (blk_cell BK221.out 1).trans rfl; have hfz99_0 := blk_frozen BK221.out 0; have hfz99_1 := blk_frozen BK221.out 1) | ((with_reducible refine gate_callee (f := 23) rfl ?_); refine goesL_ (some 33) rfl rfl Try.func23 (by kernel_rfl) rfl #[.agg #[.int .i64 a0_0, .int .i64 a0_1], .int .i64 a1] rfl (by (try simp only [List.map_toArray, List.map_cons, List.map_nil]); first | done | rfl | (simp only [List.length_drop, List.length_take]; rfl)) ?_; (with_reducible refine (fiscal_Last.calls k a0_0 a0_1 a1 t226 t227 _ A9.out).mono ?_); rintro e w100 ⟨rfl, hb⟩; refine ⟨_, rfl, ?_⟩; have n0_ := Aside0.mk (blk_below (g := gb221) (o := .cells #[.int .i64 a0_0, .int .i64 a0_1] 44 (0, 0)) (by (with_reducible repeat (first | refine blk_drewN ?_ _ | refine blk_drew ?_ | refine blk_alloc ?_ _)); exact BK221.out) hb); have n1_ := Aside0.mk (below_step (by repeat (first | (with_reducible first | exact HB.out | apply below_alloc | apply pw_below_drewN | apply below_drew1 | refine below_set ?_ GE221.out) | exact HB.out)) hb); clear BK221; clear HB; have BK221 := n0_; have HB := n1_; clear n0_ n1_; (try clear hb); (try clear hb2); (try clear hk); (try clear hi); have hcz101_0 : w100.cell? ⟨gb221, 0, none⟩ = some (.int .i64 a0_0) := (blk_cell BK221.out 0).trans rfl; have hcz101_1 : w100.cell? ⟨gb221, 1, none⟩ = some (.int .i64 a0_1) := (blk_cell BK221.out 1).trans rfl; have hfz101_0 := blk_frozen BK221.out 0; have hfz101_1 := blk_frozen BK221.out 1) | (go_at_call 27; (with_reducible refine (fiscal_Days.calls k a0_0 a0_1 a1 t228 _ A92.out).mono ?_); rintro e w102 ⟨rfl, hb⟩; have n0_ := Aside0.mk (blk_below (g := gb221) (o := .cells #[.int .i64 a0_0, .int .i64 a0_1] 44 (0, 0)) (by (with_reducible repeat (first | refine blk_drewN ?_ _ | refine blk_drew ?_ | refine blk_alloc ?_ _)); exact BK221.out) hb); have n1_ := Aside0.mk (below_step (by repeat (first | (with_reducible first | exact HB.out | apply below_alloc | apply pw_below_drewN | apply below_drew1 | refine below_set ?_ GE221.out) | exact HB.out)) hb); clear BK221; clear HB; have BK221 := n0_; have HB := n1_; clear n0_ n1_; (try clear hb); (try clear hb2); (try clear hk); (try clear hi)))
          go_ret
          exact ⟨by first | rfl | (simp [errW_none, errW_some] <;> rfl) | (simp [*, errW_none, errW_some] <;> rfl), by repeat (first | (with_reducible first | exact HB.out | apply below_alloc | apply pw_below_drewN | apply below_drew1 | refine below_set ?_ GE221.out) | exact HB.out)⟩
        · rw [if_neg c91] at H; cases H
    · rw [if_neg c7] at H
      have c7b0 : (t223 == 0) = false := beq_eq_false_iff_ne.mpr c7
      have c7b1 : (t223 != 0) = true := bne_iff_ne.mpr c7
      obtain rfl := Option.some.inj H
      go_enter Try.func6, Try.ntmps6
      go_wp2_with (first | ((with_reducible refine gate_dst (N := 3) rfl ?_); refine box_event ?hg (N := 3) ?hd (cs := #[.int .i64 a0_0, .int .i64 a0_1]) (t := 44) ?hr ?_; (case hd => rfl); (case hg => rfl); (case hr => first | (go_simp; done) | (go_simp; rfl)); intro gb221 hg w111 hbox hb; have n0_ := Aside0.mk (below_step (by repeat (first | (with_reducible first | exact HB.out | apply below_alloc | apply pw_below_drewN | apply below_drew1) | exact HB.out)) hb); have n1_ := Aside0.mk (hbox); have n2_ := Aside0.mk ((by rw [hg]; exact (below_size (by repeat (first | (with_reducible first | exact HB.out | apply below_alloc | apply pw_below_drewN | apply below_drew1) | exact HB.out))) : w.heap.size ≤ gb221)); have n3_ := Aside0.mk ((by rw [hg]; exact (below_size (by repeat (first | (with_reducible first | exact HB.out | apply below_alloc | apply pw_below_drewN | apply below_drew1) | exact HB.out))) : w.heap.size ≤ gb221)); clear HB; have HB := n0_; have BK221 := n1_; have GW221 := n2_; have GE221 := n3_; clear n0_ n1_ n2_ n3_; clear hb hbox hg) | ((with_reducible refine gate_callee (f := 18) rfl ?_); refine goesL_ (some 19) rfl rfl Try.func18 (by kernel_rfl) rfl #[] rfl (by (try simp only [List.map_toArray, List.map_cons, List.map_nil]); first | done | rfl | (simp only [List.length_drop, List.length_take]; rfl)) ?_; (with_reducible refine (quitrentlaw04_awake.calls k  true _ A4.out).mono ?_); rintro e w112 ⟨rfl, hb⟩; refine ⟨_, rfl, ?_⟩; have n0_ := Aside0.mk (blk_below (g := gb221) (o := .cells #[.int .i64 a0_0, .int .i64 a0_1] 44 (0, 0)) (by (with_reducible repeat (first | refine blk_drewN ?_ _ | refine blk_drew ?_ | refine blk_alloc ?_ _)); exact BK221.out) hb); have n1_ := Aside0.mk (below_step (by repeat (first | (with_reducible first | exact HB.out | apply below_alloc | apply pw_below_drewN | apply below_drew1 | refine below_set ?_ GE221.out) | exact HB.out)) hb); clear BK221; clear HB; have BK221 := n0_; have HB := n1_; clear n0_ n1_; (try clear hb); (try clear hb2); (try clear hk); (try clear hi); have hcz113_0 : w112.cell? ⟨gb221, 0, none⟩ = some (.int .i64 a0_0) := (blk_cell BK221.out 0).trans rfl; have hcz113_1 : w112.cell? ⟨gb221, 1, none⟩ = some (.int .i64 a0_1) := (blk_cell BK221.out 1).trans rfl; have hfz113_0 := blk_frozen BK221.out 0; have hfz113_1 := blk_frozen BK221.out 1) | ((with_reducible refine gate_callee (f := 19) rfl ?_); refine goesL_ (some 22) rfl rfl Try.func19 (by kernel_rfl) rfl #[.agg #[.int .i64 a0_0, .int .i64 a0_1]] rfl (by (try simp only [List.map_toArray, List.map_cons, List.map_nil]); first | done | rfl | (simp only [List.length_drop, List.length_take]; rfl)) ?_; (with_reducible refine (fiscal_Check.calls k a0_0 a0_1 t223 _ A6.out).mono ?_); rintro e w114 ⟨rfl, hb⟩; refine ⟨_, rfl, ?_⟩; have n0_ := Aside0.mk (blk_below (g := gb221) (o := .cells #[.int .i64 a0_0, .int .i64 a0_1] 44 (0, 0)) (by (with_reducible repeat (first | refine blk_drewN ?_ _ | refine blk_drew ?_ | refine blk_alloc ?_ _)); exact BK221.out) hb); have n1_ := Aside0.mk (below_step (by repeat (first | (with_reducible first | exact HB.out | apply below_alloc | apply pw_below_drewN | apply below_drew1 | refine below_set ?_ GE221.out) | exact HB.out)) hb); clear BK221; clear HB; have BK221 := n0_; have HB := n1_; clear n0_ n1_; (try clear hb); (try clear hb2); (try clear hk); (try clear hi)))
      go_ret
      exact ⟨by first | rfl | (simp [errW_none, errW_some] <;> rfl) | (simp [*, errW_none, errW_some] <;> rfl), by repeat (first | (with_reducible first | exact HB.out | apply below_alloc | apply pw_below_drewN | apply below_drew1 | refine below_set ?_ GE221.out) | exact HB.out)⟩
  · rw [if_neg c5] at H; cases H
end Go.Proofs.Ytkfbmplhcigopab.PFis
