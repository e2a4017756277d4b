-- out of the print of PCod: codec_Parts
import Derived.Test.YtkfbmplhcigopabPCodx0
import Derived.Test.YtkfbmplhcigopabPCodF11
namespace Go.Proofs.Ytkfbmplhcigopab.PCod
open Go.RowKit Go.Proofs.YtkfbmplhcigopabW.PrintWords Go.Proofs.YtkfbmplhcigopabW.PrintLast Go.Proofs.YtkfbmplhcigopabW.PrintMore
attribute [local go_sem] max2_int min2_int max_two min_two max_three min_three max_four min_four   -- for this text's walks alone
set_option linter.unusedVariables false
set_option linter.unusedSimpArgs false

/-! ### codec_Parts: function 16 -/
mutual
def codec_Parts.j0 : Nat → ByteArray → Int → Int → Bool → Option (List ByteArray × Int)
  | 0, _, _, _, _ => none
  | k + 1, x0, x4, x5, x28 => if x28 = true then (some (([] : List ByteArray), 2)) else (if 0 ≤ x5 then (if x5 ≤ (x0.size : Int) then (codec_Parts.l0 k (x0.extract (x5 : Int).toNat x0.size) ([] : List ByteArray) 0 x4 0) else (none)) else (none))
def codec_Parts.l0 : Nat → ByteArray → List ByteArray → Int → Int → Int → Option (List ByteArray × Int)
  | 0, _, _, _, _, _ => none
  | k + 1, x7, x8, x9, x32, x33 => if x33 < x32 then ((codec_Take.f k x7).bind fun bt147 => (if bt147.2.2 = 0 then (if bt147.1 < 0 then (some (([] : List ByteArray), 2)) else (if bt147.1 > (wrap64 ((x7.size : Int) - bt147.2.1)) then (some (([] : List ByteArray), 2)) else (if 0 ≤ bt147.2.1 then (if bt147.2.1 ≤ (wrap64 (bt147.2.1 + bt147.1)) then (if (wrap64 (bt147.2.1 + bt147.1)) ≤ (x7.size : Int) then (if x8.length < 8796093022208 then (if 0 ≤ (wrap64 (bt147.2.1 + bt147.1)) then (codec_Parts.l0 k (x7.extract ((wrap64 (bt147.2.1 + bt147.1)) : Int).toNat x7.size) (x8 ++ [x7.extract (bt147.2.1 : Int).toNat ((wrap64 (bt147.2.1 + bt147.1)) : Int).toNat]) (wrap64 (x9 + bt147.1)) x32 (wrap64 (x33 + 1))) else (none)) else (none)) else (none)) else (none)) else (none)))) else (some (([] : List ByteArray), 2)))) else (if x7.toList = ([] : List UInt8) then (if x9 > 1048576 then (some (([] : List ByteArray), 2)) else (some (x8, 0))) else (some (([] : List ByteArray), 2)))
end
def codec_Parts.f (k : Nat) (a0 : ByteArray) : Option (List ByteArray × Int) := (codec_Take.f k a0).bind fun bt144 => (if bt144.2.2 = 0 then (if bt144.1 < 0 then (codec_Parts.j0 k a0 bt144.1 bt144.2.1 true) else (codec_Parts.j0 k a0 bt144.1 bt144.2.1 (decide (bt144.1 > 1000)))) else (codec_Parts.j0 k a0 bt144.1 bt144.2.1 true))
theorem codec_Parts.mono_l : ∀ k, (∀ y0 y1 y2 y3, LeO (codec_Parts.j0 k y0 y1 y2 y3) (codec_Parts.j0 (k + 1) y0 y1 y2 y3)) ∧ (∀ y0 y1 y2 y3 y4, LeO (codec_Parts.l0 k y0 y1 y2 y3 y4) (codec_Parts.l0 (k + 1) y0 y1 y2 y3 y4))
  | 0 => ⟨fun _ _ _ _ r h => by simp [codec_Parts.j0] at h, fun _ _ _ _ _ r h => by simp [codec_Parts.l0] at h⟩
  | k + 1 => by
    obtain ⟨ih0, ih1⟩ := codec_Parts.mono_l k
    refine ⟨?_, ?_⟩
    · intro y0 y1 y2 y3
      unfold codec_Parts.j0
      repeat' first
      | (with_reducible exact ih0 _ _ _ _)
      | (with_reducible exact ih1 _ _ _ _ _)
      | (with_reducible exact codec_Take.mono _ _)
      | (with_reducible exact LeO.refl _)
      | (with_reducible exact LeO.none _)
      | (with_reducible refine LeO.ite ?_ ?_)
      | (with_reducible refine LeO.bind ?_ (fun _ => ?_))
      | exact ih0 _ _ _ _
      | exact ih1 _ _ _ _ _
      | exact codec_Take.mono _ _
      | exact LeO.none _
      | refine LeO.ite ?_ ?_
      | refine LeO.bind ?_ (fun _ => ?_)
    · intro y0 y1 y2 y3 y4
      unfold codec_Parts.l0
      repeat' first
      | (with_reducible exact ih0 _ _ _ _)
      | (with_reducible exact ih1 _ _ _ _ _)
      | (with_reducible exact codec_Take.mono _ _)
      | (with_reducible exact LeO.refl _)
      | (with_reducible exact LeO.none _)
      | (with_reducible refine LeO.ite ?_ ?_)
      | (with_reducible refine LeO.bind ?_ (fun _ => ?_))
      | exact ih0 _ _ _ _
      | exact ih1 _ _ _ _ _
      | exact codec_Take.mono _ _
      | exact LeO.none _
      | refine LeO.ite ?_ ?_
      | refine LeO.bind ?_ (fun _ => ?_)
theorem codec_Parts.mono : ∀ a0 k, LeO (codec_Parts.f k a0) (codec_Parts.f (k + 1) a0) := by
  intro a0 k
  obtain ⟨ih0, ih1⟩ := codec_Parts.mono_l k
  unfold codec_Parts.f
  repeat' first
      | (with_reducible exact ih0 _ _ _ _)
      | (with_reducible exact ih1 _ _ _ _ _)
      | (with_reducible exact codec_Take.mono _ _)
      | (with_reducible exact LeO.refl _)
      | (with_reducible exact LeO.none _)
      | (with_reducible refine LeO.ite ?_ ?_)
      | (with_reducible refine LeO.bind ?_ (fun _ => ?_))
      | exact ih0 _ _ _ _
      | exact ih1 _ _ _ _ _
      | exact codec_Take.mono _ _
      | exact LeO.none _
      | refine LeO.ite ?_ ?_
      | refine LeO.bind ?_ (fun _ => ?_)
set_option maxHeartbeats 8000000 in
set_option maxRecDepth 100000 in
theorem codec_Parts.calls (k : Nat) (a0 : ByteArray) (r1 : List ByteArray) (r2 : Int) (w : World) (h : codec_Parts.f k a0 = some (r1, r2)) :
    Calls Try.prog 16 #[.string a0] w fun e w' => ∃ v0_ : Value, e = .returned (.tuple #[v0_, .int .i64 r2]) ∧ Kd.R Kd.string 9 w' w.heap.size (fun _ => True) v0_ r1 ∧ Below w.heap.size w w' := by
  have HB := Aside0.mk (Below.refl w.heap.size w)
  have H : ((codec_Take.f k a0).bind fun bt144 => (if bt144.2.2 = 0 then (if bt144.1 < 0 then (codec_Parts.j0 k a0 bt144.1 bt144.2.1 true) else (codec_Parts.j0 k a0 bt144.1 bt144.2.1 (decide (bt144.1 > 1000)))) else (codec_Parts.j0 k a0 bt144.1 bt144.2.1 true))) = some (r1, r2) := h
  clear h
  replace H := Option.bind_eq_some_iff.mp H
  obtain ⟨⟨t144, t145, t146⟩, A20, H⟩ := H
  replace H : (if t146 = 0 then (if t144 < 0 then (codec_Parts.j0 k a0 t144 t145 true) else (codec_Parts.j0 k a0 t144 t145 (decide (t144 > 1000)))) else (codec_Parts.j0 k a0 t144 t145 true)) = some (r1, r2) := H
  have A2 := Aside0.mk A20
  clear A20
  have HC3 := Aside0.mk H
  clear H
  go_enter Try.func16, Try.ntmps16
  go_upto_region 2 with (first | ((with_reducible refine gate_callee (f := 11) rfl ?_); refine goesL_ (some 15) rfl rfl Try.func11 (by kernel_rfl) rfl #[.string a0] rfl (by (try simp only [List.map_toArray, List.map_cons, List.map_nil]); first | done | rfl | (simp only [List.length_drop, List.length_take]; rfl)) ?_; (with_reducible refine (codec_Take.calls k a0 t144 t145 t146 _ A2.out).mono ?_); rintro e w' ⟨rfl, ⟨nd, rfl⟩⟩; refine ⟨_, rfl, ?_⟩))
  (try simp only [Act.put, List.setIfInBounds_toArray, List.set_cons_zero, List.set_cons_succ])
  go_cut [28] (fun v28 wc => ∃ (kq : Nat) (x28_2 : Bool), v28 = .bool x28_2 ∧ Aside0 (codec_Parts.j0 kq a0 t144 t145 x28_2 = some (r1, r2)) ∧ Aside0 (kq ≤ k) ∧ Aside0 (Below w.heap.size w wc))
  case first =>
    have H := HC3.out
    clear HC3
    by_cases c4 : t146 = 0
    · rw [if_pos c4] at H
      have c4b0 : (t146 == 0) = true := beq_iff_eq.mpr c4
      have c4b1 : (t146 != 0) = false := bne_eq_false_iff_eq.mpr c4
      clear c4
      (first | rw [c4b0] | (simp only [i64_w, i32_w]; rw [c4b0]) | skip)
      by_cases c5 : t144 < 0
      · rw [if_pos c5] at H
        have c5b0 : decide (t144 < 0) = true := decide_eq_true c5
        clear c5
        have H' := Aside0.mk H
        clear H
        go_wp2
        go_meet
        case rel => exact ⟨_, (true), (by first | rfl | (simp; done) | (simp [*]; done)), H', ⟨by first | omega | exact Nat.le_refl _⟩, ⟨by repeat (first | (with_reducible first | exact HB.out | apply below_alloc | apply pw_below_drewN | apply below_drew1) | exact HB.out)⟩⟩
      · rw [if_neg c5] at H
        have c5b0 : decide (t144 < 0) = false := decide_eq_false c5
        clear c5
        have H' := Aside0.mk H
        clear H
        go_wp2
        go_meet
        case rel => exact ⟨_, (decide (t144 > 1000)), (by first | rfl | (simp; done) | (simp [*]; done)), H', ⟨by first | omega | exact Nat.le_refl _⟩, ⟨by repeat (first | (with_reducible first | exact HB.out | apply below_alloc | apply pw_below_drewN | apply below_drew1) | exact HB.out)⟩⟩
    · rw [if_neg c4] at H
      have c4b0 : (t146 == 0) = false := beq_eq_false_iff_ne.mpr c4
      have c4b1 : (t146 != 0) = true := bne_iff_ne.mpr c4
      (first | rw [c4b0] | (simp only [i64_w, i32_w]; rw [c4b0]) | skip)
      have H' := Aside0.mk H
      clear H
      go_wp2
      go_meet
      case rel => exact ⟨_, (true), (by first | rfl | (simp; done) | (simp [*]; done)), H', ⟨by first | omega | exact Nat.le_refl _⟩, ⟨by repeat (first | (with_reducible first | exact HB.out | apply below_alloc | apply pw_below_drewN | apply below_drew1) | exact HB.out)⟩⟩
  case rest =>
    clear HC3
    try clear c1
    try clear p2
    try clear c4
    try clear c4b0
    try clear c4b1
    try clear c5
    try clear c5b0
    obtain ⟨kq, x28_2, rfl, HA, HJ2, HB⟩ := hcut
    cases kq with
    | zero => exact absurd HA.out (by simp [codec_Parts.j0])
    | succ kj2 =>
      have H := HA.out
      clear HA
      simp only [codec_Parts.j0] at H
      by_cases c6 : x28_2 = true
      · subst c6
        have H1 : (some (([] : List ByteArray), 2)) = some (r1, r2) := by rw [if_pos rfl] at H; exact H
        clear H
        have H := H1
        clear H1
        simp only [Option.some.injEq, Prod.mk.injEq] at H
        obtain ⟨rfl, rfl⟩ := H
        go_wp2
        go_ret2
        exact ⟨_, by first | rfl | (simp [errW_none, errW_some] <;> rfl) | (simp [*, errW_none, errW_some] <;> rfl), by first | exact Kd.R_nil _ _ _ _ _ | exact Kd.N_nil _ _ _ _ _ | exact Kd.V_nil _ _ _ _ _ | exact Kd.Q_nil _ _ _ _ _ | exact Kd.S_nil _ _ _ _ _, by repeat (first | (with_reducible first | exact HB.out | apply below_alloc | apply pw_below_drewN | apply below_drew1) | exact HB.out)⟩
      · replace c6 := Bool.eq_false_iff.mpr c6
        subst c6
        have H1 : (if 0 ≤ t145 then (if t145 ≤ (a0.size : Int) then (codec_Parts.l0 kj2 (a0.extract (t145 : Int).toNat a0.size) ([] : List ByteArray) 0 t144 0) else (none)) else (none)) = some (r1, r2) := by rw [if_neg (show ¬ (false = true) by decide)] at H; exact H
        clear H
        have H := H1
        clear H1
        by_cases c7 : 0 ≤ t145
        · rw [if_pos c7] at H
          have c7b0 := eq_true c7
          have c7b1 : decide (0 ≤ t145) = true := decide_eq_true c7
          clear c7
          by_cases c8 : t145 ≤ (a0.size : Int)
          · rw [if_pos c8] at H
            have c8b0 := eq_true c8
            have c8b1 : decide (t145 ≤ (a0.size : Int)) = true := decide_eq_true c8
            clear c8
            have H' := Aside0.mk H
            clear H
            go_wp2
            go_loopg [7, 8, 9, 33] kj2 (fun kq v7 v8 v9 v33 w' => ∃ (x7_2 : ByteArray) (x8_2 : List ByteArray) (x9_2 : Int) (x33_2 : Int), v7 = .string x7_2 ∧ v9 = .int .i64 x9_2 ∧ v33 = .int .i64 x33_2 ∧ Aside0 (codec_Parts.l0 kq x7_2 x8_2 x9_2 t144 x33_2 = some (r1, r2)) ∧ Aside0 (kq ≤ kj2) ∧ Aside0 (Kd.R Kd.string 9 w' w.heap.size (fun _ => True) v8 x8_2) ∧ Aside0 (Below w.heap.size w w'))
            case atStart => exact ⟨(a0.extract (t145 : Int).toNat a0.size), (([] : List ByteArray)), (0), (0), (by first | rfl | (simp; done) | (simp [*]; done)), (by first | rfl | (simp; done) | (simp [*]; done)), (by first | rfl | (simp; done) | (simp [*]; done)), H', ⟨Nat.le_refl _⟩, ⟨by first | exact Kd.R_nil _ _ _ _ _ | exact Kd.N_nil _ _ _ _ _ | exact Kd.V_nil _ _ _ _ _ | exact Kd.Q_nil _ _ _ _ _ | exact Kd.S_nil _ _ _ _ _⟩, ⟨by repeat (first | (with_reducible first | exact HB.out | apply below_alloc | apply pw_below_drewN | apply below_drew1) | exact HB.out)⟩⟩
            case round =>
              clear H'
              try clear c1
              try clear p2
              try clear c4
              try clear c4b0
              try clear c4b1
              try clear c5
              try clear c5b0
              try clear c6
              try clear c7
              try clear c7b0
              try clear c7b1
              try clear c8
              try clear c8b0
              try clear c8b1
              try clear p2
              obtain ⟨x7_2, x8_2, x9_2, x33_2, rfl, rfl, rfl, HA, HK2, HO_8, HB⟩ := hrel
              cases gk with
              | zero => exact absurd HA.out (by simp [codec_Parts.l0])
              | succ k2 =>
                have H := HA.out
                clear HA
                simp only [codec_Parts.l0] at H
                by_cases c9 : x33_2 < t144
                · rw [if_pos c9] at H
                  have c9b0 : decide (x33_2 < t144) = true := decide_eq_true c9
                  clear c9
                  replace H := Option.bind_eq_some_iff.mp H
                  obtain ⟨⟨t147, t148, t149⟩, A100, H⟩ := H
                  replace H : (if t149 = 0 then (if t147 < 0 then (some (([] : List ByteArray), 2)) else (if t147 > (wrap64 ((x7_2.size : Int) - t148)) then (some (([] : List ByteArray), 2)) else (if 0 ≤ t148 then (if t148 ≤ (wrap64 (t148 + t147)) then (if (wrap64 (t148 + t147)) ≤ (x7_2.size : Int) then (if x8_2.length < 8796093022208 then (if 0 ≤ (wrap64 (t148 + t147)) then (codec_Parts.l0 k2 (x7_2.extract ((wrap64 (t148 + t147)) : Int).toNat x7_2.size) (x8_2 ++ [x7_2.extract (t148 : Int).toNat ((wrap64 (t148 + t147)) : Int).toNat]) (wrap64 (x9_2 + t147)) t144 (wrap64 (x33_2 + 1))) else (none)) else (none)) else (none)) else (none)) else (none)))) else (some (([] : List ByteArray), 2))) = some (r1, r2) := H
                  have A10 := Aside0.mk A100
                  clear A100
                  by_cases c11 : t149 = 0
                  · rw [if_pos c11] at H
                    have c11b0 : (t149 == 0) = true := beq_iff_eq.mpr c11
                    have c11b1 : (t149 != 0) = false := bne_eq_false_iff_eq.mpr c11
                    clear c11
                    by_cases c12 : t147 < 0
                    · rw [if_pos c12] at H
                      have c12b0 : decide (t147 < 0) = true := decide_eq_true c12
                      clear c12
                      simp only [Option.some.injEq, Prod.mk.injEq] at H
                      obtain ⟨rfl, rfl⟩ := H
                      go_wp2_with (first | ((with_reducible refine gate_callee (f := 11) rfl ?_); refine goesL_ (some 37) rfl rfl Try.func11 (by kernel_rfl) rfl #[.string x7_2] rfl (by (try simp only [List.map_toArray, List.map_cons, List.map_nil]); first | done | rfl | (simp only [List.length_drop, List.length_take]; rfl)) ?_; (with_reducible refine (codec_Take.calls k2 x7_2 t147 t148 t149 _ A10.out).mono ?_); rintro e w' ⟨rfl, ⟨nd, rfl⟩⟩; refine ⟨_, rfl, ?_⟩))
                      go_ret2
                      exact ⟨_, by first | rfl | (simp [errW_none, errW_some] <;> rfl) | (simp [*, errW_none, errW_some] <;> rfl), by first | exact Kd.R_nil _ _ _ _ _ | exact Kd.N_nil _ _ _ _ _ | exact Kd.V_nil _ _ _ _ _ | exact Kd.Q_nil _ _ _ _ _ | exact Kd.S_nil _ _ _ _ _, by repeat (first | (with_reducible first | exact HB.out | apply below_alloc | apply pw_below_drewN | apply below_drew1) | exact HB.out)⟩
                    · rw [if_neg c12] at H
                      have c12b0 : decide (t147 < 0) = false := decide_eq_false c12
                      clear c12
                      by_cases c13 : t147 > (wrap64 ((x7_2.size : Int) - t148))
                      · rw [if_pos c13] at H
                        have c13b0 : decide ((wrap64 ((x7_2.size : Int) - t148)) < t147) = true := decide_eq_true c13
                        clear c13
                        simp only [Option.some.injEq, Prod.mk.injEq] at H
                        obtain ⟨rfl, rfl⟩ := H
                        go_wp2_with (first | ((with_reducible refine gate_callee (f := 11) rfl ?_); refine goesL_ (some 37) rfl rfl Try.func11 (by kernel_rfl) rfl #[.string x7_2] rfl (by (try simp only [List.map_toArray, List.map_cons, List.map_nil]); first | done | rfl | (simp only [List.length_drop, List.length_take]; rfl)) ?_; (with_reducible refine (codec_Take.calls k2 x7_2 t147 t148 t149 _ A10.out).mono ?_); rintro e w' ⟨rfl, ⟨nd, rfl⟩⟩; refine ⟨_, rfl, ?_⟩))
                        go_ret2
                        exact ⟨_, by first | rfl | (simp [errW_none, errW_some] <;> rfl) | (simp [*, errW_none, errW_some] <;> rfl), by first | exact Kd.R_nil _ _ _ _ _ | exact Kd.N_nil _ _ _ _ _ | exact Kd.V_nil _ _ _ _ _ | exact Kd.Q_nil _ _ _ _ _ | exact Kd.S_nil _ _ _ _ _, by repeat (first | (with_reducible first | exact HB.out | apply below_alloc | apply pw_below_drewN | apply below_drew1) | exact HB.out)⟩
                      · rw [if_neg c13] at H
                        have c13b0 : decide ((wrap64 ((x7_2.size : Int) - t148)) < t147) = false := decide_eq_false c13
                        clear c13
                        by_cases c14 : 0 ≤ t148
                        · rw [if_pos c14] at H
                          have c14b0 := eq_true c14
                          have c14b1 : decide (0 ≤ t148) = true := decide_eq_true c14
                          clear c14
                          by_cases c15 : t148 ≤ (wrap64 (t148 + t147))
                          · rw [if_pos c15] at H
                            have c15b0 := eq_true c15
                            have c15b1 : decide (t148 ≤ (wrap64 (t148 + t147))) = true := decide_eq_true c15
                            by_cases c16 : (wrap64 (t148 + t147)) ≤ (x7_2.size : Int)
                            · rw [if_pos c16] at H
                              have c16b0 := eq_true c16
                              have c16b1 : decide ((wrap64 (t148 + t147)) ≤ (x7_2.size : Int)) = true := decide_eq_true c16
                              by_cases c17 : x8_2.length < 8796093022208
                              · rw [if_pos c17] at H
                                have LMc17 := Aside0.mk c17
                                clear c17
                                obtain ⟨y150, hy150⟩ : ∃ y_ : List ByteArray, y_ = (x8_2 ++ [x7_2.extract (t148 : Int).toNat ((wrap64 (t148 + t147)) : Int).toNat]) := ⟨_, rfl⟩
                                replace H : (if 0 ≤ (wrap64 (t148 + t147)) then (codec_Parts.l0 k2 (x7_2.extract ((wrap64 (t148 + t147)) : Int).toNat x7_2.size) y150 (wrap64 (x9_2 + t147)) t144 (wrap64 (x33_2 + 1))) else (none)) = some (r1, r2) := by first | (rw [hy150]; with_reducible exact H) | (have H2_ := (Option.bind_some _ _).symm.trans H; rw [hy150]; with_reducible exact H2_) | (have H2_ := (Option.bind_some _ _).symm.trans H; with_reducible exact H2_) | with_reducible exact H | (rw [hy150]; exact H) | exact H
                                have Ny150 := Aside0.mk hy150
                                clear hy150
                                obtain ⟨ji18, hji18⟩ : ∃ j_ : Int, (wrap64 (t148 + t147)) = j_ := ⟨_, rfl⟩
                                replace H : (if 0 ≤ (ji18) then (codec_Parts.l0 k2 (x7_2.extract ((ji18) : Int).toNat x7_2.size) y150 (wrap64 (x9_2 + t147)) t144 (wrap64 (x33_2 + 1))) else (none)) = some (r1, r2) := by first | (rw [hji18] at H; exact H) | (simp only [hji18] at H ⊢; exact H)
                                (try rw [hji18] at c15b0)
                                (try rw [hji18] at c15b1)
                                (try rw [hji18] at c15)
                                (try rw [hji18] at c16b0)
                                (try rw [hji18] at c16b1)
                                (try rw [hji18] at c16)
                                (try rw [hji18] at A10)
                                (try rw [hji18] at Ny150)
                                have hji18w : (IntKind.i64.wrap (t148 + t147)) = ji18 := (i64_w _).trans hji18
                                by_cases c19 : 0 ≤ (ji18)
                                · rw [if_pos c19] at H
                                  have c19b0 := eq_true c19
                                  have c19b1 : decide (0 ≤ (ji18)) = true := decide_eq_true c19
                                  clear c19
                                  have c20b0 := eq_true (of_decide_eq_true (by first | (with_reducible assumption) | assumption) : (ji18) ≤ (x7_2.size : Int))
                                  have H' := Aside0.mk H
                                  clear H
                                  go_wp2_with (first | ((with_reducible refine gate_callee (f := 11) rfl ?_); refine goesL_ (some 37) rfl rfl Try.func11 (by kernel_rfl) rfl #[.string x7_2] rfl (by (try simp only [List.map_toArray, List.map_cons, List.map_nil]); first | done | rfl | (simp only [List.length_drop, List.length_take]; rfl)) ?_; (with_reducible refine (codec_Take.calls k2 x7_2 t147 t148 t149 _ A10.out).mono ?_); rintro e w' ⟨rfl, ⟨nd, rfl⟩⟩; refine ⟨_, rfl, ?_⟩) | ((with_reducible refine gate_builtin (b := .append) (xs := #[.tmp 55, .tmp 62]) rfl ?_); (try (refine gate_guard (by rfl) ?_; dsimp only)); at_builtin; refine Kd.R_append Kd.string (w0 := w) w.heap.size rfl (.tmp 55) (.tmp 62) 25 9 (.string ⟨#[]⟩) 16 rfl Try.underlying25 info9 rfl (by decide) (by omega) u8 x8_2 (x7_2.extract (t148 : Int).toNat ((ji18) : Int).toNat) [.string (x7_2.extract (t148 : Int).toNat ((ji18) : Int).toNat)] (fun _ => True) (fun _ => False) rfl rfl ?aP (fun _ hk => hk.elim) ?aF ?aO ?aB ?aS ?aL ?_; (case aP => exact rfl); (case aB => exact (by repeat (first | (with_reducible first | exact HB.out | apply below_alloc | apply pw_below_drewN | apply below_drew1) | exact HB.out))); (case aF => exact (fun _ _ => trivial)); (case aO => exact (by (with_reducible repeat (first | apply Kd.R_alloc | apply Kd.R_drewN | apply Kd.R_drew)); exact HO_8.out)); (case aS => exact (below_size (by repeat (first | (with_reducible first | exact HB.out | apply below_alloc | apply pw_below_drewN | apply below_drew1) | exact HB.out)))); (case aL => have := LMc17.out; omega); intro v151 w21 ho hb hg hat; rw [← Ny150.out] at ho; have n0_ := Aside0.mk (hb); have n1_ := Aside0.mk (ho); clear HB; clear HO_8; have HB := n0_; have HO152 := n1_; clear n0_ n1_; clear ho hb hg hat))
                                  go_roundg k2
                                  case measure => have := HJ2.out; have := HK2.out; omega
                                  case rel => exact ⟨(x7_2.extract ((ji18) : Int).toNat x7_2.size), (y150), (wrap64 (x9_2 + t147)), (wrap64 (x33_2 + 1)), (by first | rfl | (simp; done) | (simp only [← hji18] <;> (first | rfl | simp)) | (simp [*]; done)), (by first | rfl | (simp; done) | (simp [*]; done)), (by first | rfl | (simp; done) | (simp [*]; done)), H', ⟨by have := HJ2.out; have := HK2.out; omega⟩, ⟨by (with_reducible repeat (first | apply Kd.R_alloc | apply Kd.R_drewN | apply Kd.R_drew)); exact HO152.out⟩, ⟨by repeat (first | (with_reducible first | exact HB.out | apply below_alloc | apply pw_below_drewN | apply below_drew1) | exact HB.out)⟩⟩
                                · rw [if_neg c19] at H
                                  exact absurd H (by simp)
                              · rw [if_neg c17] at H
                                exact absurd H (by simp)
                            · rw [if_neg c16] at H
                              exact absurd H (by simp)
                          · rw [if_neg c15] at H
                            exact absurd H (by simp)
                        · rw [if_neg c14] at H
                          exact absurd H (by simp)
                  · rw [if_neg c11] at H
                    have c11b0 : (t149 == 0) = false := beq_eq_false_iff_ne.mpr c11
                    have c11b1 : (t149 != 0) = true := bne_iff_ne.mpr c11
                    simp only [Option.some.injEq, Prod.mk.injEq] at H
                    obtain ⟨rfl, rfl⟩ := H
                    go_wp2_with (first | ((with_reducible refine gate_callee (f := 11) rfl ?_); refine goesL_ (some 37) rfl rfl Try.func11 (by kernel_rfl) rfl #[.string x7_2] rfl (by (try simp only [List.map_toArray, List.map_cons, List.map_nil]); first | done | rfl | (simp only [List.length_drop, List.length_take]; rfl)) ?_; (with_reducible refine (codec_Take.calls k2 x7_2 t147 t148 t149 _ A10.out).mono ?_); rintro e w' ⟨rfl, ⟨nd, rfl⟩⟩; refine ⟨_, rfl, ?_⟩))
                    go_ret2
                    exact ⟨_, by first | rfl | (simp [errW_none, errW_some] <;> rfl) | (simp [*, errW_none, errW_some] <;> rfl), by first | exact Kd.R_nil _ _ _ _ _ | exact Kd.N_nil _ _ _ _ _ | exact Kd.V_nil _ _ _ _ _ | exact Kd.Q_nil _ _ _ _ _ | exact Kd.S_nil _ _ _ _ _, by repeat (first | (with_reducible first | exact HB.out | apply below_alloc | apply pw_below_drewN | apply below_drew1) | exact HB.out)⟩
                · rw [if_neg c9] at H
                  have c9b0 : decide (x33_2 < t144) = false := decide_eq_false c9
                  clear c9
                  by_cases c22 : x7_2.toList = ([] : List UInt8)
                  · rw [if_pos c22] at H
                    have c22b0 : (x7_2.toList == ([] : List UInt8)) = true := beq_iff_eq.mpr c22
                    have c22b1 : (x7_2.toList != ([] : List UInt8)) = false := bne_eq_false_iff_eq.mpr c22
                    clear c22
                    by_cases c23 : x9_2 > 1048576
                    · rw [if_pos c23] at H
                      have c23b0 : decide (1048576 < x9_2) = true := decide_eq_true c23
                      clear c23
                      simp only [Option.some.injEq, Prod.mk.injEq] at H
                      obtain ⟨rfl, rfl⟩ := H
                      go_wp2
                      go_ret2
                      exact ⟨_, by first | rfl | (simp [errW_none, errW_some] <;> rfl) | (simp [*, errW_none, errW_some] <;> rfl), by first | exact Kd.R_nil _ _ _ _ _ | exact Kd.N_nil _ _ _ _ _ | exact Kd.V_nil _ _ _ _ _ | exact Kd.Q_nil _ _ _ _ _ | exact Kd.S_nil _ _ _ _ _, by repeat (first | (with_reducible first | exact HB.out | apply below_alloc | apply pw_below_drewN | apply below_drew1) | exact HB.out)⟩
                    · rw [if_neg c23] at H
                      have c23b0 : decide (1048576 < x9_2) = false := decide_eq_false c23
                      clear c23
                      simp only [Option.some.injEq, Prod.mk.injEq] at H
                      obtain ⟨rfl, rfl⟩ := H
                      go_wp2
                      go_ret2
                      exact ⟨_, by first | rfl | (simp [errW_none, errW_some] <;> rfl) | (simp [*, errW_none, errW_some] <;> rfl), by (with_reducible repeat (first | apply Kd.R_alloc | apply Kd.R_drewN | apply Kd.R_drew)); exact HO_8.out, by repeat (first | (with_reducible first | exact HB.out | apply below_alloc | apply pw_below_drewN | apply below_drew1) | exact HB.out)⟩
                  · rw [if_neg c22] at H
                    have c22b0 : (x7_2.toList == ([] : List UInt8)) = false := beq_eq_false_iff_ne.mpr c22
                    have c22b1 : (x7_2.toList != ([] : List UInt8)) = true := bne_iff_ne.mpr c22
                    simp only [Option.some.injEq, Prod.mk.injEq] at H
                    obtain ⟨rfl, rfl⟩ := H
                    go_wp2
                    go_ret2
                    exact ⟨_, by first | rfl | (simp [errW_none, errW_some] <;> rfl) | (simp [*, errW_none, errW_some] <;> rfl), by first | exact Kd.R_nil _ _ _ _ _ | exact Kd.N_nil _ _ _ _ _ | exact Kd.V_nil _ _ _ _ _ | exact Kd.Q_nil _ _ _ _ _ | exact Kd.S_nil _ _ _ _ _, by repeat (first | (with_reducible first | exact HB.out | apply below_alloc | apply pw_below_drewN | apply below_drew1) | exact HB.out)⟩
          · rw [if_neg c8] at H
            exact absurd H (by simp)
        · rw [if_neg c7] at H
          exact absurd H (by simp)
end Go.Proofs.Ytkfbmplhcigopab.PCod
