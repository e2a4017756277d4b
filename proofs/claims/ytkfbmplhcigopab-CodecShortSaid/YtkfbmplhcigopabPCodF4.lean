-- out of the print of PCod: quitrentlaw08_CodecShort
import Derived.Test.YtkfbmplhcigopabPCodx0
import Derived.Test.YtkfbmplhcigopabPCodF8
import Derived.Test.YtkfbmplhcigopabPCodF10
namespace Go.Proofs.Ytkfbmplhcigopab.PCod
open Go.RowKit Go.Proofs.YtkfbmplhcigopabW.PrintWords Go.Proofs.YtkfbmplhcigopabW.PrintLast Go.Proofs.YtkfbmplhcigopabW.PrintMore
attribute [local go_sem] max2_int min2_int max_two min_two max_three min_three max_four min_four   -- for this text's walks alone
set_option linter.unusedVariables false
set_option linter.unusedSimpArgs false

/-! ### quitrentlaw08_CodecShort: function 4 -/
def quitrentlaw08_CodecShort.j0 : Nat → Int → Int → ByteArray → ByteArray → Bool → Option (Bool)
  | 0, _, _, _, _, _ => none
  | k + 1, x0, x1, x5, x6, x25 => if x25 = true then (some false) else (if x0 < 0 then (if x1 < 0 then (if (wrap64 (-(wrap64 (x0 + 1)))) ≤ (wrap64 (-(wrap64 (x1 + 1)))) then (if (x5.size : Int) ≤ (x6.size : Int) then (some true) else (if (wrap64 (-(wrap64 (x0 + 1)))) > (wrap64 (-(wrap64 (x1 + 1)))) then (some (decide ((x5.size : Int) ≥ (x6.size : Int)))) else (none))) else (if (wrap64 (-(wrap64 (x0 + 1)))) > (wrap64 (-(wrap64 (x1 + 1)))) then (some (decide ((x5.size : Int) ≥ (x6.size : Int)))) else (none))) else (if (wrap64 (-(wrap64 (x0 + 1)))) ≤ x1 then (if (x5.size : Int) ≤ (x6.size : Int) then (some true) else (if (wrap64 (-(wrap64 (x0 + 1)))) > x1 then (some (decide ((x5.size : Int) ≥ (x6.size : Int)))) else (none))) else (if (wrap64 (-(wrap64 (x0 + 1)))) > x1 then (some (decide ((x5.size : Int) ≥ (x6.size : Int)))) else (none)))) else (if x1 < 0 then (if x0 ≤ (wrap64 (-(wrap64 (x1 + 1)))) then (if (x5.size : Int) ≤ (x6.size : Int) then (some true) else (if x0 > (wrap64 (-(wrap64 (x1 + 1)))) then (some (decide ((x5.size : Int) ≥ (x6.size : Int)))) else (none))) else (if x0 > (wrap64 (-(wrap64 (x1 + 1)))) then (some (decide ((x5.size : Int) ≥ (x6.size : Int)))) else (none))) else (if x0 ≤ x1 then (if (x5.size : Int) ≤ (x6.size : Int) then (some true) else (if x0 > x1 then (some (decide ((x5.size : Int) ≥ (x6.size : Int)))) else (none))) else (if x0 > x1 then (some (decide ((x5.size : Int) ≥ (x6.size : Int)))) else (none)))))
def quitrentlaw08_CodecShort.f (k : Nat) (a0 : Int) (a1 : Int) : Option (Bool) := (quitrentlaw08_awake.f k).bind fun t238 => (if t238 = true then ((codec_Number.f k a0).bind fun t239 => ((codec_Number.f k a1).bind fun t240 => (if (t239.size : Int) < 1 then (quitrentlaw08_CodecShort.j0 k a0 a1 t239 t240 true) else (if (t239.size : Int) > 10 then (quitrentlaw08_CodecShort.j0 k a0 a1 t239 t240 true) else (quitrentlaw08_CodecShort.j0 k a0 a1 t239 t240 (decide ((t240.size : Int) > 10))))))) else (none))
theorem quitrentlaw08_CodecShort.mono_l : ∀ k, (∀ y0 y1 y2 y3 y4, LeO (quitrentlaw08_CodecShort.j0 k y0 y1 y2 y3 y4) (quitrentlaw08_CodecShort.j0 (k + 1) y0 y1 y2 y3 y4))
  | 0 => fun _ _ _ _ _ r h => by simp [quitrentlaw08_CodecShort.j0] at h
  | k + 1 => by
    have ih0 := quitrentlaw08_CodecShort.mono_l k
    · intro y0 y1 y2 y3 y4
      unfold quitrentlaw08_CodecShort.j0
      repeat' first
      | (with_reducible exact ih0 _ _ _ _ _)
      | (with_reducible exact codec_Number.mono _ _)
      | (with_reducible exact quitrentlaw08_awake.mono _)
      | (with_reducible exact LeO.refl _)
      | (with_reducible exact LeO.none _)
      | (with_reducible refine LeO.ite ?_ ?_)
      | (with_reducible refine LeO.bind ?_ (fun _ => ?_))
      | exact ih0 _ _ _ _ _
      | exact codec_Number.mono _ _
      | exact quitrentlaw08_awake.mono _
      | exact LeO.none _
      | refine LeO.ite ?_ ?_
      | refine LeO.bind ?_ (fun _ => ?_)
theorem quitrentlaw08_CodecShort.mono : ∀ a0 a1 k, LeO (quitrentlaw08_CodecShort.f k a0 a1) (quitrentlaw08_CodecShort.f (k + 1) a0 a1) := by
  intro a0 a1 k
  have ih0 := quitrentlaw08_CodecShort.mono_l k
  unfold quitrentlaw08_CodecShort.f
  repeat' first
      | (with_reducible exact ih0 _ _ _ _ _)
      | (with_reducible exact codec_Number.mono _ _)
      | (with_reducible exact quitrentlaw08_awake.mono _)
      | (with_reducible exact LeO.refl _)
      | (with_reducible exact LeO.none _)
      | (with_reducible refine LeO.ite ?_ ?_)
      | (with_reducible refine LeO.bind ?_ (fun _ => ?_))
      | exact ih0 _ _ _ _ _
      | exact codec_Number.mono _ _
      | exact quitrentlaw08_awake.mono _
      | exact LeO.none _
      | refine LeO.ite ?_ ?_
      | refine LeO.bind ?_ (fun _ => ?_)
set_option maxHeartbeats 8000000 in
set_option maxRecDepth 100000 in
theorem quitrentlaw08_CodecShort.calls (k : Nat) (a0 : Int) (a1 : Int) (r : Bool) (w : World) (h : quitrentlaw08_CodecShort.f k a0 a1 = some r) :
    Calls Try.prog 4 #[.int .i64 a0, .int .i64 a1] w fun e w' => e = .returned (.bool r) ∧ Below w.heap.size w w' := by
  have HB := Aside0.mk (Below.refl w.heap.size w)
  have H : ((quitrentlaw08_awake.f k).bind fun t238 => (if t238 = true then ((codec_Number.f k a0).bind fun t239 => ((codec_Number.f k a1).bind fun t240 => (if (t239.size : Int) < 1 then (quitrentlaw08_CodecShort.j0 k a0 a1 t239 t240 true) else (if (t239.size : Int) > 10 then (quitrentlaw08_CodecShort.j0 k a0 a1 t239 t240 true) else (quitrentlaw08_CodecShort.j0 k a0 a1 t239 t240 (decide ((t240.size : Int) > 10))))))) else (none))) = some r := h
  clear h
  replace H := Option.bind_eq_some_iff.mp H
  obtain ⟨t238, A30, H⟩ := H
  replace H : (if t238 = true then ((codec_Number.f k a0).bind fun t239 => ((codec_Number.f k a1).bind fun t240 => (if (t239.size : Int) < 1 then (quitrentlaw08_CodecShort.j0 k a0 a1 t239 t240 true) else (if (t239.size : Int) > 10 then (quitrentlaw08_CodecShort.j0 k a0 a1 t239 t240 true) else (quitrentlaw08_CodecShort.j0 k a0 a1 t239 t240 (decide ((t240.size : Int) > 10))))))) else (none)) = some r := H
  have A3 := Aside0.mk A30
  clear A30
  by_cases c4 : t238 = true
  · subst c4
    have H1 : ((codec_Number.f k a0).bind fun t239 => ((codec_Number.f k a1).bind fun t240 => (if (t239.size : Int) < 1 then (quitrentlaw08_CodecShort.j0 k a0 a1 t239 t240 true) else (if (t239.size : Int) > 10 then (quitrentlaw08_CodecShort.j0 k a0 a1 t239 t240 true) else (quitrentlaw08_CodecShort.j0 k a0 a1 t239 t240 (decide ((t240.size : Int) > 10))))))) = some r := by rw [if_pos rfl] at H; exact H
    clear H
    have H := H1
    clear H1
    replace H := Option.bind_eq_some_iff.mp H
    obtain ⟨t239, A50, H⟩ := H
    replace H : ((codec_Number.f k a1).bind fun t240 => (if (t239.size : Int) < 1 then (quitrentlaw08_CodecShort.j0 k a0 a1 t239 t240 true) else (if (t239.size : Int) > 10 then (quitrentlaw08_CodecShort.j0 k a0 a1 t239 t240 true) else (quitrentlaw08_CodecShort.j0 k a0 a1 t239 t240 (decide ((t240.size : Int) > 10)))))) = some r := H
    have A5 := Aside0.mk A50
    clear A50
    replace H := Option.bind_eq_some_iff.mp H
    obtain ⟨t240, A60, H⟩ := H
    replace H : (if (t239.size : Int) < 1 then (quitrentlaw08_CodecShort.j0 k a0 a1 t239 t240 true) else (if (t239.size : Int) > 10 then (quitrentlaw08_CodecShort.j0 k a0 a1 t239 t240 true) else (quitrentlaw08_CodecShort.j0 k a0 a1 t239 t240 (decide ((t240.size : Int) > 10))))) = some r := H
    have A6 := Aside0.mk A60
    clear A60
    have HC7 := Aside0.mk H
    clear H
    go_enter Try.func4, Try.ntmps4
    go_upto_region 4 with (first | ((with_reducible refine gate_callee (f := 8) rfl ?_); refine goesL_ (some 7) rfl rfl Try.func8 (by kernel_rfl) rfl #[] rfl (by (try simp only [List.map_toArray, List.map_cons, List.map_nil]); first | done | rfl | (simp only [List.length_drop, List.length_take]; rfl)) ?_; (with_reducible refine (quitrentlaw08_awake.calls k  true _ A3.out).mono ?_); rintro e w8 ⟨rfl, hb⟩; refine ⟨_, rfl, ?_⟩; have n0_ := Aside0.mk (below_step (by repeat (first | (with_reducible first | exact HB.out | apply below_alloc | apply pw_below_drewN | apply below_drew1) | exact HB.out)) hb); clear HB; have HB := n0_; clear n0_; (try clear hb); (try clear hb2); (try clear hk); (try clear hi)) | ((with_reducible refine gate_callee (f := 10) rfl ?_); refine goesL_ (some 10) rfl rfl Try.func10 (by kernel_rfl) rfl #[.int .i64 a0] rfl (by (try simp only [List.map_toArray, List.map_cons, List.map_nil]); first | done | rfl | (simp only [List.length_drop, List.length_take]; rfl)) ?_; (with_reducible refine (codec_Number.calls k a0 t239 _ A5.out).mono ?_); rintro e w9 ⟨rfl, hb⟩; refine ⟨_, rfl, ?_⟩; have n0_ := Aside0.mk (below_step (by repeat (first | (with_reducible first | exact HB.out | apply below_alloc | apply pw_below_drewN | apply below_drew1) | exact HB.out)) hb); clear HB; have HB := n0_; clear n0_; (try clear hb); (try clear hb2); (try clear hk); (try clear hi)) | ((with_reducible refine gate_callee (f := 10) rfl ?_); refine goesL_ (some 12) rfl rfl Try.func10 (by kernel_rfl) rfl #[.int .i64 a1] rfl (by (try simp only [List.map_toArray, List.map_cons, List.map_nil]); first | done | rfl | (simp only [List.length_drop, List.length_take]; rfl)) ?_; (with_reducible refine (codec_Number.calls k a1 t240 _ A6.out).mono ?_); rintro e w10 ⟨rfl, hb⟩; refine ⟨_, rfl, ?_⟩; have n0_ := Aside0.mk (below_step (by repeat (first | (with_reducible first | exact HB.out | apply below_alloc | apply pw_below_drewN | apply below_drew1) | exact HB.out)) hb); clear HB; have HB := n0_; clear n0_; (try clear hb); (try clear hb2); (try clear hk); (try clear hi)))
    (try simp only [Act.put, List.setIfInBounds_toArray, List.set_cons_zero, List.set_cons_succ])
    go_cut [25] (fun v25 wc => ∃ (kq : Nat) (x25_6 : Bool), v25 = .bool x25_6 ∧ Aside0 (quitrentlaw08_CodecShort.j0 kq a0 a1 t239 t240 x25_6 = some r) ∧ Aside0 (kq ≤ k) ∧ Aside0 (Below w.heap.size w wc))
    case first =>
      have H := HC7.out
      clear HC7
      by_cases c11 : (t239.size : Int) < 1
      · rw [if_pos c11] at H
        have c11b0 : decide ((t239.size : Int) < 1) = true := decide_eq_true c11
        have c11b1 : decide (t239.size < 1) = true := decide_eq_true (by omega)
        clear c11
        (first | rw [c11b0] | (simp only [i64_w, i32_w]; rw [c11b0]) | skip)
        have H' := Aside0.mk H
        clear H
        go_wp2
        go_meet
        case rel => exact ⟨_, (true), (by first | rfl | (simp; done) | (simp [*]; done)), H', ⟨by first | omega | exact Nat.le_refl _⟩, ⟨by repeat (first | (with_reducible first | exact HB.out | apply below_alloc | apply pw_below_drewN | apply below_drew1) | exact HB.out)⟩⟩
      · rw [if_neg c11] at H
        have c11b0 : decide ((t239.size : Int) < 1) = false := decide_eq_false c11
        have c11b1 : decide (t239.size < 1) = false := decide_eq_false (by omega)
        clear c11
        (first | rw [c11b0] | (simp only [i64_w, i32_w]; rw [c11b0]) | skip)
        by_cases c12 : (t239.size : Int) > 10
        · rw [if_pos c12] at H
          have c12b0 : decide (10 < (t239.size : Int)) = true := decide_eq_true c12
          have c12b1 : decide (10 < t239.size) = true := decide_eq_true (by omega)
          clear c12
          have H' := Aside0.mk H
          clear H
          go_wp2
          go_meet
          case rel => exact ⟨_, (true), (by first | rfl | (simp; done) | (simp [*]; done)), H', ⟨by first | omega | exact Nat.le_refl _⟩, ⟨by repeat (first | (with_reducible first | exact HB.out | apply below_alloc | apply pw_below_drewN | apply below_drew1) | exact HB.out)⟩⟩
        · rw [if_neg c12] at H
          have c12b0 : decide (10 < (t239.size : Int)) = false := decide_eq_false c12
          have c12b1 : decide (10 < t239.size) = false := decide_eq_false (by omega)
          clear c12
          have H' := Aside0.mk H
          clear H
          go_wp2
          go_meet
          case rel => exact ⟨_, (decide ((t240.size : Int) > 10)), (by first | rfl | (simp; done) | (simp [*]; done)), H', ⟨by first | omega | exact Nat.le_refl _⟩, ⟨by repeat (first | (with_reducible first | exact HB.out | apply below_alloc | apply pw_below_drewN | apply below_drew1) | exact HB.out)⟩⟩
    case rest =>
      clear HC7
      try clear c1
      try clear p2
      try clear c4
      try clear c8
      try clear c10
      try clear c11
      try clear c11b0
      try clear c11b1
      try clear c12
      try clear c12b0
      try clear c12b1
      obtain ⟨kq, x25_6, rfl, HA, HJ6, HB⟩ := hcut
      cases kq with
      | zero => exact absurd HA.out (by simp [quitrentlaw08_CodecShort.j0])
      | succ kj6 =>
        have H := HA.out
        clear HA
        simp only [quitrentlaw08_CodecShort.j0] at H
        by_cases c13 : x25_6 = true
        · subst c13
          have H1 : (some false) = some r := by rw [if_pos rfl] at H; exact H
          clear H
          have H := H1
          clear H1
          obtain rfl := Option.some.inj H
          go_wp2
          go_ret
          exact ⟨by first | rfl | (simp [errW_none, errW_some] <;> rfl) | (simp [*, errW_none, errW_some] <;> rfl), by repeat (first | (with_reducible first | exact HB.out | apply below_alloc | apply pw_below_drewN | apply below_drew1) | exact HB.out)⟩
        · replace c13 := Bool.eq_false_iff.mpr c13
          subst c13
          have H1 : (if a0 < 0 then (if a1 < 0 then (if (wrap64 (-(wrap64 (a0 + 1)))) ≤ (wrap64 (-(wrap64 (a1 + 1)))) then (if (t239.size : Int) ≤ (t240.size : Int) then (some true) else (if (wrap64 (-(wrap64 (a0 + 1)))) > (wrap64 (-(wrap64 (a1 + 1)))) then (some (decide ((t239.size : Int) ≥ (t240.size : Int)))) else (none))) else (if (wrap64 (-(wrap64 (a0 + 1)))) > (wrap64 (-(wrap64 (a1 + 1)))) then (some (decide ((t239.size : Int) ≥ (t240.size : Int)))) else (none))) else (if (wrap64 (-(wrap64 (a0 + 1)))) ≤ a1 then (if (t239.size : Int) ≤ (t240.size : Int) then (some true) else (if (wrap64 (-(wrap64 (a0 + 1)))) > a1 then (some (decide ((t239.size : Int) ≥ (t240.size : Int)))) else (none))) else (if (wrap64 (-(wrap64 (a0 + 1)))) > a1 then (some (decide ((t239.size : Int) ≥ (t240.size : Int)))) else (none)))) else (if a1 < 0 then (if a0 ≤ (wrap64 (-(wrap64 (a1 + 1)))) then (if (t239.size : Int) ≤ (t240.size : Int) then (some true) else (if a0 > (wrap64 (-(wrap64 (a1 + 1)))) then (some (decide ((t239.size : Int) ≥ (t240.size : Int)))) else (none))) else (if a0 > (wrap64 (-(wrap64 (a1 + 1)))) then (some (decide ((t239.size : Int) ≥ (t240.size : Int)))) else (none))) else (if a0 ≤ a1 then (if (t239.size : Int) ≤ (t240.size : Int) then (some true) else (if a0 > a1 then (some (decide ((t239.size : Int) ≥ (t240.size : Int)))) else (none))) else (if a0 > a1 then (some (decide ((t239.size : Int) ≥ (t240.size : Int)))) else (none))))) = some r := by rw [if_neg (show ¬ (false = true) by decide)] at H; exact H
          clear H
          have H := H1
          clear H1
          by_cases c14 : a0 < 0
          · rw [if_pos c14] at H
            have c14b0 : decide (a0 < 0) = true := decide_eq_true c14
            clear c14
            by_cases c15 : a1 < 0
            · rw [if_pos c15] at H
              have c15b0 : decide (a1 < 0) = true := decide_eq_true c15
              clear c15
              by_cases c16 : (wrap64 (-(wrap64 (a0 + 1)))) ≤ (wrap64 (-(wrap64 (a1 + 1))))
              · rw [if_pos c16] at H
                have c16b0 : decide ((wrap64 (-(wrap64 (a0 + 1)))) ≤ (wrap64 (-(wrap64 (a1 + 1))))) = true := decide_eq_true c16
                clear c16
                by_cases c17 : (t239.size : Int) ≤ (t240.size : Int)
                · rw [if_pos c17] at H
                  have c17b0 : decide ((t239.size : Int) ≤ (t240.size : Int)) = true := decide_eq_true c17
                  have c17b1 : decide (t239.size ≤ t240.size) = true := decide_eq_true (Int.ofNat_le.mp c17)
                  clear c17
                  obtain rfl := Option.some.inj H
                  go_wp2
                  go_ret
                  exact ⟨by first | rfl | (simp [errW_none, errW_some] <;> rfl) | (simp [*, errW_none, errW_some] <;> rfl), by repeat (first | (with_reducible first | exact HB.out | apply below_alloc | apply pw_below_drewN | apply below_drew1) | exact HB.out)⟩
                · rw [if_neg c17] at H
                  have c17b0 : decide ((t239.size : Int) ≤ (t240.size : Int)) = false := decide_eq_false c17
                  have c17b1 : decide (t239.size ≤ t240.size) = false := decide_eq_false (fun h => c17 (Int.ofNat_le.mpr h))
                  clear c17
                  by_cases c18 : (wrap64 (-(wrap64 (a0 + 1)))) > (wrap64 (-(wrap64 (a1 + 1))))
                  · rw [if_pos c18] at H
                    have c18b0 : decide ((wrap64 (-(wrap64 (a1 + 1)))) < (wrap64 (-(wrap64 (a0 + 1))))) = true := decide_eq_true c18
                    clear c18
                    obtain rfl := Option.some.inj H
                    go_wp2
                    go_ret
                    exact ⟨by first | rfl | (simp [errW_none, errW_some] <;> rfl) | (simp [*, errW_none, errW_some] <;> rfl), by repeat (first | (with_reducible first | exact HB.out | apply below_alloc | apply pw_below_drewN | apply below_drew1) | exact HB.out)⟩
                  · rw [if_neg c18] at H; cases H
              · rw [if_neg c16] at H
                have c16b0 : decide ((wrap64 (-(wrap64 (a0 + 1)))) ≤ (wrap64 (-(wrap64 (a1 + 1))))) = false := decide_eq_false c16
                clear c16
                by_cases c19 : (wrap64 (-(wrap64 (a0 + 1)))) > (wrap64 (-(wrap64 (a1 + 1))))
                · rw [if_pos c19] at H
                  have c19b0 : decide ((wrap64 (-(wrap64 (a1 + 1)))) < (wrap64 (-(wrap64 (a0 + 1))))) = true := decide_eq_true c19
                  clear c19
                  obtain rfl := Option.some.inj H
                  go_wp2
                  go_ret
                  exact ⟨by first | rfl | (simp [errW_none, errW_some] <;> rfl) | (simp [*, errW_none, errW_some] <;> rfl), by repeat (first | (with_reducible first | exact HB.out | apply below_alloc | apply pw_below_drewN | apply below_drew1) | exact HB.out)⟩
                · rw [if_neg c19] at H; cases H
            · rw [if_neg c15] at H
              have c15b0 : decide (a1 < 0) = false := decide_eq_false c15
              clear c15
              by_cases c20 : (wrap64 (-(wrap64 (a0 + 1)))) ≤ a1
              · rw [if_pos c20] at H
                have c20b0 : decide ((wrap64 (-(wrap64 (a0 + 1)))) ≤ a1) = true := decide_eq_true c20
                clear c20
                by_cases c21 : (t239.size : Int) ≤ (t240.size : Int)
                · rw [if_pos c21] at H
                  have c21b0 : decide ((t239.size : Int) ≤ (t240.size : Int)) = true := decide_eq_true c21
                  have c21b1 : decide (t239.size ≤ t240.size) = true := decide_eq_true (Int.ofNat_le.mp c21)
                  clear c21
                  obtain rfl := Option.some.inj H
                  go_wp2
                  go_ret
                  exact ⟨by first | rfl | (simp [errW_none, errW_some] <;> rfl) | (simp [*, errW_none, errW_some] <;> rfl), by repeat (first | (with_reducible first | exact HB.out | apply below_alloc | apply pw_below_drewN | apply below_drew1) | exact HB.out)⟩
                · rw [if_neg c21] at H
                  have c21b0 : decide ((t239.size : Int) ≤ (t240.size : Int)) = false := decide_eq_false c21
                  have c21b1 : decide (t239.size ≤ t240.size) = false := decide_eq_false (fun h => c21 (Int.ofNat_le.mpr h))
                  clear c21
                  by_cases c22 : (wrap64 (-(wrap64 (a0 + 1)))) > a1
                  · rw [if_pos c22] at H
                    have c22b0 : decide (a1 < (wrap64 (-(wrap64 (a0 + 1))))) = true := decide_eq_true c22
                    clear c22
                    obtain rfl := Option.some.inj H
                    go_wp2
                    go_ret
                    exact ⟨by first | rfl | (simp [errW_none, errW_some] <;> rfl) | (simp [*, errW_none, errW_some] <;> rfl), by repeat (first | (with_reducible first | exact HB.out | apply below_alloc | apply pw_below_drewN | apply below_drew1) | exact HB.out)⟩
                  · rw [if_neg c22] at H; cases H
              · rw [if_neg c20] at H
                have c20b0 : decide ((wrap64 (-(wrap64 (a0 + 1)))) ≤ a1) = false := decide_eq_false c20
                clear c20
                by_cases c23 : (wrap64 (-(wrap64 (a0 + 1)))) > a1
                · rw [if_pos c23] at H
                  have c23b0 : decide (a1 < (wrap64 (-(wrap64 (a0 + 1))))) = true := decide_eq_true c23
                  clear c23
                  obtain rfl := Option.some.inj H
                  go_wp2
                  go_ret
                  exact ⟨by first | rfl | (simp [errW_none, errW_some] <;> rfl) | (simp [*, errW_none, errW_some] <;> rfl), by repeat (first | (with_reducible first | exact HB.out | apply below_alloc | apply pw_below_drewN | apply below_drew1) | exact HB.out)⟩
                · rw [if_neg c23] at H; cases H
          · rw [if_neg c14] at H
            have c14b0 : decide (a0 < 0) = false := decide_eq_false c14
            clear c14
            by_cases c24 : a1 < 0
            · rw [if_pos c24] at H
              have c24b0 : decide (a1 < 0) = true := decide_eq_true c24
              clear c24
              by_cases c25 : a0 ≤ (wrap64 (-(wrap64 (a1 + 1))))
              · rw [if_pos c25] at H
                have c25b0 : decide (a0 ≤ (wrap64 (-(wrap64 (a1 + 1))))) = true := decide_eq_true c25
                clear c25
                by_cases c26 : (t239.size : Int) ≤ (t240.size : Int)
                · rw [if_pos c26] at H
                  have c26b0 : decide ((t239.size : Int) ≤ (t240.size : Int)) = true := decide_eq_true c26
                  have c26b1 : decide (t239.size ≤ t240.size) = true := decide_eq_true (Int.ofNat_le.mp c26)
                  clear c26
                  obtain rfl := Option.some.inj H
                  go_wp2
                  go_ret
                  exact ⟨by first | rfl | (simp [errW_none, errW_some] <;> rfl) | (simp [*, errW_none, errW_some] <;> rfl), by repeat (first | (with_reducible first | exact HB.out | apply below_alloc | apply pw_below_drewN | apply below_drew1) | exact HB.out)⟩
                · rw [if_neg c26] at H
                  have c26b0 : decide ((t239.size : Int) ≤ (t240.size : Int)) = false := decide_eq_false c26
                  have c26b1 : decide (t239.size ≤ t240.size) = false := decide_eq_false (fun h => c26 (Int.ofNat_le.mpr h))
                  clear c26
                  by_cases c27 : a0 > (wrap64 (-(wrap64 (a1 + 1))))
                  · rw [if_pos c27] at H
                    have c27b0 : decide ((wrap64 (-(wrap64 (a1 + 1)))) < a0) = true := decide_eq_true c27
                    clear c27
                    obtain rfl := Option.some.inj H
                    go_wp2
                    go_ret
                    exact ⟨by first | rfl | (simp [errW_none, errW_some] <;> rfl) | (simp [*, errW_none, errW_some] <;> rfl), by repeat (first | (with_reducible first | exact HB.out | apply below_alloc | apply pw_below_drewN | apply below_drew1) | exact HB.out)⟩
                  · rw [if_neg c27] at H; cases H
              · rw [if_neg c25] at H
                have c25b0 : decide (a0 ≤ (wrap64 (-(wrap64 (a1 + 1))))) = false := decide_eq_false c25
                clear c25
                by_cases c28 : a0 > (wrap64 (-(wrap64 (a1 + 1))))
                · rw [if_pos c28] at H
                  have c28b0 : decide ((wrap64 (-(wrap64 (a1 + 1)))) < a0) = true := decide_eq_true c28
                  clear c28
                  obtain rfl := Option.some.inj H
                  go_wp2
                  go_ret
                  exact ⟨by first | rfl | (simp [errW_none, errW_some] <;> rfl) | (simp [*, errW_none, errW_some] <;> rfl), by repeat (first | (with_reducible first | exact HB.out | apply below_alloc | apply pw_below_drewN | apply below_drew1) | exact HB.out)⟩
                · rw [if_neg c28] at H; cases H
            · rw [if_neg c24] at H
              have c24b0 : decide (a1 < 0) = false := decide_eq_false c24
              clear c24
              by_cases c29 : a0 ≤ a1
              · rw [if_pos c29] at H
                have c29b0 : decide (a0 ≤ a1) = true := decide_eq_true c29
                clear c29
                by_cases c30 : (t239.size : Int) ≤ (t240.size : Int)
                · rw [if_pos c30] at H
                  have c30b0 : decide ((t239.size : Int) ≤ (t240.size : Int)) = true := decide_eq_true c30
                  have c30b1 : decide (t239.size ≤ t240.size) = true := decide_eq_true (Int.ofNat_le.mp c30)
                  clear c30
                  obtain rfl := Option.some.inj H
                  go_wp2
                  go_ret
                  exact ⟨by first | rfl | (simp [errW_none, errW_some] <;> rfl) | (simp [*, errW_none, errW_some] <;> rfl), by repeat (first | (with_reducible first | exact HB.out | apply below_alloc | apply pw_below_drewN | apply below_drew1) | exact HB.out)⟩
                · rw [if_neg c30] at H
                  have c30b0 : decide ((t239.size : Int) ≤ (t240.size : Int)) = false := decide_eq_false c30
                  have c30b1 : decide (t239.size ≤ t240.size) = false := decide_eq_false (fun h => c30 (Int.ofNat_le.mpr h))
                  clear c30
                  by_cases c31 : a0 > a1
                  · rw [if_pos c31] at H
                    have c31b0 : decide (a1 < a0) = true := decide_eq_true c31
                    clear c31
                    obtain rfl := Option.some.inj H
                    go_wp2
                    go_ret
                    exact ⟨by first | rfl | (simp [errW_none, errW_some] <;> rfl) | (simp [*, errW_none, errW_some] <;> rfl), by repeat (first | (with_reducible first | exact HB.out | apply below_alloc | apply pw_below_drewN | apply below_drew1) | exact HB.out)⟩
                  · rw [if_neg c31] at H; cases H
              · rw [if_neg c29] at H
                have c29b0 : decide (a0 ≤ a1) = false := decide_eq_false c29
                clear c29
                by_cases c32 : a0 > a1
                · rw [if_pos c32] at H
                  have c32b0 : decide (a1 < a0) = true := decide_eq_true c32
                  clear c32
                  obtain rfl := Option.some.inj H
                  go_wp2
                  go_ret
                  exact ⟨by first | rfl | (simp [errW_none, errW_some] <;> rfl) | (simp [*, errW_none, errW_some] <;> rfl), by repeat (first | (with_reducible first | exact HB.out | apply below_alloc | apply pw_below_drewN | apply below_drew1) | exact HB.out)⟩
                · rw [if_neg c32] at H; cases H
  · rw [if_neg c4] at H; cases H

/-- THE ONE PURE STATEMENT of quitrentlaw08_CodecShort: yours. -/
def quitrentlaw08_CodecShort.Pure : Prop := ∀ (a0 : Int) (a1 : Int), (Lit.int .i64 a0).wf = true → (Lit.int .i64 a1).wf = true → ∃ k, quitrentlaw08_CodecShort.f k a0 a1 = some true
theorem quitrentlaw08_CodecShort.walk (P : quitrentlaw08_CodecShort.Pure) (a0 : Int) (a1 : Int) (w : World) (w0 : (Lit.int .i64 a0).wf = true) (w1 : (Lit.int .i64 a1).wf = true) :
    Calls Try.prog 4 #[.int .i64 a0, .int .i64 a1] w fun e w' => e = .returned (.bool true) ∧ Below w.heap.size w w' := by
  obtain ⟨k, h⟩ := P a0 a1 w0 w1
  refine (quitrentlaw08_CodecShort.calls k a0 a1 true w h).mono ?_
  rintro e w' ⟨rfl, hd⟩
  exact ⟨rfl, hd⟩
end Go.Proofs.Ytkfbmplhcigopab.PCod
