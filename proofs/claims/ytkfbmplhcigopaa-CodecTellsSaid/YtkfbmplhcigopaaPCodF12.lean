-- out of the print of PCod: quitrentlaw08_CodecTells
import Derived.Test.YtkfbmplhcigopaaPCodx0
import Derived.Test.YtkfbmplhcigopaaPCodF41
import Derived.Test.YtkfbmplhcigopaaPCodF42
import Derived.Test.YtkfbmplhcigopaaPCodF43
import Derived.Test.YtkfbmplhcigopaaPCodF44
import Derived.Test.YtkfbmplhcigopaaPCodF45
import Derived.Test.YtkfbmplhcigopaaPCodF46
import Derived.Test.YtkfbmplhcigopaaPCodF47
import Derived.Test.YtkfbmplhcigopaaPCodF48
import Derived.Test.YtkfbmplhcigopaaPCodF49
import Derived.Test.YtkfbmplhcigopaaPCodF50
namespace Go.Proofs.Ytkfbmplhcigopaa.PCod
open Go.RowKit Go.Proofs.YtkfbmplhcigopaaW.PrintWords Go.Proofs.YtkfbmplhcigopaaW.PrintLast Go.Proofs.YtkfbmplhcigopaaW.PrintMore
attribute [local go_sem] max2_int min2_int max_two min_two max_three min_three max_four min_four   -- for this text's walks alone
set_option linter.unusedVariables false
set_option linter.unusedSimpArgs false

/-! ### quitrentlaw08_CodecTells: function 12 -/
def quitrentlaw08_CodecTells.j0 : Nat → Int → ByteArray → Bool → Int → List Int → Option (Bool)
  | 0, _, _, _, _, _ => none
  | k + 1, x0, x2, x31, x219000, x219001 => if x31 = true then (some true) else ((codec_Put.f k x219000 x219001).bind fun bt220 => ((quitrentref08_Put.f k x219000 x219001).bind fun bt222 => ((codec_Read.f k x2).bind fun bt224 => ((quitrentref08_Read.f k x2).bind fun bt230 => ((codec_Take.f k x2).bind fun bt236 => ((quitrentref08_Take.f k x2).bind fun bt239 => ((codec_Number.f k x0).bind fun t242 => ((quitrentref08_Number.f k x0).bind fun t243 => (if t242.toList = t243.toList then (if bt220.1.toList = bt222.1.toList then (if bt220.2 = bt222.2 then (if bt224.1 = bt230.1 then ((quitrentref08_Longs.f k bt224.2.1 bt230.2.1).bind fun t244 => (if t244 = true then (if bt224.2.2 = bt230.2.2 then (if bt236.1 = bt239.1 then (if bt236.2.1 = bt239.2.1 then (some (bt236.2.2 == bt239.2.2)) else (none)) else (none)) else (none)) else (none))) else (none)) else (none)) else (none)) else (none))))))))))
def quitrentlaw08_CodecTells.f (k : Nat) (a0 : Int) (a1_0 : Int) (l1_1 : List Int) (a2 : ByteArray) : Option (Bool) := (quitrentlaw08_awake.f k).bind fun t219 => (if t219 = true then (if (l1_1.length : Int) > 70 then (quitrentlaw08_CodecTells.j0 k a0 a2 true a1_0 l1_1) else (quitrentlaw08_CodecTells.j0 k a0 a2 (decide ((a2.size : Int) > 3000)) a1_0 l1_1)) else (none))
theorem quitrentlaw08_CodecTells.mono_l : ∀ k, (∀ y0 y1 y2 y3 y4, LeO (quitrentlaw08_CodecTells.j0 k y0 y1 y2 y3 y4) (quitrentlaw08_CodecTells.j0 (k + 1) y0 y1 y2 y3 y4))
  | 0 => fun _ _ _ _ _ r h => by simp [quitrentlaw08_CodecTells.j0] at h
  | k + 1 => by
    have ih0 := quitrentlaw08_CodecTells.mono_l k
    · intro y0 y1 y2 y3 y4
      unfold quitrentlaw08_CodecTells.j0
      repeat' first
      | (with_reducible exact ih0 _ _ _ _ _)
      | (with_reducible exact codec_Number.mono _ _)
      | (with_reducible exact codec_Put.mono _ _ _)
      | (with_reducible exact codec_Read.mono _ _)
      | (with_reducible exact codec_Take.mono _ _)
      | (with_reducible exact quitrentlaw08_awake.mono _)
      | (with_reducible exact quitrentref08_Longs.mono _ _ _)
      | (with_reducible exact quitrentref08_Number.mono _ _)
      | (with_reducible exact quitrentref08_Put.mono _ _ _)
      | (with_reducible exact quitrentref08_Read.mono _ _)
      | (with_reducible exact quitrentref08_Take.mono _ _)
      | (with_reducible exact LeO.refl _)
      | (with_reducible exact LeO.none _)
      | (with_reducible refine LeO.ite ?_ ?_)
      | (with_reducible refine LeO.bind ?_ (fun _ => ?_))
      | exact ih0 _ _ _ _ _
      | exact codec_Number.mono _ _
      | exact codec_Put.mono _ _ _
      | exact codec_Read.mono _ _
      | exact codec_Take.mono _ _
      | exact quitrentlaw08_awake.mono _
      | exact quitrentref08_Longs.mono _ _ _
      | exact quitrentref08_Number.mono _ _
      | exact quitrentref08_Put.mono _ _ _
      | exact quitrentref08_Read.mono _ _
      | exact quitrentref08_Take.mono _ _
      | exact LeO.none _
      | refine LeO.ite ?_ ?_
      | refine LeO.bind ?_ (fun _ => ?_)
theorem quitrentlaw08_CodecTells.mono : ∀ a0 a1 a2 a3 k, LeO (quitrentlaw08_CodecTells.f k a0 a1 a2 a3) (quitrentlaw08_CodecTells.f (k + 1) a0 a1 a2 a3) := by
  intro a0 a1 a2 a3 k
  have ih0 := quitrentlaw08_CodecTells.mono_l k
  unfold quitrentlaw08_CodecTells.f
  repeat' first
      | (with_reducible exact ih0 _ _ _ _ _)
      | (with_reducible exact codec_Number.mono _ _)
      | (with_reducible exact codec_Put.mono _ _ _)
      | (with_reducible exact codec_Read.mono _ _)
      | (with_reducible exact codec_Take.mono _ _)
      | (with_reducible exact quitrentlaw08_awake.mono _)
      | (with_reducible exact quitrentref08_Longs.mono _ _ _)
      | (with_reducible exact quitrentref08_Number.mono _ _)
      | (with_reducible exact quitrentref08_Put.mono _ _ _)
      | (with_reducible exact quitrentref08_Read.mono _ _)
      | (with_reducible exact quitrentref08_Take.mono _ _)
      | (with_reducible exact LeO.refl _)
      | (with_reducible exact LeO.none _)
      | (with_reducible refine LeO.ite ?_ ?_)
      | (with_reducible refine LeO.bind ?_ (fun _ => ?_))
      | exact ih0 _ _ _ _ _
      | exact codec_Number.mono _ _
      | exact codec_Put.mono _ _ _
      | exact codec_Read.mono _ _
      | exact codec_Take.mono _ _
      | exact quitrentlaw08_awake.mono _
      | exact quitrentref08_Longs.mono _ _ _
      | exact quitrentref08_Number.mono _ _
      | exact quitrentref08_Put.mono _ _ _
      | exact quitrentref08_Read.mono _ _
      | exact quitrentref08_Take.mono _ _
      | exact LeO.none _
      | refine LeO.ite ?_ ?_
      | refine LeO.bind ?_ (fun _ => ?_)
set_option maxHeartbeats 8000000 in
set_option maxRecDepth 100000 in
theorem quitrentlaw08_CodecTells.calls (k : Nat) (a0 : Int) (a1_0 : Int) (A1_1 : Option Addr) (c1_1 : Nat) (l1_1 : List Int) (a2 : ByteArray) (r : Bool) (w : World) (hr1_1 : Kd.C (Kd.int .i64) w A1_1 l1_1.length l1_1) (hc1_1 : l1_1.length ≤ c1_1) (h : quitrentlaw08_CodecTells.f k a0 a1_0 l1_1 a2 = some r) :
    Calls Try.prog 12 #[.int .i64 a0, .agg #[.int .i64 a1_0, .slice A1_1 l1_1.length c1_1], .string a2] w fun e w' => e = .returned (.bool r) ∧ Below w.heap.size w w' := by
  have hu60 := Try.underlying60
  have hu64 := Try.underlying64
  have HR1_1 := Aside0.mk hr1_1
  have HC1_1 := Aside0.mk hc1_1
  clear hr1_1 hc1_1
  have HB := Aside0.mk (Below.refl w.heap.size w)
  have H : ((quitrentlaw08_awake.f k).bind fun t219 => (if t219 = true then (if (l1_1.length : Int) > 70 then (quitrentlaw08_CodecTells.j0 k a0 a2 true a1_0 l1_1) else (quitrentlaw08_CodecTells.j0 k a0 a2 (decide ((a2.size : Int) > 3000)) a1_0 l1_1)) else (none))) = some r := h
  clear h
  replace H := Option.bind_eq_some_iff.mp H
  obtain ⟨t219, A40, H⟩ := H
  replace H : (if t219 = true then (if (l1_1.length : Int) > 70 then (quitrentlaw08_CodecTells.j0 k a0 a2 true a1_0 l1_1) else (quitrentlaw08_CodecTells.j0 k a0 a2 (decide ((a2.size : Int) > 3000)) a1_0 l1_1)) else (none)) = some r := H
  have A4 := Aside0.mk A40
  clear A40
  by_cases c5 : t219 = true
  · subst c5
    have H1 : (if (l1_1.length : Int) > 70 then (quitrentlaw08_CodecTells.j0 k a0 a2 true a1_0 l1_1) else (quitrentlaw08_CodecTells.j0 k a0 a2 (decide ((a2.size : Int) > 3000)) a1_0 l1_1)) = some r := by rw [if_pos rfl] at H; exact H
    clear H
    have H := H1
    clear H1
    have HC6 := Aside0.mk H
    clear H
    go_enter Try.func12, Try.ntmps12
    go_upto_region 3 with (first | ((with_reducible refine gate_dst (N := 4) rfl ?_); (try (refine gate_guard (by rfl) ?_; dsimp only)); refine box_event ?hg (N := 4) ?hd (cs := #[.int .i64 a1_0, .slice A1_1 l1_1.length c1_1]) (t := 60) ?hr ?_; (case hd => rfl); (case hg => rfl); (case hr => first | (go_simp; done) | (go_simp; rfl)); intro gb218 hg w7 hbox hb; have n0_ := Aside0.mk (below_step (by repeat (first | (with_reducible first | exact HB.out | apply below_alloc | apply pw_below_drewN | apply below_drew1) | exact HB.out)) hb); have n1_ := Aside0.mk (hbox); have n2_ := Aside0.mk ((by rw [hg]; exact (below_size (by repeat (first | (with_reducible first | exact HB.out | apply below_alloc | apply pw_below_drewN | apply below_drew1) | exact HB.out))) : w.heap.size ≤ gb218)); have n3_ := Aside0.mk ((by rw [hg]; exact (below_size (by repeat (first | (with_reducible first | exact HB.out | apply below_alloc | apply pw_below_drewN | apply below_drew1) | exact HB.out))) : w.heap.size ≤ gb218)); clear HB; have HB := n0_; have BK218 := n1_; have GW218 := n2_; have GE218 := n3_; clear n0_ n1_ n2_ n3_; clear hb hbox hg) | ((with_reducible refine gate_callee (f := 41) rfl ?_); refine goesL_ (some 21) rfl rfl Try.func41 (by kernel_rfl) rfl #[] rfl (by (try simp only [List.map_toArray, List.map_cons, List.map_nil]); first | done | rfl | (simp only [List.length_drop, List.length_take]; rfl)) ?_; (with_reducible refine (quitrentlaw08_awake.calls k  true _ A4.out).mono ?_); rintro e w8 ⟨rfl, hb⟩; refine ⟨_, rfl, ?_⟩; have n0_ := Aside0.mk (blk_below (g := gb218) (o := .cells #[.int .i64 a1_0, .slice A1_1 l1_1.length c1_1] 60 (0, 0)) (by (with_reducible repeat (first | refine blk_drewN ?_ _ | refine blk_drew ?_ | refine blk_alloc ?_ _)); exact BK218.out) hb); have n1_ := Aside0.mk (below_step (by repeat (first | (with_reducible first | exact HB.out | apply below_alloc | apply pw_below_drewN | apply below_drew1 | refine below_set ?_ GE218.out) | exact HB.out)) hb); clear BK218; clear HB; have BK218 := n0_; have HB := n1_; clear n0_ n1_; (try clear hb); (try clear hb2); (try clear hk); (try clear hi)))
    (try simp only [Act.put, List.setIfInBounds_toArray, List.set_cons_zero, List.set_cons_succ])
    go_cut [31] (fun v31 wc => ∃ (kq : Nat) (x31_5 : Bool), v31 = .bool x31_5 ∧ Aside0 (quitrentlaw08_CodecTells.j0 kq a0 a2 x31_5 a1_0 l1_1 = some r) ∧ Aside0 (kq ≤ k) ∧ Aside0 (wc.heap[gb218]? = some (.cells #[.int .i64 a1_0, (.slice A1_1 l1_1.length c1_1)] 60 (0, 0))) ∧ Aside0 (Below w.heap.size w wc))
    case first =>
      have H := HC6.out
      clear HC6
      by_cases c9 : (l1_1.length : Int) > 70
      · rw [if_pos c9] at H
        have c9b0 : decide (70 < (l1_1.length : Int)) = true := decide_eq_true c9
        have c9b1 : decide (70 < l1_1.length) = true := decide_eq_true (by omega)
        clear c9
        (first | rw [c9b0] | (simp only [i64_w, i32_w]; rw [c9b0]) | skip)
        have H' := Aside0.mk H
        clear H
        have hcz10_0 : w8.cell? ⟨gb218, 0, none⟩ = some (.int .i64 a1_0) := (blk_cell BK218.out 0).trans rfl
        have hcz10_1 : w8.cell? ⟨gb218, 1, none⟩ = some (.slice A1_1 l1_1.length c1_1) := (blk_cell BK218.out 1).trans rfl
        have hfz10_0 := blk_frozen BK218.out 0
        have hfz10_1 := blk_frozen BK218.out 1
        go_wp2
        go_meet
        case rel => exact ⟨_, (true), (by first | rfl | (simp; done) | (simp [*]; done)), H', ⟨by first | omega | exact Nat.le_refl _⟩, ⟨by (with_reducible repeat (first | refine blk_drewN ?_ _ | refine blk_drew ?_ | refine blk_alloc ?_ _)); exact BK218.out⟩, ⟨by repeat (first | (with_reducible first | exact HB.out | apply below_alloc | apply pw_below_drewN | apply below_drew1 | refine below_set ?_ GE218.out) | exact HB.out)⟩⟩
      · rw [if_neg c9] at H
        have c9b0 : decide (70 < (l1_1.length : Int)) = false := decide_eq_false c9
        have c9b1 : decide (70 < l1_1.length) = false := decide_eq_false (by omega)
        clear c9
        (first | rw [c9b0] | (simp only [i64_w, i32_w]; rw [c9b0]) | skip)
        have H' := Aside0.mk H
        clear H
        have hcz11_0 : w8.cell? ⟨gb218, 0, none⟩ = some (.int .i64 a1_0) := (blk_cell BK218.out 0).trans rfl
        have hcz11_1 : w8.cell? ⟨gb218, 1, none⟩ = some (.slice A1_1 l1_1.length c1_1) := (blk_cell BK218.out 1).trans rfl
        have hfz11_0 := blk_frozen BK218.out 0
        have hfz11_1 := blk_frozen BK218.out 1
        go_wp2
        go_meet
        case rel => exact ⟨_, (decide ((a2.size : Int) > 3000)), (by first | rfl | (simp; done) | (simp [*]; done)), H', ⟨by first | omega | exact Nat.le_refl _⟩, ⟨by (with_reducible repeat (first | refine blk_drewN ?_ _ | refine blk_drew ?_ | refine blk_alloc ?_ _)); exact BK218.out⟩, ⟨by repeat (first | (with_reducible first | exact HB.out | apply below_alloc | apply pw_below_drewN | apply below_drew1 | refine below_set ?_ GE218.out) | exact HB.out)⟩⟩
    case rest =>
      clear HC6
      try clear c1
      try clear p2
      try clear c4
      try clear c5
      try clear c9
      try clear c9b0
      try clear c9b1
      try clear hcz10_0
      try clear hcz10_1
      try clear hcz11_0
      try clear hcz11_1
      try clear hfz10_0
      try clear hfz10_1
      try clear hfz11_0
      try clear hfz11_1
      obtain ⟨kq, x31_5, rfl, HA, HJ5, BK218, HB⟩ := hcut
      cases kq with
      | zero => exact absurd HA.out (by simp [quitrentlaw08_CodecTells.j0])
      | succ kj5 =>
        have H := HA.out
        clear HA
        simp only [quitrentlaw08_CodecTells.j0] at H
        by_cases c12 : x31_5 = true
        · subst c12
          have H1 : (some true) = some r := by rw [if_pos rfl] at H; exact H
          clear H
          have H := H1
          clear H1
          obtain rfl := Option.some.inj H
          go_wp2
          go_ret
          exact ⟨by first | rfl | (simp [errW_none, errW_some] <;> rfl) | (simp [*, errW_none, errW_some] <;> rfl), by repeat (first | (with_reducible first | exact HB.out | apply below_alloc | apply pw_below_drewN | apply below_drew1 | refine below_set ?_ GE218.out) | exact HB.out)⟩
        · replace c12 := Bool.eq_false_iff.mpr c12
          subst c12
          have H1 : ((codec_Put.f kj5 a1_0 l1_1).bind fun bt220 => ((quitrentref08_Put.f kj5 a1_0 l1_1).bind fun bt222 => ((codec_Read.f kj5 a2).bind fun bt224 => ((quitrentref08_Read.f kj5 a2).bind fun bt230 => ((codec_Take.f kj5 a2).bind fun bt236 => ((quitrentref08_Take.f kj5 a2).bind fun bt239 => ((codec_Number.f kj5 a0).bind fun t242 => ((quitrentref08_Number.f kj5 a0).bind fun t243 => (if t242.toList = t243.toList then (if bt220.1.toList = bt222.1.toList then (if bt220.2 = bt222.2 then (if bt224.1 = bt230.1 then ((quitrentref08_Longs.f kj5 bt224.2.1 bt230.2.1).bind fun t244 => (if t244 = true then (if bt224.2.2 = bt230.2.2 then (if bt236.1 = bt239.1 then (if bt236.2.1 = bt239.2.1 then (some (bt236.2.2 == bt239.2.2)) else (none)) else (none)) else (none)) else (none))) else (none)) else (none)) else (none)) else (none)))))))))) = some r := by rw [if_neg (show ¬ (false = true) by decide)] at H; exact H
          clear H
          have H := H1
          clear H1
          replace H := Option.bind_eq_some_iff.mp H
          obtain ⟨⟨t220, t221⟩, A130, H⟩ := H
          replace H : ((quitrentref08_Put.f kj5 a1_0 l1_1).bind fun bt222 => ((codec_Read.f kj5 a2).bind fun bt224 => ((quitrentref08_Read.f kj5 a2).bind fun bt230 => ((codec_Take.f kj5 a2).bind fun bt236 => ((quitrentref08_Take.f kj5 a2).bind fun bt239 => ((codec_Number.f kj5 a0).bind fun t242 => ((quitrentref08_Number.f kj5 a0).bind fun t243 => (if t242.toList = t243.toList then (if t220.toList = bt222.1.toList then (if t221 = bt222.2 then (if bt224.1 = bt230.1 then ((quitrentref08_Longs.f kj5 bt224.2.1 bt230.2.1).bind fun t244 => (if t244 = true then (if bt224.2.2 = bt230.2.2 then (if bt236.1 = bt239.1 then (if bt236.2.1 = bt239.2.1 then (some (bt236.2.2 == bt239.2.2)) else (none)) else (none)) else (none)) else (none))) else (none)) else (none)) else (none)) else (none))))))))) = some r := H
          have A13 := Aside0.mk A130
          clear A130
          replace H := Option.bind_eq_some_iff.mp H
          obtain ⟨⟨t222, t223⟩, A140, H⟩ := H
          replace H : ((codec_Read.f kj5 a2).bind fun bt224 => ((quitrentref08_Read.f kj5 a2).bind fun bt230 => ((codec_Take.f kj5 a2).bind fun bt236 => ((quitrentref08_Take.f kj5 a2).bind fun bt239 => ((codec_Number.f kj5 a0).bind fun t242 => ((quitrentref08_Number.f kj5 a0).bind fun t243 => (if t242.toList = t243.toList then (if t220.toList = t222.toList then (if t221 = t223 then (if bt224.1 = bt230.1 then ((quitrentref08_Longs.f kj5 bt224.2.1 bt230.2.1).bind fun t244 => (if t244 = true then (if bt224.2.2 = bt230.2.2 then (if bt236.1 = bt239.1 then (if bt236.2.1 = bt239.2.1 then (some (bt236.2.2 == bt239.2.2)) else (none)) else (none)) else (none)) else (none))) else (none)) else (none)) else (none)) else (none)))))))) = some r := H
          have A14 := Aside0.mk A140
          clear A140
          replace H := Option.bind_eq_some_iff.mp H
          obtain ⟨⟨t224, t225, t228⟩, A150, H⟩ := H
          replace H : ((quitrentref08_Read.f kj5 a2).bind fun bt230 => ((codec_Take.f kj5 a2).bind fun bt236 => ((quitrentref08_Take.f kj5 a2).bind fun bt239 => ((codec_Number.f kj5 a0).bind fun t242 => ((quitrentref08_Number.f kj5 a0).bind fun t243 => (if t242.toList = t243.toList then (if t220.toList = t222.toList then (if t221 = t223 then (if t224 = bt230.1 then ((quitrentref08_Longs.f kj5 t225 bt230.2.1).bind fun t244 => (if t244 = true then (if t228 = bt230.2.2 then (if bt236.1 = bt239.1 then (if bt236.2.1 = bt239.2.1 then (some (bt236.2.2 == bt239.2.2)) else (none)) else (none)) else (none)) else (none))) else (none)) else (none)) else (none)) else (none))))))) = some r := H
          have A15 := Aside0.mk A150
          clear A150
          replace H := Option.bind_eq_some_iff.mp H
          obtain ⟨⟨t230, t231, t234⟩, A160, H⟩ := H
          replace H : ((codec_Take.f kj5 a2).bind fun bt236 => ((quitrentref08_Take.f kj5 a2).bind fun bt239 => ((codec_Number.f kj5 a0).bind fun t242 => ((quitrentref08_Number.f kj5 a0).bind fun t243 => (if t242.toList = t243.toList then (if t220.toList = t222.toList then (if t221 = t223 then (if t224 = t230 then ((quitrentref08_Longs.f kj5 t225 t231).bind fun t244 => (if t244 = true then (if t228 = t234 then (if bt236.1 = bt239.1 then (if bt236.2.1 = bt239.2.1 then (some (bt236.2.2 == bt239.2.2)) else (none)) else (none)) else (none)) else (none))) else (none)) else (none)) else (none)) else (none)))))) = some r := H
          have A16 := Aside0.mk A160
          clear A160
          replace H := Option.bind_eq_some_iff.mp H
          obtain ⟨⟨t236, t237, t238⟩, A170, H⟩ := H
          replace H : ((quitrentref08_Take.f kj5 a2).bind fun bt239 => ((codec_Number.f kj5 a0).bind fun t242 => ((quitrentref08_Number.f kj5 a0).bind fun t243 => (if t242.toList = t243.toList then (if t220.toList = t222.toList then (if t221 = t223 then (if t224 = t230 then ((quitrentref08_Longs.f kj5 t225 t231).bind fun t244 => (if t244 = true then (if t228 = t234 then (if t236 = bt239.1 then (if t237 = bt239.2.1 then (some (t238 == bt239.2.2)) else (none)) else (none)) else (none)) else (none))) else (none)) else (none)) else (none)) else (none))))) = some r := H
          have A17 := Aside0.mk A170
          clear A170
          replace H := Option.bind_eq_some_iff.mp H
          obtain ⟨⟨t239, t240, t241⟩, A180, H⟩ := H
          replace H : ((codec_Number.f kj5 a0).bind fun t242 => ((quitrentref08_Number.f kj5 a0).bind fun t243 => (if t242.toList = t243.toList then (if t220.toList = t222.toList then (if t221 = t223 then (if t224 = t230 then ((quitrentref08_Longs.f kj5 t225 t231).bind fun t244 => (if t244 = true then (if t228 = t234 then (if t236 = t239 then (if t237 = t240 then (some (t238 == t241)) else (none)) else (none)) else (none)) else (none))) else (none)) else (none)) else (none)) else (none)))) = some r := H
          have A18 := Aside0.mk A180
          clear A180
          replace H := Option.bind_eq_some_iff.mp H
          obtain ⟨t242, A190, H⟩ := H
          replace H : ((quitrentref08_Number.f kj5 a0).bind fun t243 => (if t242.toList = t243.toList then (if t220.toList = t222.toList then (if t221 = t223 then (if t224 = t230 then ((quitrentref08_Longs.f kj5 t225 t231).bind fun t244 => (if t244 = true then (if t228 = t234 then (if t236 = t239 then (if t237 = t240 then (some (t238 == t241)) else (none)) else (none)) else (none)) else (none))) else (none)) else (none)) else (none)) else (none))) = some r := H
          have A19 := Aside0.mk A190
          clear A190
          replace H := Option.bind_eq_some_iff.mp H
          obtain ⟨t243, A200, H⟩ := H
          replace H : (if t242.toList = t243.toList then (if t220.toList = t222.toList then (if t221 = t223 then (if t224 = t230 then ((quitrentref08_Longs.f kj5 t225 t231).bind fun t244 => (if t244 = true then (if t228 = t234 then (if t236 = t239 then (if t237 = t240 then (some (t238 == t241)) else (none)) else (none)) else (none)) else (none))) else (none)) else (none)) else (none)) else (none)) = some r := H
          have A20 := Aside0.mk A200
          clear A200
          by_cases c21 : t242.toList = t243.toList
          · rw [if_pos c21] at H
            have c21b0 : (t242.toList == t243.toList) = true := beq_iff_eq.mpr c21
            have c21b1 : (t242.toList != t243.toList) = false := bne_eq_false_iff_eq.mpr c21
            clear c21
            by_cases c22 : t220.toList = t222.toList
            · rw [if_pos c22] at H
              have c22b0 : (t220.toList == t222.toList) = true := beq_iff_eq.mpr c22
              have c22b1 : (t220.toList != t222.toList) = false := bne_eq_false_iff_eq.mpr c22
              clear c22
              by_cases c23 : t221 = t223
              · rw [if_pos c23] at H
                have c23b0 : (t221 == t223) = true := beq_iff_eq.mpr c23
                have c23b1 : (t221 != t223) = false := bne_eq_false_iff_eq.mpr c23
                clear c23
                by_cases c24 : t224 = t230
                · rw [if_pos c24] at H
                  have c24b0 : (t224 == t230) = true := beq_iff_eq.mpr c24
                  have c24b1 : (t224 != t230) = false := bne_eq_false_iff_eq.mpr c24
                  clear c24
                  replace H := Option.bind_eq_some_iff.mp H
                  obtain ⟨t244, A250, H⟩ := H
                  replace H : (if t244 = true then (if t228 = t234 then (if t236 = t239 then (if t237 = t240 then (some (t238 == t241)) else (none)) else (none)) else (none)) else (none)) = some r := H
                  have A25 := Aside0.mk A250
                  clear A250
                  by_cases c26 : t244 = true
                  · subst c26
                    have H1 : (if t228 = t234 then (if t236 = t239 then (if t237 = t240 then (some (t238 == t241)) else (none)) else (none)) else (none)) = some r := by rw [if_pos rfl] at H; exact H
                    clear H
                    have H := H1
                    clear H1
                    by_cases c27 : t228 = t234
                    · rw [if_pos c27] at H
                      have c27b0 : (t228 == t234) = true := beq_iff_eq.mpr c27
                      have c27b1 : (t228 != t234) = false := bne_eq_false_iff_eq.mpr c27
                      clear c27
                      by_cases c28 : t236 = t239
                      · rw [if_pos c28] at H
                        have c28b0 : (t236 == t239) = true := beq_iff_eq.mpr c28
                        have c28b1 : (t236 != t239) = false := bne_eq_false_iff_eq.mpr c28
                        clear c28
                        by_cases c29 : t237 = t240
                        · rw [if_pos c29] at H
                          have c29b0 : (t237 == t240) = true := beq_iff_eq.mpr c29
                          have c29b1 : (t237 != t240) = false := bne_eq_false_iff_eq.mpr c29
                          clear c29
                          obtain rfl := Option.some.inj H
                          have hcz30_0 : wc.cell? ⟨gb218, 0, none⟩ = some (.int .i64 a1_0) := (blk_cell BK218.out 0).trans rfl
                          have hcz30_1 : wc.cell? ⟨gb218, 1, none⟩ = some (.slice A1_1 l1_1.length c1_1) := (blk_cell BK218.out 1).trans rfl
                          have hfz30_0 := blk_frozen BK218.out 0
                          have hfz30_1 := blk_frozen BK218.out 1
                          go_wp2_with (first | ((with_reducible refine gate_callee (f := 42) rfl ?_); refine goesL_ (some 34) rfl rfl Try.func42 (by kernel_rfl) rfl #[.agg #[.int .i64 a1_0, .slice A1_1 l1_1.length c1_1]] rfl (by (try simp only [List.map_toArray, List.map_cons, List.map_nil]); first | done | rfl | (simp only [List.length_drop, List.length_take]; rfl)) ?_; (with_reducible refine (codec_Put.calls kj5 a1_0 _ _ l1_1 t220 t221 _ ?side1 ?side2 A13.out).mono ?_); (case side1 => repeat (first | exact (Kd.C_below HR1_1.out HB.out) | (with_reducible refine Kd.C_alloc ?_ _) | (with_reducible refine Kd.C_drewN ?_ _) | (with_reducible refine Kd.C_drew ?_))); (case side2 => exact HC1_1.out); rintro e w31 ⟨rfl, hb⟩; refine ⟨_, rfl, ?_⟩; have n0_ := Aside0.mk (blk_below (g := gb218) (o := .cells #[.int .i64 a1_0, .slice A1_1 l1_1.length c1_1] 60 (0, 0)) (by (with_reducible repeat (first | refine blk_drewN ?_ _ | refine blk_drew ?_ | refine blk_alloc ?_ _)); exact BK218.out) hb); have n1_ := Aside0.mk (below_step (by repeat (first | (with_reducible first | exact HB.out | apply below_alloc | apply pw_below_drewN | apply below_drew1 | refine below_set ?_ GE218.out) | exact HB.out)) hb); clear BK218; clear HB; have BK218 := n0_; have HB := n1_; clear n0_ n1_; (try clear hb); (try clear hb2); (try clear hk); (try clear hi); have hcz32_0 : w31.cell? ⟨gb218, 0, none⟩ = some (.int .i64 a1_0) := (blk_cell BK218.out 0).trans rfl; have hcz32_1 : w31.cell? ⟨gb218, 1, none⟩ = some (.slice A1_1 l1_1.length c1_1) := (blk_cell BK218.out 1).trans rfl; have hfz32_0 := blk_frozen BK218.out 0; have hfz32_1 := blk_frozen BK218.out 1) | ((with_reducible refine gate_callee (f := 43) rfl ?_); refine goesL_ (some 43) rfl rfl Try.func43 (by kernel_rfl) rfl #[.agg #[.int .i64 a1_0, .slice A1_1 l1_1.length c1_1]] rfl (by (try simp only [List.map_toArray, List.map_cons, List.map_nil]); first | done | rfl | (simp only [List.length_drop, List.length_take]; rfl)) ?_; (with_reducible refine (quitrentref08_Put.calls kj5 a1_0 _ _ l1_1 t222 t223 _ ?side1 ?side2 A14.out).mono ?_); (case side1 => repeat (first | exact (Kd.C_below HR1_1.out HB.out) | (with_reducible refine Kd.C_alloc ?_ _) | (with_reducible refine Kd.C_drewN ?_ _) | (with_reducible refine Kd.C_drew ?_))); (case side2 => exact HC1_1.out); rintro e w33 ⟨rfl, hb⟩; refine ⟨_, rfl, ?_⟩; have n0_ := Aside0.mk (blk_below (g := gb218) (o := .cells #[.int .i64 a1_0, .slice A1_1 l1_1.length c1_1] 60 (0, 0)) (by (with_reducible repeat (first | refine blk_drewN ?_ _ | refine blk_drew ?_ | refine blk_alloc ?_ _)); exact BK218.out) hb); have n1_ := Aside0.mk (below_step (by repeat (first | (with_reducible first | exact HB.out | apply below_alloc | apply pw_below_drewN | apply below_drew1 | refine below_set ?_ GE218.out) | exact HB.out)) hb); clear BK218; clear HB; have BK218 := n0_; have HB := n1_; clear n0_ n1_; (try clear hb); (try clear hb2); (try clear hk); (try clear hi)) | ((with_reducible refine gate_callee (f := 44) rfl ?_); refine goesL_ (some 48) rfl rfl Try.func44 (by kernel_rfl) rfl #[.string a2] rfl (by (try simp only [List.map_toArray, List.map_cons, List.map_nil]); first | done | rfl | (simp only [List.length_drop, List.length_take]; rfl)) ?_; (with_reducible refine (codec_Read.calls kj5 a2 t224 t225 t228 _ A15.out).mono ?_); rintro e w34 ⟨v226, rfl, ho0, hb⟩; refine ⟨_, rfl, ?_⟩; have n0_ := Aside0.mk (Kd.R_lower ho0 (below_size (by repeat (first | (with_reducible first | exact HB.out | apply below_alloc | apply pw_below_drewN | apply below_drew1 | refine below_set ?_ GE218.out) | exact HB.out)))); have n1_ := Aside0.mk (blk_below (g := gb218) (o := .cells #[.int .i64 a1_0, .slice A1_1 l1_1.length c1_1] 60 (0, 0)) (by (with_reducible repeat (first | refine blk_drewN ?_ _ | refine blk_drew ?_ | refine blk_alloc ?_ _)); exact BK218.out) hb); have n2_ := Aside0.mk (below_step (by repeat (first | (with_reducible first | exact HB.out | apply below_alloc | apply pw_below_drewN | apply below_drew1 | refine below_set ?_ GE218.out) | exact HB.out)) hb); clear BK218; clear HB; have HO227 := n0_; have BK218 := n1_; have HB := n2_; clear n0_ n1_ n2_; (try clear hb); (try clear hb2); (try clear hk); (try clear hi); (try clear ho0)) | ((with_reducible refine gate_dst (N := 11) rfl ?_); (try (refine gate_guard (by rfl) ?_; dsimp only)); refine box_event ?hg (N := 11) ?hd (cs := #[.int .i64 0, .slice none 0 0]) (t := 60) ?hr ?_; (case hd => rfl); (case hg => rfl); (case hr => first | (go_simp; done) | (go_simp; rfl)); intro gb229 hg w35 hbox hb; have n0_ := Aside0.mk (Kd.R_below (by (with_reducible repeat (first | apply Kd.R_alloc | apply Kd.R_drewN | apply Kd.R_drew)); exact HO227.out) hb); have n1_ := Aside0.mk (blk_below (g := gb218) (o := .cells #[.int .i64 a1_0, .slice A1_1 l1_1.length c1_1] 60 (0, 0)) (by (with_reducible repeat (first | refine blk_drewN ?_ _ | refine blk_drew ?_ | refine blk_alloc ?_ _)); exact BK218.out) hb); have n2_ := Aside0.mk (below_step (by repeat (first | (with_reducible first | exact HB.out | apply below_alloc | apply pw_below_drewN | apply below_drew1 | refine below_set ?_ GE218.out) | exact HB.out)) hb); have n3_ := Aside0.mk (hbox); have n4_ := Aside0.mk ((by rw [hg]; exact (below_size (by repeat (first | (with_reducible first | exact HB.out | apply below_alloc | apply pw_below_drewN | apply below_drew1 | refine below_set ?_ GE218.out) | exact HB.out))) : w.heap.size ≤ gb229)); have n5_ := Aside0.mk ((by rw [hg]; exact (below_size (by repeat (first | (with_reducible first | exact HB.out | apply below_alloc | apply pw_below_drewN | apply below_drew1 | refine below_set ?_ GE218.out) | exact HB.out))) : w.heap.size ≤ gb229)); have n6_ := Aside0.mk ((by rw [hg]; exact Nat.ne_of_lt (blk_lt (g := gb218) (o := .cells #[.int .i64 a1_0, .slice A1_1 l1_1.length c1_1] 60 (0, 0)) (by (with_reducible repeat (first | refine blk_drewN ?_ _ | refine blk_drew ?_ | refine blk_alloc ?_ _)); exact BK218.out)) : gb218 ≠ gb229)); have n7_ := Aside0.mk ((by rw [hg]; exact Nat.ne_of_gt (blk_lt (g := gb218) (o := .cells #[.int .i64 a1_0, .slice A1_1 l1_1.length c1_1] 60 (0, 0)) (by (with_reducible repeat (first | refine blk_drewN ?_ _ | refine blk_drew ?_ | refine blk_alloc ?_ _)); exact BK218.out)) : gb229 ≠ gb218)); clear HO227; clear BK218; clear HB; have HO227 := n0_; have BK218 := n1_; have HB := n2_; have BK229 := n3_; have GW229 := n4_; have GE229 := n5_; have NB218_229 := n6_; have NB229_218 := n7_; clear n0_ n1_ n2_ n3_ n4_ n5_ n6_ n7_; clear hb hbox hg; have hnb36 := NB229_218.out; have hnc36 := NB218_229.out; have hcz37_0 : w35.cell? ⟨gb229, 0, none⟩ = some (.int .i64 0) := (blk_cell BK229.out 0).trans rfl; have hcz37_1 : w35.cell? ⟨gb229, 1, none⟩ = some (.slice none 0 0) := (blk_cell BK229.out 1).trans rfl; have hfz37_0 := blk_frozen BK229.out 0; have hfz37_1 := blk_frozen BK229.out 1; obtain ⟨Ao38, co38, eo38⟩ := Kd.R_slice HO227.out; subst eo38) | ((with_reducible refine gate_callee (f := 45) rfl ?_); refine goesL_ (some 53) rfl rfl Try.func45 (by kernel_rfl) rfl #[.string a2] rfl (by (try simp only [List.map_toArray, List.map_cons, List.map_nil]); first | done | rfl | (simp only [List.length_drop, List.length_take]; rfl)) ?_; (with_reducible refine (quitrentref08_Read.calls kj5 a2 t230 t231 t234 _ A16.out).mono ?_); rintro e w39 ⟨v232, rfl, ho0, hb⟩; refine ⟨_, rfl, ?_⟩; have n0_ := Aside0.mk (Kd.R_elder' (by (with_reducible repeat (first | apply Kd.R_alloc | apply Kd.R_drewN | apply Kd.R_drew)); exact (Kd.R_mono (Kd.R_far (p := ⟨gb229, 1, none⟩) (Kd.R_far (p := ⟨gb229, 0, none⟩) (Kd.R_types HO227.out BK229.out (by decide)) (fun _ hk => hk.2) (.int .i64 t224)) (fun _ hk => hk.2) (.slice Ao38 t225.length co38)) (fun _ h_ => h_.1))) (Kd.R_base ho0) hb); have n1_ := Aside0.mk (Kd.R_lower (Kd.R_new' ho0 (Kd.R_lt (by (with_reducible repeat (first | apply Kd.R_alloc | apply Kd.R_drewN | apply Kd.R_drew)); exact (Kd.R_mono (Kd.R_far (p := ⟨gb229, 1, none⟩) (Kd.R_far (p := ⟨gb229, 0, none⟩) (Kd.R_types HO227.out BK229.out (by decide)) (fun _ hk => hk.2) (.int .i64 t224)) (fun _ hk => hk.2) (.slice Ao38 t225.length co38)) (fun _ h_ => h_.1))))) (below_size (by repeat (first | (with_reducible first | exact HB.out | apply below_alloc | apply pw_below_drewN | apply below_drew1 | refine below_set ?_ GE218.out | refine below_set ?_ GE229.out) | exact HB.out)))); have n2_ := Aside0.mk (blk_below (g := gb218) (o := .cells #[.int .i64 a1_0, .slice A1_1 l1_1.length c1_1] 60 (0, 0)) (by (with_reducible repeat (first | refine blk_drewN ?_ _ | refine blk_drew ?_ | refine blk_alloc ?_ _)); refine blk_far ?_ NB218_229.out _; (with_reducible repeat (first | refine blk_drewN ?_ _ | refine blk_drew ?_ | refine blk_alloc ?_ _)); refine blk_far ?_ NB218_229.out _; (with_reducible repeat (first | refine blk_drewN ?_ _ | refine blk_drew ?_ | refine blk_alloc ?_ _)); exact BK218.out) hb); have n3_ := Aside0.mk (blk_below (g := gb229) (o := .cells #[.int .i64 t224, .slice Ao38 t225.length co38] 60 (0, 0)) (by (with_reducible repeat (first | refine blk_drewN ?_ _ | refine blk_drew ?_ | refine blk_alloc ?_ _)); refine blk_put (cs := #[.int .i64 t224, .slice none 0 0]) ?_ 1 _ rfl; (with_reducible repeat (first | refine blk_drewN ?_ _ | refine blk_drew ?_ | refine blk_alloc ?_ _)); refine blk_put (cs := #[.int .i64 0, .slice none 0 0]) ?_ 0 _ rfl; (with_reducible repeat (first | refine blk_drewN ?_ _ | refine blk_drew ?_ | refine blk_alloc ?_ _)); exact BK229.out) hb); have n4_ := Aside0.mk (below_step (by repeat (first | (with_reducible first | exact HB.out | apply below_alloc | apply pw_below_drewN | apply below_drew1 | refine below_set ?_ GE218.out | refine below_set ?_ GE229.out) | exact HB.out)) hb); clear HO227; clear BK218; clear BK229; clear HB; have HO227 := n0_; have HO233 := n1_; have BK218 := n2_; have BK229 := n3_; have HB := n4_; clear n0_ n1_ n2_ n3_ n4_; (try clear hb); (try clear hb2); (try clear hk); (try clear hi); (try clear ho0)) | ((with_reducible refine gate_dst (N := 13) rfl ?_); (try (refine gate_guard (by rfl) ?_; dsimp only)); refine box_event ?hg (N := 13) ?hd (cs := #[.int .i64 0, .slice none 0 0]) (t := 64) ?hr ?_; (case hd => rfl); (case hg => rfl); (case hr => first | (go_simp; done) | (go_simp; rfl)); intro gb235 hg w40 hbox hb; have n0_ := Aside0.mk (Kd.R_below (by (with_reducible repeat (first | apply Kd.R_alloc | apply Kd.R_drewN | apply Kd.R_drew)); exact HO227.out) hb); have n1_ := Aside0.mk (Kd.R_below (by (with_reducible repeat (first | apply Kd.R_alloc | apply Kd.R_drewN | apply Kd.R_drew)); exact HO233.out) hb); have n2_ := Aside0.mk (blk_below (g := gb218) (o := .cells #[.int .i64 a1_0, .slice A1_1 l1_1.length c1_1] 60 (0, 0)) (by (with_reducible repeat (first | refine blk_drewN ?_ _ | refine blk_drew ?_ | refine blk_alloc ?_ _)); exact BK218.out) hb); have n3_ := Aside0.mk (blk_below (g := gb229) (o := .cells #[.int .i64 t224, .slice Ao38 t225.length co38] 60 (0, 0)) (by (with_reducible repeat (first | refine blk_drewN ?_ _ | refine blk_drew ?_ | refine blk_alloc ?_ _)); exact BK229.out) hb); have n4_ := Aside0.mk (below_step (by repeat (first | (with_reducible first | exact HB.out | apply below_alloc | apply pw_below_drewN | apply below_drew1 | refine below_set ?_ GE218.out | refine below_set ?_ GE229.out) | exact HB.out)) hb); have n5_ := Aside0.mk (hbox); have n6_ := Aside0.mk ((by rw [hg]; exact (below_size (by repeat (first | (with_reducible first | exact HB.out | apply below_alloc | apply pw_below_drewN | apply below_drew1 | refine below_set ?_ GE218.out | refine below_set ?_ GE229.out) | exact HB.out))) : w.heap.size ≤ gb235)); have n7_ := Aside0.mk ((by rw [hg]; exact (below_size (by repeat (first | (with_reducible first | exact HB.out | apply below_alloc | apply pw_below_drewN | apply below_drew1 | refine below_set ?_ GE218.out | refine below_set ?_ GE229.out) | exact HB.out))) : w.heap.size ≤ gb235)); have n8_ := Aside0.mk ((by rw [hg]; exact Nat.ne_of_lt (blk_lt (g := gb218) (o := .cells #[.int .i64 a1_0, .slice A1_1 l1_1.length c1_1] 60 (0, 0)) (by (with_reducible repeat (first | refine blk_drewN ?_ _ | refine blk_drew ?_ | refine blk_alloc ?_ _)); exact BK218.out)) : gb218 ≠ gb235)); have n9_ := Aside0.mk ((by rw [hg]; exact Nat.ne_of_gt (blk_lt (g := gb218) (o := .cells #[.int .i64 a1_0, .slice A1_1 l1_1.length c1_1] 60 (0, 0)) (by (with_reducible repeat (first | refine blk_drewN ?_ _ | refine blk_drew ?_ | refine blk_alloc ?_ _)); exact BK218.out)) : gb235 ≠ gb218)); have n10_ := Aside0.mk ((by rw [hg]; exact Nat.ne_of_lt (blk_lt (g := gb229) (o := .cells #[.int .i64 t224, .slice Ao38 t225.length co38] 60 (0, 0)) (by (with_reducible repeat (first | refine blk_drewN ?_ _ | refine blk_drew ?_ | refine blk_alloc ?_ _)); exact BK229.out)) : gb229 ≠ gb235)); have n11_ := Aside0.mk ((by rw [hg]; exact Nat.ne_of_gt (blk_lt (g := gb229) (o := .cells #[.int .i64 t224, .slice Ao38 t225.length co38] 60 (0, 0)) (by (with_reducible repeat (first | refine blk_drewN ?_ _ | refine blk_drew ?_ | refine blk_alloc ?_ _)); exact BK229.out)) : gb235 ≠ gb229)); clear HO227; clear HO233; clear BK218; clear BK229; clear HB; have HO227 := n0_; have HO233 := n1_; have BK218 := n2_; have BK229 := n3_; have HB := n4_; have BK235 := n5_; have GW235 := n6_; have GE235 := n7_; have NB218_235 := n8_; have NB235_218 := n9_; have NB229_235 := n10_; have NB235_229 := n11_; clear n0_ n1_ n2_ n3_ n4_ n5_ n6_ n7_ n8_ n9_ n10_ n11_; clear hb hbox hg; have hnb41 := NB235_218.out; have hnc41 := NB218_235.out; have hnb42 := NB235_229.out; have hnc42 := NB229_235.out; have hcz43_0 : w40.cell? ⟨gb235, 0, none⟩ = some (.int .i64 0) := (blk_cell BK235.out 0).trans rfl; have hcz43_1 : w40.cell? ⟨gb235, 1, none⟩ = some (.slice none 0 0) := (blk_cell BK235.out 1).trans rfl; have hfz43_0 := blk_frozen BK235.out 0; have hfz43_1 := blk_frozen BK235.out 1; obtain ⟨Ao44, co44, eo44⟩ := Kd.R_slice HO233.out; subst eo44) | ((with_reducible refine gate_callee (f := 46) rfl ?_); refine goesL_ (some 58) rfl rfl Try.func46 (by kernel_rfl) rfl #[.string a2] rfl (by (try simp only [List.map_toArray, List.map_cons, List.map_nil]); first | done | rfl | (simp only [List.length_drop, List.length_take]; rfl)) ?_; (with_reducible refine (codec_Take.calls kj5 a2 t236 t237 t238 _ A17.out).mono ?_); rintro e w' ⟨rfl, ⟨nd, rfl⟩⟩; refine ⟨_, rfl, ?_⟩) | ((with_reducible refine gate_callee (f := 47) rfl ?_); refine goesL_ (some 64) rfl rfl Try.func47 (by kernel_rfl) rfl #[.string a2] rfl (by (try simp only [List.map_toArray, List.map_cons, List.map_nil]); first | done | rfl | (simp only [List.length_drop, List.length_take]; rfl)) ?_; (with_reducible refine (quitrentref08_Take.calls kj5 a2 t239 t240 t241 _ A18.out).mono ?_); rintro e w45 ⟨rfl, hb⟩; refine ⟨_, rfl, ?_⟩; have n0_ := Aside0.mk (Kd.R_below (by (with_reducible repeat (first | apply Kd.R_alloc | apply Kd.R_drewN | apply Kd.R_drew)); exact (Kd.R_mono (Kd.R_far (p := ⟨gb235, 1, none⟩) (Kd.R_far (p := ⟨gb235, 0, none⟩) (Kd.R_types HO227.out BK235.out (by decide)) (fun _ hk => hk.2) (.int .i64 t230)) (fun _ hk => hk.2) (.slice Ao44 t231.length co44)) (fun _ h_ => h_.1))) hb); have n1_ := Aside0.mk (Kd.R_below (by (with_reducible repeat (first | apply Kd.R_alloc | apply Kd.R_drewN | apply Kd.R_drew)); exact (Kd.R_mono (Kd.R_far (p := ⟨gb235, 1, none⟩) (Kd.R_far (p := ⟨gb235, 0, none⟩) (Kd.R_types HO233.out BK235.out (by decide)) (fun _ hk => hk.2) (.int .i64 t230)) (fun _ hk => hk.2) (.slice Ao44 t231.length co44)) (fun _ h_ => h_.1))) hb); have n2_ := Aside0.mk (blk_below (g := gb218) (o := .cells #[.int .i64 a1_0, .slice A1_1 l1_1.length c1_1] 60 (0, 0)) (by (with_reducible repeat (first | refine blk_drewN ?_ _ | refine blk_drew ?_ | refine blk_alloc ?_ _)); refine blk_far ?_ NB218_235.out _; (with_reducible repeat (first | refine blk_drewN ?_ _ | refine blk_drew ?_ | refine blk_alloc ?_ _)); refine blk_far ?_ NB218_235.out _; (with_reducible repeat (first | refine blk_drewN ?_ _ | refine blk_drew ?_ | refine blk_alloc ?_ _)); exact BK218.out) hb); have n3_ := Aside0.mk (blk_below (g := gb229) (o := .cells #[.int .i64 t224, .slice Ao38 t225.length co38] 60 (0, 0)) (by (with_reducible repeat (first | refine blk_drewN ?_ _ | refine blk_drew ?_ | refine blk_alloc ?_ _)); refine blk_far ?_ NB229_235.out _; (with_reducible repeat (first | refine blk_drewN ?_ _ | refine blk_drew ?_ | refine blk_alloc ?_ _)); refine blk_far ?_ NB229_235.out _; (with_reducible repeat (first | refine blk_drewN ?_ _ | refine blk_drew ?_ | refine blk_alloc ?_ _)); exact BK229.out) hb); have n4_ := Aside0.mk (blk_below (g := gb235) (o := .cells #[.int .i64 t230, .slice Ao44 t231.length co44] 64 (0, 0)) (by (with_reducible repeat (first | refine blk_drewN ?_ _ | refine blk_drew ?_ | refine blk_alloc ?_ _)); refine blk_put (cs := #[.int .i64 t230, .slice none 0 0]) ?_ 1 _ rfl; (with_reducible repeat (first | refine blk_drewN ?_ _ | refine blk_drew ?_ | refine blk_alloc ?_ _)); refine blk_put (cs := #[.int .i64 0, .slice none 0 0]) ?_ 0 _ rfl; (with_reducible repeat (first | refine blk_drewN ?_ _ | refine blk_drew ?_ | refine blk_alloc ?_ _)); exact BK235.out) hb); have n5_ := Aside0.mk (below_step (by repeat (first | (with_reducible first | exact HB.out | apply below_alloc | apply pw_below_drewN | apply below_drew1 | refine below_set ?_ GE218.out | refine below_set ?_ GE229.out | refine below_set ?_ GE235.out) | exact HB.out)) hb); clear HO227; clear HO233; clear BK218; clear BK229; clear BK235; clear HB; have HO227 := n0_; have HO233 := n1_; have BK218 := n2_; have BK229 := n3_; have BK235 := n4_; have HB := n5_; clear n0_ n1_ n2_ n3_ n4_ n5_; (try clear hb); (try clear hb2); (try clear hk); (try clear hi)) | ((with_reducible refine gate_callee (f := 48) rfl ?_); refine goesL_ (some 69) rfl rfl Try.func48 (by kernel_rfl) rfl #[.int .i64 a0] rfl (by (try simp only [List.map_toArray, List.map_cons, List.map_nil]); first | done | rfl | (simp only [List.length_drop, List.length_take]; rfl)) ?_; (with_reducible refine (codec_Number.calls kj5 a0 t242 _ A19.out).mono ?_); rintro e w46 ⟨rfl, hb⟩; refine ⟨_, rfl, ?_⟩; have n0_ := Aside0.mk (Kd.R_below (by (with_reducible repeat (first | apply Kd.R_alloc | apply Kd.R_drewN | apply Kd.R_drew)); exact HO227.out) hb); have n1_ := Aside0.mk (Kd.R_below (by (with_reducible repeat (first | apply Kd.R_alloc | apply Kd.R_drewN | apply Kd.R_drew)); exact HO233.out) hb); have n2_ := Aside0.mk (blk_below (g := gb218) (o := .cells #[.int .i64 a1_0, .slice A1_1 l1_1.length c1_1] 60 (0, 0)) (by (with_reducible repeat (first | refine blk_drewN ?_ _ | refine blk_drew ?_ | refine blk_alloc ?_ _)); exact BK218.out) hb); have n3_ := Aside0.mk (blk_below (g := gb229) (o := .cells #[.int .i64 t224, .slice Ao38 t225.length co38] 60 (0, 0)) (by (with_reducible repeat (first | refine blk_drewN ?_ _ | refine blk_drew ?_ | refine blk_alloc ?_ _)); exact BK229.out) hb); have n4_ := Aside0.mk (blk_below (g := gb235) (o := .cells #[.int .i64 t230, .slice Ao44 t231.length co44] 64 (0, 0)) (by (with_reducible repeat (first | refine blk_drewN ?_ _ | refine blk_drew ?_ | refine blk_alloc ?_ _)); exact BK235.out) hb); have n5_ := Aside0.mk (below_step (by repeat (first | (with_reducible first | exact HB.out | apply below_alloc | apply pw_below_drewN | apply below_drew1 | refine below_set ?_ GE218.out | refine below_set ?_ GE229.out | refine below_set ?_ GE235.out) | exact HB.out)) hb); clear HO227; clear HO233; clear BK218; clear BK229; clear BK235; clear HB; have HO227 := n0_; have HO233 := n1_; have BK218 := n2_; have BK229 := n3_; have BK235 := n4_; have HB := n5_; clear n0_ n1_ n2_ n3_ n4_ n5_; (try clear hb); (try clear hb2); (try clear hk); (try clear hi)) | ((with_reducible refine gate_callee (f := 49) rfl ?_); refine goesL_ (some 71) rfl rfl Try.func49 (by kernel_rfl) rfl #[.int .i64 a0] rfl (by (try simp only [List.map_toArray, List.map_cons, List.map_nil]); first | done | rfl | (simp only [List.length_drop, List.length_take]; rfl)) ?_; (with_reducible refine (quitrentref08_Number.calls kj5 a0 t243 _ A20.out).mono ?_); rintro e w47 ⟨rfl, hb⟩; refine ⟨_, rfl, ?_⟩; have n0_ := Aside0.mk (Kd.R_below (by (with_reducible repeat (first | apply Kd.R_alloc | apply Kd.R_drewN | apply Kd.R_drew)); exact HO227.out) hb); have n1_ := Aside0.mk (Kd.R_below (by (with_reducible repeat (first | apply Kd.R_alloc | apply Kd.R_drewN | apply Kd.R_drew)); exact HO233.out) hb); have n2_ := Aside0.mk (blk_below (g := gb218) (o := .cells #[.int .i64 a1_0, .slice A1_1 l1_1.length c1_1] 60 (0, 0)) (by (with_reducible repeat (first | refine blk_drewN ?_ _ | refine blk_drew ?_ | refine blk_alloc ?_ _)); exact BK218.out) hb); have n3_ := Aside0.mk (blk_below (g := gb229) (o := .cells #[.int .i64 t224, .slice Ao38 t225.length co38] 60 (0, 0)) (by (with_reducible repeat (first | refine blk_drewN ?_ _ | refine blk_drew ?_ | refine blk_alloc ?_ _)); exact BK229.out) hb); have n4_ := Aside0.mk (blk_below (g := gb235) (o := .cells #[.int .i64 t230, .slice Ao44 t231.length co44] 64 (0, 0)) (by (with_reducible repeat (first | refine blk_drewN ?_ _ | refine blk_drew ?_ | refine blk_alloc ?_ _)); exact BK235.out) hb); have n5_ := Aside0.mk (below_step (by repeat (first | (with_reducible first | exact HB.out | apply below_alloc | apply pw_below_drewN | apply below_drew1 | refine below_set ?_ GE218.out | refine below_set ?_ GE229.out | refine below_set ?_ GE235.out) | exact HB.out)) hb); clear HO227; clear HO233; clear BK218; clear BK229; clear BK235; clear HB; have HO227 := n0_; have HO233 := n1_; have BK218 := n2_; have BK229 := n3_; have BK235 := n4_; have HB := n5_; clear n0_ n1_ n2_ n3_ n4_ n5_; (try clear hb); (try clear hb2); (try clear hk); (try clear hi); have hcz48_0 : w47.cell? ⟨gb229, 0, none⟩ = some (.int .i64 t224) := (blk_cell BK229.out 0).trans rfl; have hcz48_1 : w47.cell? ⟨gb229, 1, none⟩ = some (.slice Ao38 t225.length co38) := (blk_cell BK229.out 1).trans rfl; have hfz48_0 := blk_frozen BK229.out 0; have hfz48_1 := blk_frozen BK229.out 1; have hcz49_0 : w47.cell? ⟨gb235, 0, none⟩ = some (.int .i64 t230) := (blk_cell BK235.out 0).trans rfl; have hcz49_1 : w47.cell? ⟨gb235, 1, none⟩ = some (.slice Ao44 t231.length co44) := (blk_cell BK235.out 1).trans rfl; have hfz49_0 := blk_frozen BK235.out 0; have hfz49_1 := blk_frozen BK235.out 1) | (go_at_call 50; (with_reducible refine (quitrentref08_Longs.calls kj5 _ _ t225 _ _ t231 true _ ?side1 ?side2 ?side3 ?side4 A25.out).mono ?_); (case side1 => repeat (first | exact (Kd.R_reads' HO227.out).2.2 | (with_reducible refine Kd.C_alloc ?_ _) | (with_reducible refine Kd.C_drewN ?_ _) | (with_reducible refine Kd.C_drew ?_))); (case side2 => exact (Kd.R_reads' HO227.out).2.1); (case side3 => repeat (first | exact (Kd.R_reads' HO233.out).2.2 | (with_reducible refine Kd.C_alloc ?_ _) | (with_reducible refine Kd.C_drewN ?_ _) | (with_reducible refine Kd.C_drew ?_))); (case side4 => exact (Kd.R_reads' HO233.out).2.1); rintro e w' ⟨rfl, ⟨nd, rfl⟩⟩))
                          go_ret
                          exact ⟨by first | rfl | (simp [errW_none, errW_some] <;> rfl) | (simp [*, errW_none, errW_some] <;> rfl), by repeat (first | (with_reducible first | exact HB.out | apply below_alloc | apply pw_below_drewN | apply below_drew1 | refine below_set ?_ GE218.out | refine below_set ?_ GE229.out | refine below_set ?_ GE235.out) | exact HB.out)⟩
                        · rw [if_neg c29] at H; cases H
                      · rw [if_neg c28] at H; cases H
                    · rw [if_neg c27] at H; cases H
                  · rw [if_neg c26] at H; cases H
                · rw [if_neg c24] at H; cases H
              · rw [if_neg c23] at H; cases H
            · rw [if_neg c22] at H; cases H
          · rw [if_neg c21] at H; cases H
  · rw [if_neg c5] at H; cases H
end Go.Proofs.Ytkfbmplhcigopaa.PCod
