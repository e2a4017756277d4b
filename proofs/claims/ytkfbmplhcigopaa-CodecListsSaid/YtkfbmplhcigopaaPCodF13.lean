-- out of the print of PCod: quitrentlaw08_CodecLists
import Derived.Test.YtkfbmplhcigopaaPCodx0
import Derived.Test.YtkfbmplhcigopaaPCodF41
import Derived.Test.YtkfbmplhcigopaaPCodF51
import Derived.Test.YtkfbmplhcigopaaPCodF52
import Derived.Test.YtkfbmplhcigopaaPCodF53
import Derived.Test.YtkfbmplhcigopaaPCodF54
import Derived.Test.YtkfbmplhcigopaaPCodF55
import Derived.Test.YtkfbmplhcigopaaPCodF56
namespace Go.Proofs.Ytkfbmplhcigopaa.PCod
open Go.RowKit Go.Proofs.YtkfbmplhcigopaaW.PrintWords Go.Proofs.YtkfbmplhcigopaaW.PrintLast Go.Proofs.YtkfbmplhcigopaaW.PrintMore
attribute [local go_sem] max2_int min2_int max_two min_two max_three min_three max_four min_four   -- for this text's walks alone
set_option linter.unusedVariables false
set_option linter.unusedSimpArgs false

/-! ### quitrentlaw08_CodecLists: function 13 -/
def quitrentlaw08_CodecLists.j0 : Nat → List ByteArray → ByteArray → Bool → Option (Bool)
  | 0, _, _, _ => none
  | k + 1, x0, x1, x21 => if x21 = true then (some true) else ((codec_List.f k x0).bind fun bt267 => ((quitrentref08_List.f k x0).bind fun bt269 => ((codec_Parts.f k x1).bind fun bt271 => ((quitrentref08_Parts.f k x1).bind fun bt275 => (if bt267.1.toList = bt269.1.toList then (if bt267.2 = bt269.2 then ((quitrentref06_Same.f k bt271.1 bt275.1).bind fun t279 => (if t279 = true then (some (bt271.2 == bt275.2)) else (none))) else (none)) else (none))))))
def quitrentlaw08_CodecLists.f (k : Nat) (l0 : List ByteArray) (a1 : ByteArray) : Option (Bool) := (quitrentlaw08_awake.f k).bind fun t265 => (if t265 = true then ((quitrentlaw08_large.f k l0).bind fun t266 => (if t266 = true then (quitrentlaw08_CodecLists.j0 k l0 a1 true) else (quitrentlaw08_CodecLists.j0 k l0 a1 (decide ((a1.size : Int) > 3000))))) else (none))
theorem quitrentlaw08_CodecLists.mono_l : ∀ k, (∀ y0 y1 y2, LeO (quitrentlaw08_CodecLists.j0 k y0 y1 y2) (quitrentlaw08_CodecLists.j0 (k + 1) y0 y1 y2))
  | 0 => fun _ _ _ r h => by simp [quitrentlaw08_CodecLists.j0] at h
  | k + 1 => by
    have ih0 := quitrentlaw08_CodecLists.mono_l k
    · intro y0 y1 y2
      unfold quitrentlaw08_CodecLists.j0
      repeat' first
      | (with_reducible exact ih0 _ _ _)
      | (with_reducible exact codec_List.mono _ _)
      | (with_reducible exact codec_Parts.mono _ _)
      | (with_reducible exact quitrentlaw08_awake.mono _)
      | (with_reducible exact quitrentlaw08_large.mono _ _)
      | (with_reducible exact quitrentref06_Same.mono _ _ _)
      | (with_reducible exact quitrentref08_List.mono _ _)
      | (with_reducible exact quitrentref08_Parts.mono _ _)
      | (with_reducible exact LeO.refl _)
      | (with_reducible exact LeO.none _)
      | (with_reducible refine LeO.ite ?_ ?_)
      | (with_reducible refine LeO.bind ?_ (fun _ => ?_))
      | exact ih0 _ _ _
      | exact codec_List.mono _ _
      | exact codec_Parts.mono _ _
      | exact quitrentlaw08_awake.mono _
      | exact quitrentlaw08_large.mono _ _
      | exact quitrentref06_Same.mono _ _ _
      | exact quitrentref08_List.mono _ _
      | exact quitrentref08_Parts.mono _ _
      | exact LeO.none _
      | refine LeO.ite ?_ ?_
      | refine LeO.bind ?_ (fun _ => ?_)
theorem quitrentlaw08_CodecLists.mono : ∀ a0 a1 k, LeO (quitrentlaw08_CodecLists.f k a0 a1) (quitrentlaw08_CodecLists.f (k + 1) a0 a1) := by
  intro a0 a1 k
  have ih0 := quitrentlaw08_CodecLists.mono_l k
  unfold quitrentlaw08_CodecLists.f
  repeat' first
      | (with_reducible exact ih0 _ _ _)
      | (with_reducible exact codec_List.mono _ _)
      | (with_reducible exact codec_Parts.mono _ _)
      | (with_reducible exact quitrentlaw08_awake.mono _)
      | (with_reducible exact quitrentlaw08_large.mono _ _)
      | (with_reducible exact quitrentref06_Same.mono _ _ _)
      | (with_reducible exact quitrentref08_List.mono _ _)
      | (with_reducible exact quitrentref08_Parts.mono _ _)
      | (with_reducible exact LeO.refl _)
      | (with_reducible exact LeO.none _)
      | (with_reducible refine LeO.ite ?_ ?_)
      | (with_reducible refine LeO.bind ?_ (fun _ => ?_))
      | exact ih0 _ _ _
      | exact codec_List.mono _ _
      | exact codec_Parts.mono _ _
      | exact quitrentlaw08_awake.mono _
      | exact quitrentlaw08_large.mono _ _
      | exact quitrentref06_Same.mono _ _ _
      | exact quitrentref08_List.mono _ _
      | exact quitrentref08_Parts.mono _ _
      | exact LeO.none _
      | refine LeO.ite ?_ ?_
      | refine LeO.bind ?_ (fun _ => ?_)
set_option maxHeartbeats 8000000 in
set_option maxRecDepth 100000 in
theorem quitrentlaw08_CodecLists.calls (k : Nat) (A0 : Option Addr) (c0 : Nat) (l0 : List ByteArray) (a1 : ByteArray) (r : Bool) (w : World) (hr0 : Kd.C Kd.string w A0 l0.length l0) (hc0 : l0.length ≤ c0) (h : quitrentlaw08_CodecLists.f k l0 a1 = some r) :
    Calls Try.prog 13 #[.slice A0 l0.length c0, .string a1] w fun e w' => e = .returned (.bool r) ∧ Below w.heap.size w w' := by
  have HR0 := Aside0.mk hr0
  have HC0 := Aside0.mk hc0
  clear hr0 hc0
  have HB := Aside0.mk (Below.refl w.heap.size w)
  have H : ((quitrentlaw08_awake.f k).bind fun t265 => (if t265 = true then ((quitrentlaw08_large.f k l0).bind fun t266 => (if t266 = true then (quitrentlaw08_CodecLists.j0 k l0 a1 true) else (quitrentlaw08_CodecLists.j0 k l0 a1 (decide ((a1.size : Int) > 3000))))) else (none))) = some r := h
  clear h
  replace H := Option.bind_eq_some_iff.mp H
  obtain ⟨t265, A30, H⟩ := H
  replace H : (if t265 = true then ((quitrentlaw08_large.f k l0).bind fun t266 => (if t266 = true then (quitrentlaw08_CodecLists.j0 k l0 a1 true) else (quitrentlaw08_CodecLists.j0 k l0 a1 (decide ((a1.size : Int) > 3000))))) else (none)) = some r := H
  have A3 := Aside0.mk A30
  clear A30
  by_cases c4 : t265 = true
  · subst c4
    have H1 : ((quitrentlaw08_large.f k l0).bind fun t266 => (if t266 = true then (quitrentlaw08_CodecLists.j0 k l0 a1 true) else (quitrentlaw08_CodecLists.j0 k l0 a1 (decide ((a1.size : Int) > 3000))))) = some r := by rw [if_pos rfl] at H; exact H
    clear H
    have H := H1
    clear H1
    have HC5 := Aside0.mk H
    clear H
    go_enter Try.func13, Try.ntmps13
    go_upto_region 3 with (first | ((with_reducible refine gate_callee (f := 41) rfl ?_); refine goesL_ (some 13) rfl rfl Try.func41 (by kernel_rfl) rfl #[] rfl (by (try simp only [List.map_toArray, List.map_cons, List.map_nil]); first | done | rfl | (simp only [List.length_drop, List.length_take]; rfl)) ?_; (with_reducible refine (quitrentlaw08_awake.calls k  true _ A3.out).mono ?_); rintro e w6 ⟨rfl, hb⟩; refine ⟨_, rfl, ?_⟩; have n0_ := Aside0.mk (below_step (by repeat (first | (with_reducible first | exact HB.out | apply below_alloc | apply pw_below_drewN | apply below_drew1) | exact HB.out)) hb); clear HB; have HB := n0_; clear n0_; (try clear hb); (try clear hb2); (try clear hk); (try clear hi)))
    (try simp only [Act.put, List.setIfInBounds_toArray, List.set_cons_zero, List.set_cons_succ])
    go_cut [21] (fun v21 wc => ∃ (kq : Nat) (x21_4 : Bool), v21 = .bool x21_4 ∧ Aside0 (quitrentlaw08_CodecLists.j0 kq l0 a1 x21_4 = some r) ∧ Aside0 (kq ≤ k) ∧ Aside0 (Below w.heap.size w wc))
    case first =>
      have H := HC5.out
      clear HC5
      replace H := Option.bind_eq_some_iff.mp H
      obtain ⟨t266, A70, H⟩ := H
      replace H : (if t266 = true then (quitrentlaw08_CodecLists.j0 k l0 a1 true) else (quitrentlaw08_CodecLists.j0 k l0 a1 (decide ((a1.size : Int) > 3000)))) = some r := H
      have A7 := Aside0.mk A70
      clear A70
      by_cases c8 : t266 = true
      · subst c8
        have H1 : (quitrentlaw08_CodecLists.j0 k l0 a1 true) = some r := by rw [if_pos rfl] at H; exact H
        clear H
        have H := H1
        clear H1
        have H' := Aside0.mk H
        clear H
        go_wp2_with (first | ((with_reducible refine gate_callee (f := 51) rfl ?_); refine goesL_ (some 16) rfl rfl Try.func51 (by kernel_rfl) rfl #[.slice A0 l0.length c0] rfl (by (try simp only [List.map_toArray, List.map_cons, List.map_nil]); first | done | rfl | (simp only [List.length_drop, List.length_take]; rfl)) ?_; (with_reducible refine (quitrentlaw08_large.calls k _ _ l0 true _ ?side1 ?side2 A7.out).mono ?_); (case side1 => repeat (first | exact (Kd.C_below HR0.out HB.out) | (with_reducible refine Kd.C_alloc ?_ _) | (with_reducible refine Kd.C_drewN ?_ _) | (with_reducible refine Kd.C_drew ?_))); (case side2 => exact HC0.out); rintro e w' ⟨rfl, ⟨nd, rfl⟩⟩; refine ⟨_, rfl, ?_⟩))
        go_meet
        case rel => exact ⟨_, (true), (by first | rfl | (simp; done) | (simp [*]; done)), H', ⟨by first | omega | exact Nat.le_refl _⟩, ⟨by repeat (first | (with_reducible first | exact HB.out | apply below_alloc | apply pw_below_drewN | apply below_drew1) | exact HB.out)⟩⟩
      · replace c8 := Bool.eq_false_iff.mpr c8
        subst c8
        have H1 : (quitrentlaw08_CodecLists.j0 k l0 a1 (decide ((a1.size : Int) > 3000))) = some r := by rw [if_neg (show ¬ (false = true) by decide)] at H; exact H
        clear H
        have H := H1
        clear H1
        have H' := Aside0.mk H
        clear H
        go_wp2_with (first | ((with_reducible refine gate_callee (f := 51) rfl ?_); refine goesL_ (some 16) rfl rfl Try.func51 (by kernel_rfl) rfl #[.slice A0 l0.length c0] rfl (by (try simp only [List.map_toArray, List.map_cons, List.map_nil]); first | done | rfl | (simp only [List.length_drop, List.length_take]; rfl)) ?_; (with_reducible refine (quitrentlaw08_large.calls k _ _ l0 false _ ?side1 ?side2 A7.out).mono ?_); (case side1 => repeat (first | exact (Kd.C_below HR0.out HB.out) | (with_reducible refine Kd.C_alloc ?_ _) | (with_reducible refine Kd.C_drewN ?_ _) | (with_reducible refine Kd.C_drew ?_))); (case side2 => exact HC0.out); rintro e w' ⟨rfl, ⟨nd, rfl⟩⟩; refine ⟨_, rfl, ?_⟩))
        go_meet
        case rel => exact ⟨_, (decide ((a1.size : Int) > 3000)), (by first | rfl | (simp; done) | (simp [*]; done)), H', ⟨by first | omega | exact Nat.le_refl _⟩, ⟨by repeat (first | (with_reducible first | exact HB.out | apply below_alloc | apply pw_below_drewN | apply below_drew1) | exact HB.out)⟩⟩
    case rest =>
      clear HC5
      try clear c1
      try clear p2
      try clear c4
      try clear c5
      try clear c8
      obtain ⟨kq, x21_4, rfl, HA, HJ4, HB⟩ := hcut
      cases kq with
      | zero => exact absurd HA.out (by simp [quitrentlaw08_CodecLists.j0])
      | succ kj4 =>
        have H := HA.out
        clear HA
        simp only [quitrentlaw08_CodecLists.j0] at H
        by_cases c9 : x21_4 = true
        · subst c9
          have H1 : (some true) = some r := by rw [if_pos rfl] at H; exact H
          clear H
          have H := H1
          clear H1
          obtain rfl := Option.some.inj H
          go_wp2
          go_ret
          exact ⟨by first | rfl | (simp [errW_none, errW_some] <;> rfl) | (simp [*, errW_none, errW_some] <;> rfl), by repeat (first | (with_reducible first | exact HB.out | apply below_alloc | apply pw_below_drewN | apply below_drew1) | exact HB.out)⟩
        · replace c9 := Bool.eq_false_iff.mpr c9
          subst c9
          have H1 : ((codec_List.f kj4 l0).bind fun bt267 => ((quitrentref08_List.f kj4 l0).bind fun bt269 => ((codec_Parts.f kj4 a1).bind fun bt271 => ((quitrentref08_Parts.f kj4 a1).bind fun bt275 => (if bt267.1.toList = bt269.1.toList then (if bt267.2 = bt269.2 then ((quitrentref06_Same.f kj4 bt271.1 bt275.1).bind fun t279 => (if t279 = true then (some (bt271.2 == bt275.2)) else (none))) else (none)) else (none)))))) = some r := by rw [if_neg (show ¬ (false = true) by decide)] at H; exact H
          clear H
          have H := H1
          clear H1
          replace H := Option.bind_eq_some_iff.mp H
          obtain ⟨⟨t267, t268⟩, A100, H⟩ := H
          replace H : ((quitrentref08_List.f kj4 l0).bind fun bt269 => ((codec_Parts.f kj4 a1).bind fun bt271 => ((quitrentref08_Parts.f kj4 a1).bind fun bt275 => (if t267.toList = bt269.1.toList then (if t268 = bt269.2 then ((quitrentref06_Same.f kj4 bt271.1 bt275.1).bind fun t279 => (if t279 = true then (some (bt271.2 == bt275.2)) else (none))) else (none)) else (none))))) = some r := H
          have A10 := Aside0.mk A100
          clear A100
          replace H := Option.bind_eq_some_iff.mp H
          obtain ⟨⟨t269, t270⟩, A110, H⟩ := H
          replace H : ((codec_Parts.f kj4 a1).bind fun bt271 => ((quitrentref08_Parts.f kj4 a1).bind fun bt275 => (if t267.toList = t269.toList then (if t268 = t270 then ((quitrentref06_Same.f kj4 bt271.1 bt275.1).bind fun t279 => (if t279 = true then (some (bt271.2 == bt275.2)) else (none))) else (none)) else (none)))) = some r := H
          have A11 := Aside0.mk A110
          clear A110
          replace H := Option.bind_eq_some_iff.mp H
          obtain ⟨⟨t271, t272⟩, A120, H⟩ := H
          replace H : ((quitrentref08_Parts.f kj4 a1).bind fun bt275 => (if t267.toList = t269.toList then (if t268 = t270 then ((quitrentref06_Same.f kj4 t271 bt275.1).bind fun t279 => (if t279 = true then (some (t272 == bt275.2)) else (none))) else (none)) else (none))) = some r := H
          have A12 := Aside0.mk A120
          clear A120
          replace H := Option.bind_eq_some_iff.mp H
          obtain ⟨⟨t275, t276⟩, A130, H⟩ := H
          replace H : (if t267.toList = t269.toList then (if t268 = t270 then ((quitrentref06_Same.f kj4 t271 t275).bind fun t279 => (if t279 = true then (some (t272 == t276)) else (none))) else (none)) else (none)) = some r := H
          have A13 := Aside0.mk A130
          clear A130
          by_cases c14 : t267.toList = t269.toList
          · rw [if_pos c14] at H
            have c14b0 : (t267.toList == t269.toList) = true := beq_iff_eq.mpr c14
            have c14b1 : (t267.toList != t269.toList) = false := bne_eq_false_iff_eq.mpr c14
            clear c14
            by_cases c15 : t268 = t270
            · rw [if_pos c15] at H
              have c15b0 : (t268 == t270) = true := beq_iff_eq.mpr c15
              have c15b1 : (t268 != t270) = false := bne_eq_false_iff_eq.mpr c15
              clear c15
              replace H := Option.bind_eq_some_iff.mp H
              obtain ⟨t279, A160, H⟩ := H
              replace H : (if t279 = true then (some (t272 == t276)) else (none)) = some r := H
              have A16 := Aside0.mk A160
              clear A160
              by_cases c17 : t279 = true
              · subst c17
                have H1 : (some (t272 == t276)) = some r := by rw [if_pos rfl] at H; exact H
                clear H
                have H := H1
                clear H1
                obtain rfl := Option.some.inj H
                go_wp2_with (first | ((with_reducible refine gate_callee (f := 52) rfl ?_); refine goesL_ (some 24) rfl rfl Try.func52 (by kernel_rfl) rfl #[.slice A0 l0.length c0] rfl (by (try simp only [List.map_toArray, List.map_cons, List.map_nil]); first | done | rfl | (simp only [List.length_drop, List.length_take]; rfl)) ?_; (with_reducible refine (codec_List.calls kj4 _ _ l0 t267 t268 _ ?side1 ?side2 A10.out).mono ?_); (case side1 => repeat (first | exact (Kd.C_below HR0.out HB.out) | (with_reducible refine Kd.C_alloc ?_ _) | (with_reducible refine Kd.C_drewN ?_ _) | (with_reducible refine Kd.C_drew ?_))); (case side2 => exact HC0.out); rintro e w18 ⟨rfl, hb⟩; refine ⟨_, rfl, ?_⟩; have n0_ := Aside0.mk (below_step (by repeat (first | (with_reducible first | exact HB.out | apply below_alloc | apply pw_below_drewN | apply below_drew1) | exact HB.out)) hb); clear HB; have HB := n0_; clear n0_; (try clear hb); (try clear hb2); (try clear hk); (try clear hi)) | ((with_reducible refine gate_callee (f := 53) rfl ?_); refine goesL_ (some 29) rfl rfl Try.func53 (by kernel_rfl) rfl #[.slice A0 l0.length c0] rfl (by (try simp only [List.map_toArray, List.map_cons, List.map_nil]); first | done | rfl | (simp only [List.length_drop, List.length_take]; rfl)) ?_; (with_reducible refine (quitrentref08_List.calls kj4 _ _ l0 t269 t270 _ ?side1 ?side2 A11.out).mono ?_); (case side1 => repeat (first | exact (Kd.C_below HR0.out HB.out) | (with_reducible refine Kd.C_alloc ?_ _) | (with_reducible refine Kd.C_drewN ?_ _) | (with_reducible refine Kd.C_drew ?_))); (case side2 => exact HC0.out); rintro e w19 ⟨rfl, hb⟩; refine ⟨_, rfl, ?_⟩; have n0_ := Aside0.mk (below_step (by repeat (first | (with_reducible first | exact HB.out | apply below_alloc | apply pw_below_drewN | apply below_drew1) | exact HB.out)) hb); clear HB; have HB := n0_; clear n0_; (try clear hb); (try clear hb2); (try clear hk); (try clear hi)) | ((with_reducible refine gate_callee (f := 54) rfl ?_); refine goesL_ (some 34) rfl rfl Try.func54 (by kernel_rfl) rfl #[.string a1] rfl (by (try simp only [List.map_toArray, List.map_cons, List.map_nil]); first | done | rfl | (simp only [List.length_drop, List.length_take]; rfl)) ?_; (with_reducible refine (codec_Parts.calls kj4 a1 t271 t272 _ A12.out).mono ?_); rintro e w20 ⟨v273, rfl, ho0, hb⟩; refine ⟨_, rfl, ?_⟩; have n0_ := Aside0.mk (Kd.R_lower ho0 (below_size (by repeat (first | (with_reducible first | exact HB.out | apply below_alloc | apply pw_below_drewN | apply below_drew1) | exact HB.out)))); have n1_ := Aside0.mk (below_step (by repeat (first | (with_reducible first | exact HB.out | apply below_alloc | apply pw_below_drewN | apply below_drew1) | exact HB.out)) hb); clear HB; have HO274 := n0_; have HB := n1_; clear n0_ n1_; (try clear hb); (try clear hb2); (try clear hk); (try clear hi); (try clear ho0)) | ((with_reducible refine gate_callee (f := 55) rfl ?_); refine goesL_ (some 39) rfl rfl Try.func55 (by kernel_rfl) rfl #[.string a1] rfl (by (try simp only [List.map_toArray, List.map_cons, List.map_nil]); first | done | rfl | (simp only [List.length_drop, List.length_take]; rfl)) ?_; (with_reducible refine (quitrentref08_Parts.calls kj4 a1 t275 t276 _ A13.out).mono ?_); rintro e w21 ⟨v277, rfl, ho0, hb⟩; refine ⟨_, rfl, ?_⟩; have n0_ := Aside0.mk (Kd.R_elder' (by (with_reducible repeat (first | apply Kd.R_alloc | apply Kd.R_drewN | apply Kd.R_drew)); exact HO274.out) (Kd.R_base ho0) hb); have n1_ := Aside0.mk (Kd.R_lower (Kd.R_new' ho0 (Kd.R_lt (by (with_reducible repeat (first | apply Kd.R_alloc | apply Kd.R_drewN | apply Kd.R_drew)); exact HO274.out))) (below_size (by repeat (first | (with_reducible first | exact HB.out | apply below_alloc | apply pw_below_drewN | apply below_drew1) | exact HB.out)))); have n2_ := Aside0.mk (below_step (by repeat (first | (with_reducible first | exact HB.out | apply below_alloc | apply pw_below_drewN | apply below_drew1) | exact HB.out)) hb); clear HO274; clear HB; have HO274 := n0_; have HO278 := n1_; have HB := n2_; clear n0_ n1_ n2_; (try clear hb); (try clear hb2); (try clear hk); (try clear hi); (try clear ho0); obtain ⟨Ao22, co22, eo22⟩ := Kd.R_slice HO274.out; subst eo22; obtain ⟨Ao23, co23, eo23⟩ := Kd.R_slice HO278.out; subst eo23) | (go_at_call 56; (with_reducible refine (quitrentref06_Same.calls kj4 _ _ t271 _ _ t275 true _ ?side1 ?side2 ?side3 ?side4 A16.out).mono ?_); (case side1 => repeat (first | exact (Kd.R_reads' HO274.out).2.2 | (with_reducible refine Kd.C_alloc ?_ _) | (with_reducible refine Kd.C_drewN ?_ _) | (with_reducible refine Kd.C_drew ?_))); (case side2 => exact (Kd.R_reads' HO274.out).2.1); (case side3 => repeat (first | exact (Kd.R_reads' HO278.out).2.2 | (with_reducible refine Kd.C_alloc ?_ _) | (with_reducible refine Kd.C_drewN ?_ _) | (with_reducible refine Kd.C_drew ?_))); (case side4 => exact (Kd.R_reads' HO278.out).2.1); rintro e w' ⟨rfl, ⟨nd, rfl⟩⟩))
                go_ret
                exact ⟨by first | rfl | (simp [errW_none, errW_some] <;> rfl) | (simp [*, errW_none, errW_some] <;> rfl), by repeat (first | (with_reducible first | exact HB.out | apply below_alloc | apply pw_below_drewN | apply below_drew1) | exact HB.out)⟩
              · rw [if_neg c17] at H; cases H
            · rw [if_neg c15] at H; cases H
          · rw [if_neg c14] at H; cases H
  · rw [if_neg c4] at H; cases H
end Go.Proofs.Ytkfbmplhcigopaa.PCod
