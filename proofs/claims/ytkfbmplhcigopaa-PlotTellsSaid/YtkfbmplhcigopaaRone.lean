/- The document's numbers of digits (at, made, least, Of, Plus, Neg, Less, Cmp, Fit) and its Stairs, walked: each function answers what a list of digits says. No condition. -/
import Derived.Test.YtkfbmplhcigopaaPPlox0
import Derived.Test.YtkfbmplhcigopaaPPlox1
import Derived.Test.YtkfbmplhcigopaaRtwo
set_option linter.unusedSimpArgs false
set_option linter.unusedVariables false
namespace Go.Proofs.Ytkfbmplhcigopaa.PPlo
open Go.RowKit Go.Proofs.YtkfbmplhcigopaaW.PrintWords Go.Proofs.YtkfbmplhcigopaaW.PrintLast Go.Proofs.YtkfbmplhcigopaaW.PrintMore
attribute [local go_sem] max2_int min2_int max_two min_two max_three min_three max_four min_four   -- for this text's walks alone

attribute [local go_sem high] eqA41
/-! ### quitrentref01_at: function 78 -/
def quitrentref01_at.f (l0 : List Int) (a1 : Int) : Option (Int) := if a1 ≥ (l0.length : Int) then (some 0) else (if 0 ≤ a1 then (if a1 < (l0.length : Int) then (some (rd l0 a1)) else (none)) else (none))
set_option maxHeartbeats 8000000 in
set_option maxRecDepth 100000 in
theorem quitrentref01_at.calls (A0 : Option Addr) (c0 : Nat) (l0 : List Int) (a1 : Int) (r : Int) (w : World) (hr0 : Kd.C (Kd.int .i64) w A0 l0.length l0) (hc0 : l0.length ≤ c0) (h : quitrentref01_at.f l0 a1 = some r) :
    Calls Try.prog 78 #[.slice A0 l0.length c0, .int .i64 a1] w fun e w' => e = .returned (.int .i64 r) ∧ Drawn0 w w' := by
  have HR0 := Aside0.mk hr0
  have HC0 := Aside0.mk hc0
  clear hr0 hc0
  have H : (if a1 ≥ (l0.length : Int) then (some 0) else (if 0 ≤ a1 then (if a1 < (l0.length : Int) then (some (rd l0 a1)) else (none)) else (none))) = some r := h
  clear h
  by_cases c3 : a1 ≥ (l0.length : Int)
  · rw [if_pos c3] at H
    have c3b0 : decide ((l0.length : Int) ≤ a1) = true := decide_eq_true c3
    clear c3
    obtain rfl := Option.some.inj H
    go_enter Try.func78, Try.ntmps78
    go_wp2
    go_ret
    exact ⟨by first | rfl | (simp; done) | (simp [*]; done), by repeat (first | exact Drawn0.refl _ | apply Drawn0.step)⟩
  · rw [if_neg c3] at H
    have c3b0 : decide ((l0.length : Int) ≤ a1) = false := decide_eq_false c3
    clear c3
    by_cases c4 : 0 ≤ a1
    · rw [if_pos c4] at H
      have c4b0 : decide (0 ≤ a1) = true := decide_eq_true c4
      clear c4
      by_cases c5 : a1 < (l0.length : Int)
      · rw [if_pos c5] at H
        have c5b0 : decide (a1 < (l0.length : Int)) = true := decide_eq_true c5
        clear c5
        obtain rfl := Option.some.inj H
        have p144 : 0 ≤ (a1 : Int) := of_decide_eq_true (by first | (with_reducible assumption) | assumption)
        have q144 : a1 < (l0.length : Int) := of_decide_eq_true (by first | (with_reducible assumption) | assumption)
        obtain ⟨ad144, e144, hx144_0⟩ := Kd.at_int HR0.out a1 p144 q144
        cases e144
        replace p144 := eq_true p144
        replace q144 := eq_true q144
        go_enter Try.func78, Try.ntmps78
        go_wp2
        go_ret
        exact ⟨by first | rfl | (simp; done) | (simp [*]; done), by repeat (first | exact Drawn0.refl _ | apply Drawn0.step)⟩
      · rw [if_neg c5] at H
        exact absurd H (by simp)
    · rw [if_neg c4] at H
      exact absurd H (by simp)
end Go.Proofs.Ytkfbmplhcigopaa.PPlo
namespace Go.Proofs.Ytkfbmplhcigopaa.PPlo
open Go.RowKit Go.Proofs.YtkfbmplhcigopaaW.PrintWords Go.Proofs.YtkfbmplhcigopaaW.PrintLast Go.Proofs.YtkfbmplhcigopaaW.PrintMore
attribute [local go_sem] max2_int max_two
/-! ### quitrentref01_made: function 79 -/
def quitrentref01_made.l0 : Nat → Int → List Int → Option (Int × List Int)
  | 0, _, _ => none
  | k + 1, x0, x1 => if (x1.length : Int) > 0 then (if 0 ≤ (wrap64 ((x1.length : Int) - 1)) then (if (wrap64 ((x1.length : Int) - 1)) < (x1.length : Int) then (if (rd x1 (wrap64 ((x1.length : Int) - 1))) = 0 then (if (wrap64 ((x1.length : Int) - 1)) ≤ (x1.length : Int) then (quitrentref01_made.l0 k x0 (x1.take ((wrap64 ((x1.length : Int) - 1)) : Int).toNat)) else (none)) else (if (x1.length : Int) = 0 then (some (0, ([] : List Int))) else (some (x0, x1)))) else (none)) else (none)) else (if (x1.length : Int) = 0 then (some (0, ([] : List Int))) else (some (x0, x1)))
def quitrentref01_made.f (k : Nat) (a0 : Int) (l1 : List Int) : Option (Int × List Int) := quitrentref01_made.l0 k a0 l1
theorem quitrentref01_made.mono_l : ∀ k, (∀ y0 y1, LeO (quitrentref01_made.l0 k y0 y1) (quitrentref01_made.l0 (k + 1) y0 y1))
  | 0 => fun _ _ r h => by simp [quitrentref01_made.l0] at h
  | k + 1 => by
    have ih0 := quitrentref01_made.mono_l k
    · intro y0 y1
      unfold quitrentref01_made.l0
      repeat' first
      | (with_reducible exact ih0 _ _)
      | (with_reducible exact LeO.refl _)
      | (with_reducible exact LeO.none _)
      | (with_reducible refine LeO.ite ?_ ?_)
      | (with_reducible refine LeO.bind ?_ (fun _ => ?_))
      | exact ih0 _ _
      | exact LeO.none _
      | refine LeO.ite ?_ ?_
      | refine LeO.bind ?_ (fun _ => ?_)
theorem quitrentref01_made.mono : ∀ a0 a1 k, LeO (quitrentref01_made.f k a0 a1) (quitrentref01_made.f (k + 1) a0 a1) := by
  intro a0 a1 k
  have ih0 := quitrentref01_made.mono_l k
  unfold quitrentref01_made.f
  repeat' first
      | (with_reducible exact ih0 _ _)
      | (with_reducible exact LeO.refl _)
      | (with_reducible exact LeO.none _)
      | (with_reducible refine LeO.ite ?_ ?_)
      | (with_reducible refine LeO.bind ?_ (fun _ => ?_))
      | exact ih0 _ _
      | exact LeO.none _
      | refine LeO.ite ?_ ?_
      | refine LeO.bind ?_ (fun _ => ?_)
/-- What is left of a slice of digits. -/
def cutV (A : Option Addr) (c : Nat) (l : List Int) : Value := if l = [] then .slice none 0 0 else .slice A l.length c
set_option maxHeartbeats 8000000 in
set_option maxRecDepth 100000 in
theorem madeC (k : Nat) (s : Int) (A : Option Addr) (c : Nat) (l : List Int) (s1 : Int) (l1 : List Int) (w : World) (hC : Kd.C (Kd.int .i64) w A l.length l) (hc : l.length ≤ c) (h : quitrentref01_made.f k s l = some (s1, l1)) :
    Calls Try.prog 79 #[.int .i64 s, .slice A l.length c] w fun e w' => e = .returned (.agg #[.int .i64 s1, cutV A c l1]) ∧ Below w.heap.size w w' := by
  have hu89 := Try.underlying89
  have HR := Aside0.mk hC
  have HC := Aside0.mk hc
  have HB := Aside0.mk (Below.refl w.heap.size w)
  have H' := Aside0.mk (show quitrentref01_made.l0 k s l = some (s1, l1) from h)
  clear h hC hc
  go_enter Try.func79, Try.ntmps79
  go_wp2_with (first | ((with_reducible refine gate_dst (N := 4) rfl ?_); refine box_event ?hg (N := 4) ?hd (cs := #[.int .i64 0, .slice none 0 0]) (t := 89) ?hr ?_; (case hd => rfl); (case hg => rfl); (case hr => first | (go_simp; done) | (go_simp; rfl)); intro gb hg wb hbox hb; have n_e := Aside0.mk ((by rw [hg]; exact (below_size HB.out)) : w.heap.size ≤ gb); have n_b := Aside0.mk (below_step HB.out hb); have n_k := Aside0.mk hbox; clear HB; have HB := n_b; have GE := n_e; have BK := n_k; clear n_e n_b n_k hb hbox hg))
  simp only [Act.put, List.setIfInBounds_toArray, List.set_cons_zero, List.set_cons_succ]
  go_loopg [1] k (fun kq v1 w' => ∃ (x : List Int), v1 = .slice A x.length c ∧ Aside0 (x.length ≤ c) ∧ Aside0 (Kd.C (Kd.int .i64) w A x.length x) ∧ Aside0 (quitrentref01_made.l0 kq s x = some (s1, l1)) ∧ Aside0 (kq ≤ k) ∧ Aside0 (w'.heap[gb]? = some (.cells #[.int .i64 0, (.slice none 0 0)] 89 (0, 0))) ∧ Aside0 (Below w.heap.size w w'))
  case atStart => exact ⟨l, (by first | rfl | (simp; done) | (simp [*]; done)), HC, HR, H', ⟨Nat.le_refl _⟩, ⟨(by (with_reducible repeat (first | refine blk_drewN ?_ _ | refine blk_drew ?_ | refine blk_alloc ?_ _)); exact BK.out)⟩, ⟨(by repeat (first | (with_reducible first | exact HB.out | apply below_alloc | apply pw_below_drewN | apply below_drew1 | refine below_set ?_ GE.out) | exact HB.out))⟩⟩
  case round =>
    clear H' HC HR
    obtain ⟨x, rfl, HC, HR, HA, HK1, BK, HB⟩ := hrel
    cases gk with
    | zero => exact absurd HA.out (by simp [quitrentref01_made.l0])
    | succ k1 =>
      have H := HA.out
      clear HA
      simp only [quitrentref01_made.l0] at H
      have hcz0 : wr.cell? ⟨gb, 0, none⟩ = some (.int .i64 0) := (blk_cell BK.out 0).trans rfl
      have hcz1 : wr.cell? ⟨gb, 1, none⟩ = some (.slice none 0 0) := (blk_cell BK.out 1).trans rfl
      have hfz0 := blk_frozen BK.out 0
      have hfz1 := blk_frozen BK.out 1
      by_cases c4 : (x.length : Int) > 0
      · rw [if_pos c4] at H
        have c4b0 : decide (0 < (x.length : Int)) = true := decide_eq_true c4
        have c4b1 : decide (0 < x.length) = true := decide_eq_true (by omega)
        have c5 : ((x.length : Int) == 0) = false := beq_eq_false_iff_ne.mpr (by omega)
        have c5n : ¬ (x.length : Int) = 0 := by omega
        clear c4
        obtain ⟨ji, hji⟩ : ∃ j_ : Int, (wrap64 ((x.length : Int) - 1)) = j_ := ⟨_, rfl⟩
        rw [hji] at H
        have hjiw : (IntKind.i64.wrap ((x.length : Int) - 1)) = ji := (i64_w _).trans hji
        by_cases c6 : 0 ≤ ji
        · rw [if_pos c6] at H
          have c6b0 : decide (0 ≤ ji) = true := decide_eq_true c6
          by_cases c7 : ji < (x.length : Int)
          · rw [if_pos c7] at H
            have c7b0 : decide (ji < (x.length : Int)) = true := decide_eq_true c7
            obtain ⟨ad, e, hx⟩ := Kd.at_int HR.out ji c6 c7
            cases e
            replace hx := (HB.out.cell (World.block_lt_of_cell? w _ hx)).trans hx
            have p6 := eq_true c6
            have p7 := eq_true c7
            by_cases c8 : (rd x ji) = 0
            · rw [if_pos c8, if_pos (by omega)] at H
              have c8b0 : ((rd x ji) == 0) = true := beq_iff_eq.mpr c8
              clear c8
              have q12 : ji ≤ (x.length : Int) := by omega
              obtain ⟨i0, hi0, _, hsz, _⟩ := info_parts info3
              have hcut := cut_to (P := Try.prog) 85 3 .i64 Try.underlying85 hi0 (some ad) x.length c ji c6 q12 HC.out
              have hr := Kd.C_take (m := ji.toNat) HR.out (by omega)
              obtain ⟨y, hy⟩ : ∃ y_ : List Int, y_ = x.take ji.toNat := ⟨_, rfl⟩
              have hyl : y.length = ji.toNat := by rw [hy, List.length_take]; omega
              rw [← hy] at hr H
              rw [← hyl] at hcut
              have HRn := Aside0.mk hr
              have HCn : Aside0 (y.length ≤ c) := ⟨by have := HC.out; omega⟩
              have H' := Aside0.mk H
              have Q12 := eq_true q12
              clear hr H hy hyl q12 c6 c7
              go_wp2
              go_roundg k1
              case measure => have := HK1.out; omega
              case rel => exact ⟨y, (by first | rfl | (simp; done) | (simp [*]; done)), HCn, HRn, H', ⟨by have := HK1.out; omega⟩, ⟨(by (with_reducible repeat (first | refine blk_drewN ?_ _ | refine blk_drew ?_ | refine blk_alloc ?_ _)); exact BK.out)⟩, ⟨(by repeat (first | (with_reducible first | exact HB.out | apply below_alloc | apply pw_below_drewN | apply below_drew1 | refine below_set ?_ GE.out) | exact HB.out))⟩⟩
            · rw [if_neg c8, if_neg c5n] at H
              have c8b0 : ((rd x ji) == 0) = false := beq_eq_false_iff_ne.mpr c8
              simp only [Option.some.injEq, Prod.mk.injEq] at H
              obtain ⟨rfl, rfl⟩ := H
              have hne : x ≠ [] := fun h_ => by rw [h_] at c5n; exact c5n rfl
              have HN := Aside0.mk hne
              clear hne c8 c6 c7 c5n
              go_wp2
              refine bodyPost_ret (results_cell_row rfl _ _ gb 89 #[.int .i64 s, .slice (some ad) x.length c] (0, 0) _ rfl (by (with_reducible repeat (first | refine blk_drewN ?_ _ | refine blk_drew ?_ | refine blk_alloc ?_ _)); refine blk_put (cs := #[.int .i64 s, .slice none 0 0]) ?_ 1 _ rfl; (with_reducible repeat (first | refine blk_drewN ?_ _ | refine blk_drew ?_ | refine blk_alloc ?_ _)); refine blk_put (cs := #[.int .i64 0, .slice none 0 0]) ?_ 0 _ rfl; (with_reducible repeat (first | refine blk_drewN ?_ _ | refine blk_drew ?_ | refine blk_alloc ?_ _)); exact BK.out) Try.underlying89 rfl (by kernel_rfl)) rfl ?_
              exact ⟨by rw [cutV, if_neg HN.out], (by repeat (first | (with_reducible first | exact HB.out | apply below_alloc | apply pw_below_drewN | apply below_drew1 | refine below_set ?_ GE.out) | exact HB.out))⟩
          · rw [if_neg c7] at H
            exact absurd H (by simp)
        · rw [if_neg c6] at H
          exact absurd H (by simp)
      · rw [if_neg c4] at H
        have c4b0 : decide (0 < (x.length : Int)) = false := decide_eq_false c4
        have c4b1 : decide (0 < x.length) = false := decide_eq_false (by omega)
        rw [if_pos (show (x.length : Int) = 0 by omega)] at H
        have c5 : ((x.length : Int) == 0) = true := beq_iff_eq.mpr (by omega)
        simp only [Option.some.injEq, Prod.mk.injEq] at H
        obtain ⟨rfl, rfl⟩ := H
        clear c4
        go_wp2
        refine bodyPost_ret (results_cell_row rfl _ _ gb 89 #[.int .i64 0, .slice none 0 0] (0, 0) _ rfl (by (with_reducible repeat (first | refine blk_drewN ?_ _ | refine blk_drew ?_ | refine blk_alloc ?_ _)); refine blk_put (cs := #[.int .i64 0, .slice none 0 0]) ?_ 1 _ rfl; (with_reducible repeat (first | refine blk_drewN ?_ _ | refine blk_drew ?_ | refine blk_alloc ?_ _)); refine blk_put (cs := #[.int .i64 0, .slice none 0 0]) ?_ 0 _ rfl; (with_reducible repeat (first | refine blk_drewN ?_ _ | refine blk_drew ?_ | refine blk_alloc ?_ _)); exact BK.out) Try.underlying89 rfl (by kernel_rfl)) rfl ?_
        exact ⟨by rw [cutV, if_pos rfl], (by repeat (first | (with_reducible first | exact HB.out | apply below_alloc | apply pw_below_drewN | apply below_drew1 | refine below_set ?_ GE.out) | exact HB.out))⟩
end Go.Proofs.Ytkfbmplhcigopaa.PPlo
namespace Go.Proofs.Ytkfbmplhcigopaa.PPlo
open Go.RowKit Go.Proofs.YtkfbmplhcigopaaW.PrintWords Go.Proofs.YtkfbmplhcigopaaW.PrintLast Go.Proofs.YtkfbmplhcigopaaW.PrintMore
attribute [local go_sem] max2_int max_two
/-! ### quitrentref01_least: function 80 -/
def quitrentref01_least.l0 : Nat → List Int → List Int → Int → Option (Bool)
  | 0, _, _, _ => none
  | k + 1, x0, x1, x5 => if x5 ≥ 0 then ((quitrentref01_at.f x0 x5).bind fun t152 => ((quitrentref01_at.f x1 x5).bind fun t153 => (if t152 = t153 then (quitrentref01_least.l0 k x0 x1 (wrap64 (x5 - 1))) else ((quitrentref01_at.f x0 x5).bind fun t154 => ((quitrentref01_at.f x1 x5).bind fun t155 => (some (decide (t154 < t155)))))))) else (some false)
def quitrentref01_least.f (k : Nat) (l0 : List Int) (l1 : List Int) : Option (Bool) := quitrentref01_least.l0 k l0 l1 (wrap64 ((mx (l0.length : Int) (l1.length : Int)) - 1))
theorem quitrentref01_least.mono_l : ∀ k, (∀ y0 y1 y2, LeO (quitrentref01_least.l0 k y0 y1 y2) (quitrentref01_least.l0 (k + 1) y0 y1 y2))
  | 0 => fun _ _ _ r h => by simp [quitrentref01_least.l0] at h
  | k + 1 => by
    have ih0 := quitrentref01_least.mono_l k
    · intro y0 y1 y2
      unfold quitrentref01_least.l0
      repeat' first
      | (with_reducible exact ih0 _ _ _)
      | (with_reducible exact LeO.refl _)
      | (with_reducible exact LeO.none _)
      | (with_reducible refine LeO.ite ?_ ?_)
      | (with_reducible refine LeO.bind ?_ (fun _ => ?_))
      | exact ih0 _ _ _
      | exact LeO.none _
      | refine LeO.ite ?_ ?_
      | refine LeO.bind ?_ (fun _ => ?_)
theorem quitrentref01_least.mono : ∀ a0 a1 k, LeO (quitrentref01_least.f k a0 a1) (quitrentref01_least.f (k + 1) a0 a1) := by
  intro a0 a1 k
  have ih0 := quitrentref01_least.mono_l k
  unfold quitrentref01_least.f
  repeat' first
      | (with_reducible exact ih0 _ _ _)
      | (with_reducible exact LeO.refl _)
      | (with_reducible exact LeO.none _)
      | (with_reducible refine LeO.ite ?_ ?_)
      | (with_reducible refine LeO.bind ?_ (fun _ => ?_))
      | exact ih0 _ _ _
      | exact LeO.none _
      | refine LeO.ite ?_ ?_
      | refine LeO.bind ?_ (fun _ => ?_)
set_option maxHeartbeats 8000000 in
set_option maxRecDepth 100000 in
theorem leastC (k : Nat) (A : Option Addr) (c : Nat) (l : List Int) (B : Option Addr) (d : Nat) (m : List Int) (r : Bool) (w : World) (hC : Kd.C (Kd.int .i64) w A l.length l) (hc : l.length ≤ c) (hD : Kd.C (Kd.int .i64) w B m.length m) (hd : m.length ≤ d) (h : quitrentref01_least.f k l m = some r) :
    Calls Try.prog 80 #[.slice A l.length c, .slice B m.length d] w fun e w' => e = .returned (.bool r) ∧ Below w.heap.size w w' := by
  have HR0 := Aside0.mk hC
  have HC0 := Aside0.mk hc
  have HR1 := Aside0.mk hD
  have HC1 := Aside0.mk hd
  have HB := Aside0.mk (Below.refl w.heap.size w)
  have H := h
  unfold quitrentref01_least.f mx at H
  clear h hC hc hD hd
  by_cases c0 : (l.length : Int) < (m.length : Int)
  all_goals
    first
    | rw [if_pos c0] at H
      have c0b0 : decide ((l.length : Int) < (m.length : Int)) = true := decide_eq_true c0
      have c0b1 : decide (l.length < m.length) = true := decide_eq_true (by omega)
      have c0b2 : (l.length < m.length) = True := eq_true (by omega)
    | rw [if_neg c0] at H
      have c0b0 : decide ((l.length : Int) < (m.length : Int)) = false := decide_eq_false c0
      have c0b1 : decide (l.length < m.length) = false := decide_eq_false (by omega)
      have c0b2 : (l.length < m.length) = False := eq_false (by omega)
    have H' := Aside0.mk H
    clear H c0
    go_enter Try.func80, Try.ntmps80
    go_wp2
    go_loopg [5] k (fun kq v5 w' => ∃ (x : Int), v5 = .int .i64 x ∧ Aside0 (quitrentref01_least.l0 kq l m x = some r) ∧ Aside0 (kq ≤ k) ∧ Aside0 (Below w.heap.size w w'))
    case atStart => exact ⟨_, (by first | rfl | (simp; done) | (simp [*]; done)), H', ⟨Nat.le_refl _⟩, ⟨(by repeat (first | (with_reducible first | exact HB.out | apply below_alloc | apply pw_below_drewN | apply below_drew1) | exact HB.out))⟩⟩
    case round =>
      clear H'
      obtain ⟨x, rfl, HA, HK1, HB⟩ := hrel
      cases gk with
      | zero => exact absurd HA.out (by simp [quitrentref01_least.l0])
      | succ k1 =>
        have H := HA.out
        clear HA
        simp only [quitrentref01_least.l0] at H
        by_cases c4 : x ≥ 0
        · rw [if_pos c4] at H
          have c4b0 : decide (0 ≤ x) = true := decide_eq_true c4
          clear c4
          obtain ⟨t1, A5, H⟩ := Option.bind_eq_some_iff.mp H
          obtain ⟨t2, A6, H⟩ := Option.bind_eq_some_iff.mp H
          have HA5 := Aside0.mk A5
          have HA6 := Aside0.mk A6
          clear A5 A6
          by_cases c7 : t1 = t2
          · rw [if_pos c7] at H
            have c7b0 : (t1 == t2) = true := beq_iff_eq.mpr c7
            have c7b1 : (t1 != t2) = false := bne_eq_false_iff_eq.mpr c7
            have H' := Aside0.mk H
            clear c7 H
            go_wp2_with (first | ((with_reducible refine gate_callee (f := 78) rfl ?_); refine goesL_ (some 18) rfl rfl Try.func78 (by kernel_rfl) rfl #[.slice A l.length c, .int .i64 x] rfl (by (try simp only [List.map_toArray, List.map_cons, List.map_nil]); first | done | rfl) ?_; (with_reducible refine (quitrentref01_at.calls _ _ l x t1 _ ?side1 ?side2 HA5.out).mono ?_); (case side1 => repeat (first | exact (Kd.C_below HR0.out (by repeat (first | (with_reducible first | exact HB.out | apply below_alloc | apply pw_below_drewN | apply below_drew1) | exact HB.out))) | (with_reducible refine Kd.C_alloc ?_ _) | (with_reducible refine Kd.C_drewN ?_ _) | (with_reducible refine Kd.C_drew ?_))); (case side2 => exact HC0.out); rintro e w2 ⟨rfl, ⟨nd, rfl⟩⟩; refine ⟨_, rfl, ?_⟩) | ((with_reducible refine gate_callee (f := 78) rfl ?_); refine goesL_ (some 21) rfl rfl Try.func78 (by kernel_rfl) rfl #[.slice B m.length d, .int .i64 x] rfl (by (try simp only [List.map_toArray, List.map_cons, List.map_nil]); first | done | rfl) ?_; (with_reducible refine (quitrentref01_at.calls _ _ m x t2 _ ?side1 ?side2 HA6.out).mono ?_); (case side1 => repeat (first | exact (Kd.C_below HR1.out (by repeat (first | (with_reducible first | exact HB.out | apply below_alloc | apply pw_below_drewN | apply below_drew1) | exact HB.out))) | (with_reducible refine Kd.C_alloc ?_ _) | (with_reducible refine Kd.C_drewN ?_ _) | (with_reducible refine Kd.C_drew ?_))); (case side2 => exact HC1.out); rintro e w2 ⟨rfl, ⟨nd, rfl⟩⟩; refine ⟨_, rfl, ?_⟩))
            go_roundg k1
            case measure => have := HK1.out; omega
            case rel => exact ⟨_, (by first | rfl | (simp; done) | (simp [*]; done)), H', ⟨by have := HK1.out; omega⟩, ⟨(by repeat (first | (with_reducible first | exact HB.out | apply below_alloc | apply pw_below_drewN | apply below_drew1) | exact HB.out))⟩⟩
          · rw [if_neg c7] at H
            have c7b0 : (t1 == t2) = false := beq_eq_false_iff_ne.mpr c7
            have c7b1 : (t1 != t2) = true := bne_iff_ne.mpr c7
            clear c7
            have H2 := H
            rw [HA5.out, Option.bind_some, HA6.out, Option.bind_some] at H2
            have HF := Aside0.mk (Option.some.inj H2)
            clear H H2
            go_wp2_with (first | ((with_reducible refine gate_callee (f := 78) rfl ?_); refine goesL_ (some 18) rfl rfl Try.func78 (by kernel_rfl) rfl #[.slice A l.length c, .int .i64 x] rfl (by (try simp only [List.map_toArray, List.map_cons, List.map_nil]); first | done | rfl) ?_; (with_reducible refine (quitrentref01_at.calls _ _ l x t1 _ ?side1 ?side2 HA5.out).mono ?_); (case side1 => repeat (first | exact (Kd.C_below HR0.out (by repeat (first | (with_reducible first | exact HB.out | apply below_alloc | apply pw_below_drewN | apply below_drew1) | exact HB.out))) | (with_reducible refine Kd.C_alloc ?_ _) | (with_reducible refine Kd.C_drewN ?_ _) | (with_reducible refine Kd.C_drew ?_))); (case side2 => exact HC0.out); rintro e w2 ⟨rfl, ⟨nd, rfl⟩⟩; refine ⟨_, rfl, ?_⟩) | ((with_reducible refine gate_callee (f := 78) rfl ?_); refine goesL_ (some 21) rfl rfl Try.func78 (by kernel_rfl) rfl #[.slice B m.length d, .int .i64 x] rfl (by (try simp only [List.map_toArray, List.map_cons, List.map_nil]); first | done | rfl) ?_; (with_reducible refine (quitrentref01_at.calls _ _ m x t2 _ ?side1 ?side2 HA6.out).mono ?_); (case side1 => repeat (first | exact (Kd.C_below HR1.out (by repeat (first | (with_reducible first | exact HB.out | apply below_alloc | apply pw_below_drewN | apply below_drew1) | exact HB.out))) | (with_reducible refine Kd.C_alloc ?_ _) | (with_reducible refine Kd.C_drewN ?_ _) | (with_reducible refine Kd.C_drew ?_))); (case side2 => exact HC1.out); rintro e w2 ⟨rfl, ⟨nd, rfl⟩⟩; refine ⟨_, rfl, ?_⟩) | ((with_reducible refine gate_callee (f := 78) rfl ?_); refine goesL_ (some 25) rfl rfl Try.func78 (by kernel_rfl) rfl #[.slice A l.length c, .int .i64 x] rfl (by (try simp only [List.map_toArray, List.map_cons, List.map_nil]); first | done | rfl) ?_; (with_reducible refine (quitrentref01_at.calls _ _ l x t1 _ ?side1 ?side2 HA5.out).mono ?_); (case side1 => repeat (first | exact (Kd.C_below HR0.out (by repeat (first | (with_reducible first | exact HB.out | apply below_alloc | apply pw_below_drewN | apply below_drew1) | exact HB.out))) | (with_reducible refine Kd.C_alloc ?_ _) | (with_reducible refine Kd.C_drewN ?_ _) | (with_reducible refine Kd.C_drew ?_))); (case side2 => exact HC0.out); rintro e w2 ⟨rfl, ⟨nd, rfl⟩⟩; refine ⟨_, rfl, ?_⟩) | ((with_reducible refine gate_callee (f := 78) rfl ?_); refine goesL_ (some 28) rfl rfl Try.func78 (by kernel_rfl) rfl #[.slice B m.length d, .int .i64 x] rfl (by (try simp only [List.map_toArray, List.map_cons, List.map_nil]); first | done | rfl) ?_; (with_reducible refine (quitrentref01_at.calls _ _ m x t2 _ ?side1 ?side2 HA6.out).mono ?_); (case side1 => repeat (first | exact (Kd.C_below HR1.out (by repeat (first | (with_reducible first | exact HB.out | apply below_alloc | apply pw_below_drewN | apply below_drew1) | exact HB.out))) | (with_reducible refine Kd.C_alloc ?_ _) | (with_reducible refine Kd.C_drewN ?_ _) | (with_reducible refine Kd.C_drew ?_))); (case side2 => exact HC1.out); rintro e w2 ⟨rfl, ⟨nd, rfl⟩⟩; refine ⟨_, rfl, ?_⟩))
            go_ret
            exact ⟨by rw [← HF.out]; rfl, (by repeat (first | (with_reducible first | exact HB.out | apply below_alloc | apply pw_below_drewN | apply below_drew1) | exact HB.out))⟩
        · rw [if_neg c4] at H
          have c4b0 : decide (0 ≤ x) = false := decide_eq_false c4
          have HF := Aside0.mk (Option.some.inj H)
          clear c4 H
          go_wp2
          go_ret
          exact ⟨by rw [← HF.out]; rfl, (by repeat (first | (with_reducible first | exact HB.out | apply below_alloc | apply pw_below_drewN | apply below_drew1) | exact HB.out))⟩
end Go.Proofs.Ytkfbmplhcigopaa.PPlo
namespace Go.Proofs.Ytkfbmplhcigopaa.PPlo
open Go.RowKit Go.Proofs.YtkfbmplhcigopaaW.PrintWords Go.Proofs.YtkfbmplhcigopaaW.PrintLast Go.Proofs.YtkfbmplhcigopaaW.PrintMore
attribute [local go_sem] max2_int max_two
/-! ### quitrentref01_Of: function 64 -/
def quitrentref01_Of.l0 : Nat → Int → List Int → Int → Option (Int × List Int)
  | 0, _, _, _ => none
  | k + 1, x3, x4, x5 => if x5 = 0 then ((quitrentref01_made.f k x3 x4).bind fun bt189 => (some (bt189.1, bt189.2))) else (if (Int.tmod x5 1000) < 0 then (if x5 < 0 then (if x4.length < 17592186044416 then (quitrentref01_Of.l0 k (-1) (x4 ++ [wrap64 (-(Int.tmod x5 1000))]) (wrap64 (Int.tdiv x5 1000))) else (none)) else (if x4.length < 17592186044416 then (quitrentref01_Of.l0 k (-1) (x4 ++ [wrap64 (-(Int.tmod x5 1000))]) (wrap64 (Int.tdiv x5 1000))) else (none))) else (if x5 < 0 then (if x4.length < 17592186044416 then (quitrentref01_Of.l0 k (-1) (x4 ++ [Int.tmod x5 1000]) (wrap64 (Int.tdiv x5 1000))) else (none)) else (if x4.length < 17592186044416 then (quitrentref01_Of.l0 k x3 (x4 ++ [Int.tmod x5 1000]) (wrap64 (Int.tdiv x5 1000))) else (none))))
def quitrentref01_Of.f (k : Nat) (a0 : Int) : Option (Int × List Int) := quitrentref01_Of.l0 k 1 (([] : List Int)) a0
theorem quitrentref01_Of.mono_l : ∀ k, (∀ y0 y1 y2, LeO (quitrentref01_Of.l0 k y0 y1 y2) (quitrentref01_Of.l0 (k + 1) y0 y1 y2))
  | 0 => fun _ _ _ r h => by simp [quitrentref01_Of.l0] at h
  | k + 1 => by
    have ih0 := quitrentref01_Of.mono_l k
    · intro y0 y1 y2
      unfold quitrentref01_Of.l0
      repeat' first
      | (with_reducible exact ih0 _ _ _)
      | (with_reducible exact quitrentref01_made.mono _ _ _)
      | (with_reducible exact LeO.refl _)
      | (with_reducible exact LeO.none _)
      | (with_reducible refine LeO.ite ?_ ?_)
      | (with_reducible refine LeO.bind ?_ (fun _ => ?_))
      | exact ih0 _ _ _
      | exact quitrentref01_made.mono _ _ _
      | exact LeO.none _
      | refine LeO.ite ?_ ?_
      | refine LeO.bind ?_ (fun _ => ?_)
theorem quitrentref01_Of.mono : ∀ a0 k, LeO (quitrentref01_Of.f k a0) (quitrentref01_Of.f (k + 1) a0) := by
  intro a0 k
  have ih0 := quitrentref01_Of.mono_l k
  unfold quitrentref01_Of.f
  repeat' first
      | (with_reducible exact ih0 _ _ _)
      | (with_reducible exact quitrentref01_made.mono _ _ _)
      | (with_reducible exact LeO.refl _)
      | (with_reducible exact LeO.none _)
      | (with_reducible refine LeO.ite ?_ ?_)
      | (with_reducible refine LeO.bind ?_ (fun _ => ?_))
      | exact ih0 _ _ _
      | exact quitrentref01_made.mono _ _ _
      | exact LeO.none _
      | refine LeO.ite ?_ ?_
      | refine LeO.bind ?_ (fun _ => ?_)
/-- A block of whole numbers. -/
def ty3 (w : World) (k : Nat) : Prop := ∃ cells, w.heap[k]? = some (.cells cells 3 (0, 0))
/-- Digits that are read; they lie in a block of whole numbers. -/
def DT (w : World) (A : Option Addr) (l : List Int) : Prop := Kd.F (Kd.int .i64) w (ty3 w) A l.length l
theorem DT.now {w : World} {A : Option Addr} {l : List Int} (h : DT w A l) : Kd.C (Kd.int .i64) w A l.length l := Kd.F_now h
theorem DT.below {w w1 : World} {A : Option Addr} {l : List Int} (h : DT w A l) (hb : Below w.heap.size w w1) : DT w1 A l :=
  Kd.F_mono (Kd.F_below h hb) fun k ⟨c, hc⟩ => ⟨c, blk_below hc hb⟩
theorem DT.set {w : World} {A : Option Addr} {l : List Int} {g t : Nat} {cells : Array Value} (h : DT w A l) (hg : w.heap[g]? = some (.cells cells t (0, 0))) (ht : 3 ≠ t) (j : Nat) (u : Value) : DT (w.setCell ⟨g, j, none⟩ u) A l := by
  have hne : ∀ k, ty3 w k → k ≠ g := by
    rintro k ⟨c, hc⟩ rfl
    rw [hc] at hg
    injection hg with hg
    injection hg with _ hg
    exact ht hg
  exact Kd.F_mono (Kd.F_far (p := ⟨g, j, none⟩) h hne u) fun k hk => by
    obtain ⟨c, hc⟩ := hk
    exact ⟨c, (Below.heap_setCell w ⟨g, j, none⟩ u k (hne k ⟨c, hc⟩)).trans hc⟩
theorem DT.nil (w : World) : DT w none [] := Kd.F_nil _ _ _
theorem DT.ofR {w : World} {A : Option Addr} {l : List Int} {base n c : Nat} {ok : Nat → Prop} (h : Kd.R (Kd.int .i64) 3 w base ok (.slice A n c) l) : DT w A l := by
  have hn := (Kd.R_reads' h).1
  subst hn
  refine Kd.F_mono (Kd.R_F (Kd.R_bound h)) fun k hk => ?_
  obtain ⟨_, _, _, q, hq, cells, hc⟩ := hk
  have : q = 3 := by simpa [Kd.int, Kd.scalar] using hq
  subst this
  exact ⟨cells, hc⟩
/-- A number of digits, as a value. -/
def XV (w : World) (v : Value) (s : Int) (l : List Int) : Prop := ∃ A c, v = .agg #[.int .i64 s, .slice A l.length c] ∧ l.length ≤ c ∧ DT w A l
theorem cutV_slice (A : Option Addr) (c : Nat) (l : List Int) : ∃ A1 c1, cutV A c l = .slice A1 l.length c1 := by
  unfold cutV
  split
  · rename_i h; exact ⟨none, 0, by rw [h]; rfl⟩
  · exact ⟨A, c, rfl⟩
/-- What made leaves of a row is a number of digits. -/
theorem XV_cut {w : World} {A : Option Addr} {c : Nat} {l l1 : List Int} {s1 : Int} (hC : DT w A l) (hc : l.length ≤ c) (h : l1 = [] ∨ ∃ n, l1 = l.take n) : XV w (.agg #[.int .i64 s1, cutV A c l1]) s1 l1 := by
  by_cases h0 : l1 = []
  · subst h0
    exact ⟨none, 0, by rw [cutV, if_pos rfl]; rfl, by simp, DT.nil w⟩
  · obtain ⟨n, rfl⟩ := h.resolve_left h0
    refine ⟨A, c, by rw [cutV, if_neg h0], by rw [List.length_take]; omega, ?_⟩
    by_cases hn : n ≤ l.length
    · exact Kd.F_take hC hn
    · rw [List.take_of_length_le (by omega)]; exact hC
theorem made_part : ∀ (k : Nat) (s : Int) (l : List Int) (s1 : Int) (l1 : List Int), quitrentref01_made.l0 k s l = some (s1, l1) → l1 = [] ∨ ∃ n, l1 = l.take n
  | 0, _, _, _, _, h => by simp [quitrentref01_made.l0] at h
  | k + 1, s, l, s1, l1, h => by
    have fin : (if (l.length : Int) = 0 then (some ((0 : Int), ([] : List Int))) else some (s, l)) = some (s1, l1) → l1 = [] ∨ ∃ n, l1 = l.take n := by
      intro h
      split at h
      · simp only [Option.some.injEq, Prod.mk.injEq] at h; exact .inl h.2.symm
      · simp only [Option.some.injEq, Prod.mk.injEq] at h; exact .inr ⟨l.length, by rw [List.take_length]; exact h.2.symm⟩
    simp only [quitrentref01_made.l0] at h
    split at h
    · split at h
      · split at h
        · split at h
          · split at h
            · rcases made_part k s _ s1 l1 h with h | ⟨n, h⟩
              · exact .inl h
              · exact .inr ⟨_, by rw [h, List.take_take]⟩
            · cases h
          · exact fin h
        · cases h
      · cases h
    · exact fin h
set_option maxHeartbeats 8000000 in
set_option maxRecDepth 100000 in
theorem ofC (k : Nat) (n : Int) (s1 : Int) (l1 : List Int) (w : World) (h : quitrentref01_Of.f k n = some (s1, l1)) :
    Calls Try.prog 64 #[.int .i64 n] w fun e w' => ∃ v, e = .returned v ∧ XV w' v s1 l1 ∧ Below w.heap.size w w' := by
  have hu89 := Try.underlying89
  have HB := Aside0.mk (Below.refl w.heap.size w)
  have H' := Aside0.mk (show quitrentref01_Of.l0 k 1 [] n = some (s1, l1) from h)
  clear h
  go_enter Try.func64, Try.ntmps64
  go_wp2_with (first | ((with_reducible refine gate_dst (N := 2) rfl ?_); refine box_event ?hg (N := 2) ?hd (cs := #[.int .i64 0, .slice none 0 0]) (t := 89) ?hr ?_; (case hd => rfl); (case hg => rfl); (case hr => first | (go_simp; done) | (go_simp; rfl)); intro gb hg wb hbox hb; have n_e := Aside0.mk ((by rw [hg]; exact (below_size HB.out)) : w.heap.size ≤ gb); have n_b := Aside0.mk (below_step HB.out hb); have n_k := Aside0.mk hbox; clear HB; have HB := n_b; have GE := n_e; have BK := n_k; clear n_e n_b n_k hb hbox hg) | ((with_reducible refine gate_dst (N := 7) rfl ?_); refine Kd.R_lit (Kd.int .i64) _ 3 ?hg (N := 7) ?hd (xs := ([] : List Int)) (inner := []) (ok := fun _ => True) (okp := fun _ => True) ?hr ?hp (fun _ hk => hk) trivial (Below.refl _ _) (Nat.le_refl _) (by simp) ?_; (case hd => rfl); (case hg => rfl); (case hr => first | (go_simp; done) | (go_simp; rfl)); (case hp => exact (Reps.none _ _)); intro vl wl ho4 hb hg_ hnew_; clear hg_ hnew_; have n_o := Aside0.mk (Kd.R_lower ho4 (below_size HB.out)); have n_BK := Aside0.mk (blk_below BK.out hb); have n_b := Aside0.mk (below_step HB.out hb); clear BK; have BK := n_BK; clear n_BK; clear HB; have HB := n_b; have HO := n_o; clear n_b n_o hb ho4))
  go_loopg [3, 4, 5] k (fun kq v3 v4 v5 w' => ∃ (s : Int) (l : List Int) (x : Int), v3 = .int .i64 s ∧ v5 = .int .i64 x ∧ Aside0 (quitrentref01_Of.l0 kq s l x = some (s1, l1)) ∧ Aside0 (kq ≤ k) ∧ Aside0 (Kd.R (Kd.int .i64) 3 w' w.heap.size (fun _ => True) v4 l) ∧ Aside0 (w.heap.size ≤ gb) ∧ Aside0 (w'.heap[gb]? = some (.cells #[.int .i64 0, (.slice none 0 0)] 89 (0, 0))) ∧ Aside0 (Below w.heap.size w w'))
  case atStart => exact ⟨1, [], n, (by first | rfl | (simp; done) | (simp [*]; done)), (by first | rfl | (simp; done) | (simp [*]; done)), H', ⟨Nat.le_refl _⟩, ⟨(by (with_reducible repeat (first | apply Kd.R_alloc | apply Kd.R_drewN | apply Kd.R_drew)); exact HO.out)⟩, GE, ⟨(by (with_reducible repeat (first | refine blk_drewN ?_ _ | refine blk_drew ?_ | refine blk_alloc ?_ _)); exact BK.out)⟩, ⟨(by repeat (first | (with_reducible first | exact HB.out | apply below_alloc | apply pw_below_drewN | apply below_drew1 | refine below_set ?_ GE.out) | exact HB.out))⟩⟩
  case round =>
    clear H'
    obtain ⟨s, l, x, rfl, rfl, HA, HK1, HO, GE, BK, HB⟩ := hrel
    cases gk with
    | zero => exact absurd HA.out (by simp [quitrentref01_Of.l0])
    | succ k1 =>
      have H := HA.out
      clear HA
      simp only [quitrentref01_Of.l0] at H
      by_cases c5 : x = 0
      · rw [if_pos c5] at H
        have c5b0 : (x == 0) = true := beq_iff_eq.mpr c5
        have c5b1 : (x != 0) = false := bne_eq_false_iff_eq.mpr c5
        clear c5
        obtain ⟨⟨t1, t2⟩, A6, H⟩ := Option.bind_eq_some_iff.mp H
        simp only [Option.some.injEq, Prod.mk.injEq] at H
        obtain ⟨rfl, rfl⟩ := H
        have HA6 := Aside0.mk A6
        clear A6
        obtain ⟨A, c, e4⟩ := Kd.R_slice HO.out
        subst e4
        go_wp2_with (first | ((with_reducible refine gate_callee (f := 79) rfl ?_); refine goesL_ (some 27) rfl rfl Try.func79 (by kernel_rfl) rfl #[.int .i64 s, .slice A l.length c] rfl (by (try simp only [List.map_toArray, List.map_cons, List.map_nil]); first | done | rfl) ?_; (with_reducible refine (madeC _ s _ _ l t1 t2 _ ?side1 ?side2 HA6.out).mono ?_); (case side1 => exact (Kd.R_reads' HO.out).2.2); (case side2 => exact (Kd.R_reads' HO.out).2.1); rintro e w2 ⟨rfl, hb⟩; refine ⟨_, rfl, ?_⟩; have n_o := Aside0.mk (Kd.R_below HO.out hb); have n_BK := Aside0.mk (blk_below BK.out hb); have n_b := Aside0.mk (below_step HB.out hb); clear BK; have BK := n_BK; clear n_BK; clear HB HO; have HB := n_b; have HO := n_o; clear n_b n_o hb; have hczBK0 : w2.cell? ⟨gb, 0, none⟩ = some (.int .i64 0) := (blk_cell BK.out 0).trans rfl; have hczBK1 : w2.cell? ⟨gb, 1, none⟩ = some (.slice none 0 0) := (blk_cell BK.out 1).trans rfl; have hfzBK0 := blk_frozen BK.out 0; have hfzBK1 := blk_frozen BK.out 1; (obtain ⟨Av, cv_, ev⟩ := cutV_slice A c t2; rw [ev])))
        refine bodyPost_ret (results_cell_row rfl _ _ gb 89 #[.int .i64 t1, .slice Av t2.length cv_] (0, 0) _ rfl (by (with_reducible repeat (first | refine blk_drewN ?_ _ | refine blk_drew ?_ | refine blk_alloc ?_ _)); refine blk_put (cs := #[.int .i64 t1, .slice none 0 0]) ?_ 1 _ rfl; (with_reducible repeat (first | refine blk_drewN ?_ _ | refine blk_drew ?_ | refine blk_alloc ?_ _)); refine blk_put (cs := #[.int .i64 0, .slice none 0 0]) ?_ 0 _ rfl; (with_reducible repeat (first | refine blk_drewN ?_ _ | refine blk_drew ?_ | refine blk_alloc ?_ _)); exact BK.out) Try.underlying89 rfl (by kernel_rfl)) rfl ?_
        refine ⟨_, rfl, ?_, (by repeat (first | (with_reducible first | exact HB.out | apply below_alloc | apply pw_below_drewN | apply below_drew1 | refine below_set ?_ GE.out) | exact HB.out))⟩
        have hR := Kd.R_set (Kd.R_set HO.out BK.out (by decide) 0 (.int .i64 t1)) (t := 89) (blk_put BK.out 0 (.int .i64 t1) rfl) (by decide) 1 (.slice Av t2.length cv_)
        have hX := XV_cut (s1 := t1) (DT.ofR hR) (Kd.R_reads' hR).2.1 (made_part _ _ _ _ _ HA6.out)
        rw [ev] at hX
        exact hX
      · rw [if_neg c5] at H
        have c5b0 : (x == 0) = false := beq_eq_false_iff_ne.mpr c5
        have c5b1 : (x != 0) = true := bne_iff_ne.mpr c5
        clear c5
        by_cases c12 : x < 0
        · have c12b0 : decide (x < 0) = true := decide_eq_true c12
          by_cases c11 : (Int.tmod x 1000) < 0
          · have c11b0 : decide ((Int.tmod x 1000) < 0) = true := decide_eq_true c11
            rw [if_pos c11, if_pos c12] at H
            clear c11 c12
            by_cases c13 : l.length < 17592186044416
            · rw [if_pos c13] at H
              have HL := Aside0.mk c13
              have H' := Aside0.mk H
              clear c13 H
              go_wp2_with (first | ((with_reducible refine gate_builtin (b := .append) (xs := #[.tmp 21, .tmp 23]) rfl ?_); at_builtin; refine Kd.R_append (Kd.int .i64) (w0 := w) w.heap.size rfl (.tmp 21) (.tmp 23) 85 3 (.int .i64 0) 8 rfl Try.underlying85 info3 rfl (by decide) (by omega) u4 l (wrap64 (-(Int.tmod x 1000))) [.int .i64 (wrap64 (-(Int.tmod x 1000)))] (fun _ => True) (fun _ => False) rfl rfl ?aP (fun _ hk => hk.elim) (fun _ _ => trivial) ?aO ?aB ?aS ?aL ?_; (case aP => exact rfl); (case aB => exact (by repeat (first | (with_reducible first | exact HB.out | apply below_alloc | apply pw_below_drewN | apply below_drew1 | refine below_set ?_ GE.out) | exact HB.out))); (case aO => exact (by (with_reducible repeat (first | apply Kd.R_alloc | apply Kd.R_drewN | apply Kd.R_drew)); exact HO.out)); (case aS => exact (below_size (by repeat (first | (with_reducible first | exact HB.out | apply below_alloc | apply pw_below_drewN | apply below_drew1 | refine below_set ?_ GE.out) | exact HB.out)))); (case aL => have := HL.out; omega); intro va wa ho hb hg hat; have n_BK := Aside0.mk (blk_grown (by (with_reducible repeat (first | refine blk_drewN ?_ _ | refine blk_drew ?_ | refine blk_alloc ?_ _)); exact BK.out) hg (Kd.R_ne HO.out BK.out (by decide))); have n_b := Aside0.mk hb; have n_o := Aside0.mk ho; clear BK; have BK := n_BK; clear n_BK; clear HB HO; have HB := n_b; have HO := n_o; clear n_b n_o ho hb hg hat))
              go_roundg k1
              case measure => have := HK1.out; omega
              case rel => exact ⟨-1, _, _, (by first | rfl | (simp; done) | (simp [*]; done)), (by first | rfl | (simp; done) | (simp [*]; done)), H', ⟨by have := HK1.out; omega⟩, ⟨(by (with_reducible repeat (first | apply Kd.R_alloc | apply Kd.R_drewN | apply Kd.R_drew)); exact HO.out)⟩, GE, ⟨(by (with_reducible repeat (first | refine blk_drewN ?_ _ | refine blk_drew ?_ | refine blk_alloc ?_ _)); exact BK.out)⟩, ⟨(by repeat (first | (with_reducible first | exact HB.out | apply below_alloc | apply pw_below_drewN | apply below_drew1 | refine below_set ?_ GE.out) | exact HB.out))⟩⟩
            · rw [if_neg c13] at H
              exact absurd H (by simp)
          · have c11b0 : decide ((Int.tmod x 1000) < 0) = false := decide_eq_false c11
            rw [if_neg c11, if_pos c12] at H
            clear c11 c12
            by_cases c13 : l.length < 17592186044416
            · rw [if_pos c13] at H
              have HL := Aside0.mk c13
              have H' := Aside0.mk H
              clear c13 H
              go_wp2_with (first | ((with_reducible refine gate_builtin (b := .append) (xs := #[.tmp 21, .tmp 23]) rfl ?_); at_builtin; refine Kd.R_append (Kd.int .i64) (w0 := w) w.heap.size rfl (.tmp 21) (.tmp 23) 85 3 (.int .i64 0) 8 rfl Try.underlying85 info3 rfl (by decide) (by omega) u4 l (Int.tmod x 1000) [.int .i64 (Int.tmod x 1000)] (fun _ => True) (fun _ => False) rfl rfl ?aP (fun _ hk => hk.elim) (fun _ _ => trivial) ?aO ?aB ?aS ?aL ?_; (case aP => exact rfl); (case aB => exact (by repeat (first | (with_reducible first | exact HB.out | apply below_alloc | apply pw_below_drewN | apply below_drew1 | refine below_set ?_ GE.out) | exact HB.out))); (case aO => exact (by (with_reducible repeat (first | apply Kd.R_alloc | apply Kd.R_drewN | apply Kd.R_drew)); exact HO.out)); (case aS => exact (below_size (by repeat (first | (with_reducible first | exact HB.out | apply below_alloc | apply pw_below_drewN | apply below_drew1 | refine below_set ?_ GE.out) | exact HB.out)))); (case aL => have := HL.out; omega); intro va wa ho hb hg hat; have n_BK := Aside0.mk (blk_grown (by (with_reducible repeat (first | refine blk_drewN ?_ _ | refine blk_drew ?_ | refine blk_alloc ?_ _)); exact BK.out) hg (Kd.R_ne HO.out BK.out (by decide))); have n_b := Aside0.mk hb; have n_o := Aside0.mk ho; clear BK; have BK := n_BK; clear n_BK; clear HB HO; have HB := n_b; have HO := n_o; clear n_b n_o ho hb hg hat))
              go_roundg k1
              case measure => have := HK1.out; omega
              case rel => exact ⟨-1, _, _, (by first | rfl | (simp; done) | (simp [*]; done)), (by first | rfl | (simp; done) | (simp [*]; done)), H', ⟨by have := HK1.out; omega⟩, ⟨(by (with_reducible repeat (first | apply Kd.R_alloc | apply Kd.R_drewN | apply Kd.R_drew)); exact HO.out)⟩, GE, ⟨(by (with_reducible repeat (first | refine blk_drewN ?_ _ | refine blk_drew ?_ | refine blk_alloc ?_ _)); exact BK.out)⟩, ⟨(by repeat (first | (with_reducible first | exact HB.out | apply below_alloc | apply pw_below_drewN | apply below_drew1 | refine below_set ?_ GE.out) | exact HB.out))⟩⟩
            · rw [if_neg c13] at H
              exact absurd H (by simp)
        · have c12b0 : decide (x < 0) = false := decide_eq_false c12
          have c11 : ¬ (Int.tmod x 1000) < 0 := by have := Int.tmod_nonneg 1000 (show 0 ≤ x by omega); omega
          have c11b0 : decide ((Int.tmod x 1000) < 0) = false := decide_eq_false c11
          rw [if_neg c11, if_neg c12] at H
          clear c11 c12
          by_cases c13 : l.length < 17592186044416
          · rw [if_pos c13] at H
            have HL := Aside0.mk c13
            have H' := Aside0.mk H
            clear c13 H
            go_wp2_with (first | ((with_reducible refine gate_builtin (b := .append) (xs := #[.tmp 21, .tmp 23]) rfl ?_); at_builtin; refine Kd.R_append (Kd.int .i64) (w0 := w) w.heap.size rfl (.tmp 21) (.tmp 23) 85 3 (.int .i64 0) 8 rfl Try.underlying85 info3 rfl (by decide) (by omega) u4 l (Int.tmod x 1000) [.int .i64 (Int.tmod x 1000)] (fun _ => True) (fun _ => False) rfl rfl ?aP (fun _ hk => hk.elim) (fun _ _ => trivial) ?aO ?aB ?aS ?aL ?_; (case aP => exact rfl); (case aB => exact (by repeat (first | (with_reducible first | exact HB.out | apply below_alloc | apply pw_below_drewN | apply below_drew1 | refine below_set ?_ GE.out) | exact HB.out))); (case aO => exact (by (with_reducible repeat (first | apply Kd.R_alloc | apply Kd.R_drewN | apply Kd.R_drew)); exact HO.out)); (case aS => exact (below_size (by repeat (first | (with_reducible first | exact HB.out | apply below_alloc | apply pw_below_drewN | apply below_drew1 | refine below_set ?_ GE.out) | exact HB.out)))); (case aL => have := HL.out; omega); intro va wa ho hb hg hat; have n_BK := Aside0.mk (blk_grown (by (with_reducible repeat (first | refine blk_drewN ?_ _ | refine blk_drew ?_ | refine blk_alloc ?_ _)); exact BK.out) hg (Kd.R_ne HO.out BK.out (by decide))); have n_b := Aside0.mk hb; have n_o := Aside0.mk ho; clear BK; have BK := n_BK; clear n_BK; clear HB HO; have HB := n_b; have HO := n_o; clear n_b n_o ho hb hg hat))
            go_roundg k1
            case measure => have := HK1.out; omega
            case rel => exact ⟨s, _, _, (by first | rfl | (simp; done) | (simp [*]; done)), (by first | rfl | (simp; done) | (simp [*]; done)), H', ⟨by have := HK1.out; omega⟩, ⟨(by (with_reducible repeat (first | apply Kd.R_alloc | apply Kd.R_drewN | apply Kd.R_drew)); exact HO.out)⟩, GE, ⟨(by (with_reducible repeat (first | refine blk_drewN ?_ _ | refine blk_drew ?_ | refine blk_alloc ?_ _)); exact BK.out)⟩, ⟨(by repeat (first | (with_reducible first | exact HB.out | apply below_alloc | apply pw_below_drewN | apply below_drew1 | refine below_set ?_ GE.out) | exact HB.out))⟩⟩
          · rw [if_neg c13] at H
            exact absurd H (by simp)
end Go.Proofs.Ytkfbmplhcigopaa.PPlo
namespace Go.Proofs.Ytkfbmplhcigopaa.PPlo
open Go.RowKit Go.Proofs.YtkfbmplhcigopaaW.PrintWords Go.Proofs.YtkfbmplhcigopaaW.PrintLast Go.Proofs.YtkfbmplhcigopaaW.PrintMore
attribute [local go_sem] max2_int max_two
/-! ### quitrentref01_Plus: function 63 -/
mutual
def quitrentref01_Plus.l0 : Nat → List Int → Int → Int → Int → List Int → Int → List Int → Option (Int × List Int)
  | 0, _, _, _, _, _, _, _ => none
  | k + 1, x5, x6, x7, x157000, x157001, x158000, x158001 => if x7 ≤ (mx (x157001.length : Int) (x158001.length : Int)) then ((quitrentref01_at.f x157001 x7).bind fun t162 => ((quitrentref01_at.f x158001 x7).bind fun t163 => (if x5.length < 17592186044416 then (quitrentref01_Plus.l0 k (x5 ++ [Int.tmod (wrap64 ((wrap64 (t162 + t163)) + x6)) 1000]) (wrap64 (Int.tdiv (wrap64 ((wrap64 (t162 + t163)) + x6)) 1000)) (wrap64 (x7 + 1)) x157000 x157001 x158000 x158001) else (none)))) else ((quitrentref01_made.f k x157000 x5).bind fun bt167 => (some (bt167.1, bt167.2)))
def quitrentref01_Plus.l1 : Nat → List Int → Int → Int → Int → List Int → Int → List Int → Option (Int × List Int)
  | 0, _, _, _, _, _, _, _ => none
  | k + 1, x5, x9, x10, x157000, x157001, x158000, x158001 => if x10 < (x157001.length : Int) then (if 0 ≤ x10 then ((quitrentref01_at.f x158001 x10).bind fun t177 => (if x5.length < 17592186044416 then (quitrentref01_Plus.l1 k (x5 ++ [Int.tmod (wrap64 ((wrap64 ((wrap64 (1000 + (rd x157001 x10))) - t177)) - x9)) 1000]) (wrap64 (1 - (wrap64 (Int.tdiv (wrap64 ((wrap64 ((wrap64 (1000 + (rd x157001 x10))) - t177)) - x9)) 1000)))) (wrap64 (x10 + 1)) x157000 x157001 x158000 x158001) else (none))) else (none)) else ((quitrentref01_made.f k x157000 x5).bind fun bt181 => (some (bt181.1, bt181.2)))
def quitrentref01_Plus.f : Nat → Int → List Int → Int → List Int → Option (Int × List Int)
  | 0, _, _, _, _ => none
  | k + 1, a0_0, l0_1, a1_0, l1_1 => if a0_0 = 0 then (some (a1_0, l1_1)) else (if a1_0 = 0 then (some (a0_0, l0_1)) else ((some (([] : List Int) : List Int)).bind fun y159 => (if a0_0 = a1_0 then (quitrentref01_Plus.l0 k y159 0 0 a0_0 l0_1 a1_0 l1_1) else ((quitrentref01_least.f k l0_1 l1_1).bind fun t171 => (if t171 = true then ((quitrentref01_Plus.f k a1_0 l1_1 a0_0 l0_1).bind fun bt172 => (some (bt172.1, bt172.2))) else (quitrentref01_Plus.l1 k y159 0 0 a0_0 l0_1 a1_0 l1_1))))))
end
theorem quitrentref01_Plus.mono_l : ∀ k, (∀ y0 y1 y2 y3, LeO (quitrentref01_Plus.f k y0 y1 y2 y3) (quitrentref01_Plus.f (k + 1) y0 y1 y2 y3)) ∧ (∀ y0 y1 y2 y3 y4 y5 y6, LeO (quitrentref01_Plus.l0 k y0 y1 y2 y3 y4 y5 y6) (quitrentref01_Plus.l0 (k + 1) y0 y1 y2 y3 y4 y5 y6)) ∧ (∀ y0 y1 y2 y3 y4 y5 y6, LeO (quitrentref01_Plus.l1 k y0 y1 y2 y3 y4 y5 y6) (quitrentref01_Plus.l1 (k + 1) y0 y1 y2 y3 y4 y5 y6))
  | 0 => ⟨fun _ _ _ _ r h => by simp [quitrentref01_Plus.f] at h, fun _ _ _ _ _ _ _ r h => by simp [quitrentref01_Plus.l0] at h, fun _ _ _ _ _ _ _ r h => by simp [quitrentref01_Plus.l1] at h⟩
  | k + 1 => by
    obtain ⟨ih0, ih1, ih2⟩ := quitrentref01_Plus.mono_l k
    refine ⟨?_, ?_, ?_⟩
    · intro y0 y1 y2 y3
      unfold quitrentref01_Plus.f
      repeat' first
      | (with_reducible exact ih0 _ _ _ _)
      | (with_reducible exact ih1 _ _ _ _ _ _ _)
      | (with_reducible exact ih2 _ _ _ _ _ _ _)
      | (with_reducible exact quitrentref01_least.mono _ _ _)
      | (with_reducible exact quitrentref01_made.mono _ _ _)
      | (with_reducible exact LeO.refl _)
      | (with_reducible exact LeO.none _)
      | (with_reducible refine LeO.ite ?_ ?_)
      | (with_reducible refine LeO.bind ?_ (fun _ => ?_))
      | exact ih0 _ _ _ _
      | exact ih1 _ _ _ _ _ _ _
      | exact ih2 _ _ _ _ _ _ _
      | exact quitrentref01_least.mono _ _ _
      | exact quitrentref01_made.mono _ _ _
      | exact LeO.none _
      | refine LeO.ite ?_ ?_
      | refine LeO.bind ?_ (fun _ => ?_)
    · intro y0 y1 y2 y3 y4 y5 y6
      unfold quitrentref01_Plus.l0
      repeat' first
      | (with_reducible exact ih0 _ _ _ _)
      | (with_reducible exact ih1 _ _ _ _ _ _ _)
      | (with_reducible exact ih2 _ _ _ _ _ _ _)
      | (with_reducible exact quitrentref01_least.mono _ _ _)
      | (with_reducible exact quitrentref01_made.mono _ _ _)
      | (with_reducible exact LeO.refl _)
      | (with_reducible exact LeO.none _)
      | (with_reducible refine LeO.ite ?_ ?_)
      | (with_reducible refine LeO.bind ?_ (fun _ => ?_))
      | exact ih0 _ _ _ _
      | exact ih1 _ _ _ _ _ _ _
      | exact ih2 _ _ _ _ _ _ _
      | exact quitrentref01_least.mono _ _ _
      | exact quitrentref01_made.mono _ _ _
      | exact LeO.none _
      | refine LeO.ite ?_ ?_
      | refine LeO.bind ?_ (fun _ => ?_)
    · intro y0 y1 y2 y3 y4 y5 y6
      unfold quitrentref01_Plus.l1
      repeat' first
      | (with_reducible exact ih0 _ _ _ _)
      | (with_reducible exact ih1 _ _ _ _ _ _ _)
      | (with_reducible exact ih2 _ _ _ _ _ _ _)
      | (with_reducible exact quitrentref01_least.mono _ _ _)
      | (with_reducible exact quitrentref01_made.mono _ _ _)
      | (with_reducible exact LeO.refl _)
      | (with_reducible exact LeO.none _)
      | (with_reducible refine LeO.ite ?_ ?_)
      | (with_reducible refine LeO.bind ?_ (fun _ => ?_))
      | exact ih0 _ _ _ _
      | exact ih1 _ _ _ _ _ _ _
      | exact ih2 _ _ _ _ _ _ _
      | exact quitrentref01_least.mono _ _ _
      | exact quitrentref01_made.mono _ _ _
      | exact LeO.none _
      | refine LeO.ite ?_ ?_
      | refine LeO.bind ?_ (fun _ => ?_)
theorem quitrentref01_Plus.mono : ∀ a0 a1 a2 a3 k, LeO (quitrentref01_Plus.f k a0 a1 a2 a3) (quitrentref01_Plus.f (k + 1) a0 a1 a2 a3) := by
  intro a0 a1 a2 a3 k
  obtain ⟨ih0, ih1, ih2⟩ := quitrentref01_Plus.mono_l k
  exact ih0 a0 a1 a2 a3
set_option maxHeartbeats 8000000 in
set_option maxRecDepth 100000 in
theorem plus_a0 (sa : Int) (la : List Int) (A : Option Addr) (c : Nat) (sb : Int) (lb : List Int) (B : Option Addr) (d : Nat) (s1 : Int) (l1 : List Int) (w : World) (hA : DT w A la) (hc : la.length ≤ c) (hB : DT w B lb) (hd : lb.length ≤ d) (h0 : sa = 0) (h1 : s1 = sb) (h2 : l1 = lb) :
    Calls Try.prog 63 #[.agg #[.int .i64 sa, .slice A la.length c], .agg #[.int .i64 sb, .slice B lb.length d]] w fun e w' => ∃ v, e = .returned v ∧ XV w' v s1 l1 ∧ Below w.heap.size w w' := by
  have hu89 := Try.underlying89
  have HDa := Aside0.mk hA
  have HDb := Aside0.mk hB
  have HRa := Aside0.mk hA.now
  have HCa := Aside0.mk hc
  have HRb := Aside0.mk hB.now
  have HCb := Aside0.mk hd
  have HB := Aside0.mk (Below.refl w.heap.size w)
  clear hA hc hB hd
  have c00 : (sa == 0) = true := beq_iff_eq.mpr h0
  have c01 : (sa != 0) = false := bne_eq_false_iff_eq.mpr h0
  subst h1 h2
  clear h0
  go_enter Try.func63, Try.ntmps63
  go_wp2_with (first | ((with_reducible refine gate_dst (N := 2) rfl ?_); refine box_event ?hg (N := 2) ?hd (cs := #[.int .i64 sa, .slice A la.length c]) (t := 89) ?hr ?_; (case hd => rfl); (case hg => rfl); (case hr => first | (go_simp; done) | (go_simp; rfl)); intro ga hg wb hbox hb; have n_e := Aside0.mk ((by rw [hg]; exact (below_size HB.out)) : w.heap.size ≤ ga); have n_b := Aside0.mk (below_step HB.out hb); have n_k := Aside0.mk hbox; clear HB; have HB := n_b; have GEa := n_e; have BKa := n_k; clear n_e n_b n_k hb hbox hg) | ((with_reducible refine gate_dst (N := 3) rfl ?_); refine box_event ?hg (N := 3) ?hd (cs := #[.int .i64 s1, .slice B l1.length d]) (t := 89) ?hr ?_; (case hd => rfl); (case hg => rfl); (case hr => first | (go_simp; done) | (go_simp; rfl)); intro gb hg wb hbox hb; have n_BKa := Aside0.mk (blk_below BKa.out hb); have n_e := Aside0.mk ((by rw [hg]; exact (below_size HB.out)) : w.heap.size ≤ gb); have n_b := Aside0.mk (below_step HB.out hb); have n_k := Aside0.mk hbox; clear BKa; have BKa := n_BKa; clear n_BKa; clear HB; have HB := n_b; have GEb := n_e; have BKb := n_k; clear n_e n_b n_k hb hbox hg) | ((with_reducible refine gate_dst (N := 4) rfl ?_); refine box_event ?hg (N := 4) ?hd (cs := #[.int .i64 0, .slice none 0 0]) (t := 89) ?hr ?_; (case hd => rfl); (case hg => rfl); (case hr => first | (go_simp; done) | (go_simp; rfl)); intro gc hg wb hbox hb; have n_BKa := Aside0.mk (blk_below BKa.out hb); have n_BKb := Aside0.mk (blk_below BKb.out hb); have n_e := Aside0.mk ((by rw [hg]; exact (below_size HB.out)) : w.heap.size ≤ gc); have n_b := Aside0.mk (below_step HB.out hb); have n_k := Aside0.mk hbox; clear BKa; have BKa := n_BKa; clear n_BKa; clear BKb; have BKb := n_BKb; clear n_BKb; clear HB; have HB := n_b; have GE := n_e; have BK := n_k; clear n_e n_b n_k hb hbox hg; (try clear hczBKa0 hczBKa1 hfzBKa0 hfzBKa1); (try clear hczBKb0 hczBKb1 hfzBKb0 hfzBKb1); (try clear hczBK0 hczBK1 hfzBK0 hfzBK1); have hczBKa0 : wb.cell? ⟨ga, 0, none⟩ = some (.int .i64 sa) := (blk_cell BKa.out 0).trans rfl; have hczBKa1 : wb.cell? ⟨ga, 1, none⟩ = some (.slice A la.length c) := (blk_cell BKa.out 1).trans rfl; have hfzBKa0 := blk_frozen BKa.out 0; have hfzBKa1 := blk_frozen BKa.out 1; have hczBKb0 : wb.cell? ⟨gb, 0, none⟩ = some (.int .i64 s1) := (blk_cell BKb.out 0).trans rfl; have hczBKb1 : wb.cell? ⟨gb, 1, none⟩ = some (.slice B l1.length d) := (blk_cell BKb.out 1).trans rfl; have hfzBKb0 := blk_frozen BKb.out 0; have hfzBKb1 := blk_frozen BKb.out 1; have hczBK0 : wb.cell? ⟨gc, 0, none⟩ = some (.int .i64 0) := (blk_cell BK.out 0).trans rfl; have hczBK1 : wb.cell? ⟨gc, 1, none⟩ = some (.slice none 0 0) := (blk_cell BK.out 1).trans rfl; have hfzBK0 := blk_frozen BK.out 0; have hfzBK1 := blk_frozen BK.out 1))
  repeat (go_quiet (fail); try go_wp2_with (first | ((with_reducible refine gate_dst (N := 2) rfl ?_); refine box_event ?hg (N := 2) ?hd (cs := #[.int .i64 sa, .slice A la.length c]) (t := 89) ?hr ?_; (case hd => rfl); (case hg => rfl); (case hr => first | (go_simp; done) | (go_simp; rfl)); intro ga hg wb hbox hb; have n_e := Aside0.mk ((by rw [hg]; exact (below_size HB.out)) : w.heap.size ≤ ga); have n_b := Aside0.mk (below_step HB.out hb); have n_k := Aside0.mk hbox; clear HB; have HB := n_b; have GEa := n_e; have BKa := n_k; clear n_e n_b n_k hb hbox hg) | ((with_reducible refine gate_dst (N := 3) rfl ?_); refine box_event ?hg (N := 3) ?hd (cs := #[.int .i64 s1, .slice B l1.length d]) (t := 89) ?hr ?_; (case hd => rfl); (case hg => rfl); (case hr => first | (go_simp; done) | (go_simp; rfl)); intro gb hg wb hbox hb; have n_BKa := Aside0.mk (blk_below BKa.out hb); have n_e := Aside0.mk ((by rw [hg]; exact (below_size HB.out)) : w.heap.size ≤ gb); have n_b := Aside0.mk (below_step HB.out hb); have n_k := Aside0.mk hbox; clear BKa; have BKa := n_BKa; clear n_BKa; clear HB; have HB := n_b; have GEb := n_e; have BKb := n_k; clear n_e n_b n_k hb hbox hg) | ((with_reducible refine gate_dst (N := 4) rfl ?_); refine box_event ?hg (N := 4) ?hd (cs := #[.int .i64 0, .slice none 0 0]) (t := 89) ?hr ?_; (case hd => rfl); (case hg => rfl); (case hr => first | (go_simp; done) | (go_simp; rfl)); intro gc hg wb hbox hb; have n_BKa := Aside0.mk (blk_below BKa.out hb); have n_BKb := Aside0.mk (blk_below BKb.out hb); have n_e := Aside0.mk ((by rw [hg]; exact (below_size HB.out)) : w.heap.size ≤ gc); have n_b := Aside0.mk (below_step HB.out hb); have n_k := Aside0.mk hbox; clear BKa; have BKa := n_BKa; clear n_BKa; clear BKb; have BKb := n_BKb; clear n_BKb; clear HB; have HB := n_b; have GE := n_e; have BK := n_k; clear n_e n_b n_k hb hbox hg; (try clear hczBKa0 hczBKa1 hfzBKa0 hfzBKa1); (try clear hczBKb0 hczBKb1 hfzBKb0 hfzBKb1); (try clear hczBK0 hczBK1 hfzBK0 hfzBK1); have hczBKa0 : wb.cell? ⟨ga, 0, none⟩ = some (.int .i64 sa) := (blk_cell BKa.out 0).trans rfl; have hczBKa1 : wb.cell? ⟨ga, 1, none⟩ = some (.slice A la.length c) := (blk_cell BKa.out 1).trans rfl; have hfzBKa0 := blk_frozen BKa.out 0; have hfzBKa1 := blk_frozen BKa.out 1; have hczBKb0 : wb.cell? ⟨gb, 0, none⟩ = some (.int .i64 s1) := (blk_cell BKb.out 0).trans rfl; have hczBKb1 : wb.cell? ⟨gb, 1, none⟩ = some (.slice B l1.length d) := (blk_cell BKb.out 1).trans rfl; have hfzBKb0 := blk_frozen BKb.out 0; have hfzBKb1 := blk_frozen BKb.out 1; have hczBK0 : wb.cell? ⟨gc, 0, none⟩ = some (.int .i64 0) := (blk_cell BK.out 0).trans rfl; have hczBK1 : wb.cell? ⟨gc, 1, none⟩ = some (.slice none 0 0) := (blk_cell BK.out 1).trans rfl; have hfzBK0 := blk_frozen BK.out 0; have hfzBK1 := blk_frozen BK.out 1)))
  refine bodyPost_ret (results_cell_row rfl _ _ gc 89 #[.int .i64 s1, .slice B l1.length d] (0, 0) _ rfl (by (with_reducible repeat (first | refine blk_drewN ?_ _ | refine blk_drew ?_ | refine blk_alloc ?_ _)); refine blk_put (cs := #[.int .i64 s1, .slice none 0 0]) ?_ 1 _ rfl; (with_reducible repeat (first | refine blk_drewN ?_ _ | refine blk_drew ?_ | refine blk_alloc ?_ _)); refine blk_put (cs := #[.int .i64 0, .slice none 0 0]) ?_ 0 _ rfl; (with_reducible repeat (first | refine blk_drewN ?_ _ | refine blk_drew ?_ | refine blk_alloc ?_ _)); exact BK.out) Try.underlying89 rfl (by kernel_rfl)) rfl ?_
  exact ⟨_, rfl, ⟨B, d, rfl, HCb.out, DT.below HDb.out (by repeat (first | (with_reducible first | exact HB.out | apply below_alloc | apply pw_below_drewN | apply below_drew1 | refine below_set ?_ GE.out) | exact HB.out))⟩, (by repeat (first | (with_reducible first | exact HB.out | apply below_alloc | apply pw_below_drewN | apply below_drew1 | refine below_set ?_ GE.out) | exact HB.out))⟩
set_option maxHeartbeats 8000000 in
set_option maxRecDepth 100000 in
theorem plus_b0 (sa : Int) (la : List Int) (A : Option Addr) (c : Nat) (sb : Int) (lb : List Int) (B : Option Addr) (d : Nat) (s1 : Int) (l1 : List Int) (w : World) (hA : DT w A la) (hc : la.length ≤ c) (hB : DT w B lb) (hd : lb.length ≤ d) (h0 : sa ≠ 0) (hb0 : sb = 0) (h1 : s1 = sa) (h2 : l1 = la) :
    Calls Try.prog 63 #[.agg #[.int .i64 sa, .slice A la.length c], .agg #[.int .i64 sb, .slice B lb.length d]] w fun e w' => ∃ v, e = .returned v ∧ XV w' v s1 l1 ∧ Below w.heap.size w w' := by
  have hu89 := Try.underlying89
  have HDa := Aside0.mk hA
  have HDb := Aside0.mk hB
  have HRa := Aside0.mk hA.now
  have HCa := Aside0.mk hc
  have HRb := Aside0.mk hB.now
  have HCb := Aside0.mk hd
  have HB := Aside0.mk (Below.refl w.heap.size w)
  clear hA hc hB hd
  have c00 : (sa == 0) = false := beq_eq_false_iff_ne.mpr h0
  have c01 : (sa != 0) = true := bne_iff_ne.mpr h0
  have c10 : (sb == 0) = true := beq_iff_eq.mpr hb0
  have c11 : (sb != 0) = false := bne_eq_false_iff_eq.mpr hb0
  subst h1 h2
  clear h0 hb0
  go_enter Try.func63, Try.ntmps63
  go_wp2_with (first | ((with_reducible refine gate_dst (N := 2) rfl ?_); refine box_event ?hg (N := 2) ?hd (cs := #[.int .i64 s1, .slice A l1.length c]) (t := 89) ?hr ?_; (case hd => rfl); (case hg => rfl); (case hr => first | (go_simp; done) | (go_simp; rfl)); intro ga hg wb hbox hb; have n_e := Aside0.mk ((by rw [hg]; exact (below_size HB.out)) : w.heap.size ≤ ga); have n_b := Aside0.mk (below_step HB.out hb); have n_k := Aside0.mk hbox; clear HB; have HB := n_b; have GEa := n_e; have BKa := n_k; clear n_e n_b n_k hb hbox hg) | ((with_reducible refine gate_dst (N := 3) rfl ?_); refine box_event ?hg (N := 3) ?hd (cs := #[.int .i64 sb, .slice B lb.length d]) (t := 89) ?hr ?_; (case hd => rfl); (case hg => rfl); (case hr => first | (go_simp; done) | (go_simp; rfl)); intro gb hg wb hbox hb; have n_BKa := Aside0.mk (blk_below BKa.out hb); have n_e := Aside0.mk ((by rw [hg]; exact (below_size HB.out)) : w.heap.size ≤ gb); have n_b := Aside0.mk (below_step HB.out hb); have n_k := Aside0.mk hbox; clear BKa; have BKa := n_BKa; clear n_BKa; clear HB; have HB := n_b; have GEb := n_e; have BKb := n_k; clear n_e n_b n_k hb hbox hg) | ((with_reducible refine gate_dst (N := 4) rfl ?_); refine box_event ?hg (N := 4) ?hd (cs := #[.int .i64 0, .slice none 0 0]) (t := 89) ?hr ?_; (case hd => rfl); (case hg => rfl); (case hr => first | (go_simp; done) | (go_simp; rfl)); intro gc hg wb hbox hb; have n_BKa := Aside0.mk (blk_below BKa.out hb); have n_BKb := Aside0.mk (blk_below BKb.out hb); have n_e := Aside0.mk ((by rw [hg]; exact (below_size HB.out)) : w.heap.size ≤ gc); have n_b := Aside0.mk (below_step HB.out hb); have n_k := Aside0.mk hbox; clear BKa; have BKa := n_BKa; clear n_BKa; clear BKb; have BKb := n_BKb; clear n_BKb; clear HB; have HB := n_b; have GE := n_e; have BK := n_k; clear n_e n_b n_k hb hbox hg; (try clear hczBKa0 hczBKa1 hfzBKa0 hfzBKa1); (try clear hczBKb0 hczBKb1 hfzBKb0 hfzBKb1); (try clear hczBK0 hczBK1 hfzBK0 hfzBK1); have hczBKa0 : wb.cell? ⟨ga, 0, none⟩ = some (.int .i64 s1) := (blk_cell BKa.out 0).trans rfl; have hczBKa1 : wb.cell? ⟨ga, 1, none⟩ = some (.slice A l1.length c) := (blk_cell BKa.out 1).trans rfl; have hfzBKa0 := blk_frozen BKa.out 0; have hfzBKa1 := blk_frozen BKa.out 1; have hczBKb0 : wb.cell? ⟨gb, 0, none⟩ = some (.int .i64 sb) := (blk_cell BKb.out 0).trans rfl; have hczBKb1 : wb.cell? ⟨gb, 1, none⟩ = some (.slice B lb.length d) := (blk_cell BKb.out 1).trans rfl; have hfzBKb0 := blk_frozen BKb.out 0; have hfzBKb1 := blk_frozen BKb.out 1; have hczBK0 : wb.cell? ⟨gc, 0, none⟩ = some (.int .i64 0) := (blk_cell BK.out 0).trans rfl; have hczBK1 : wb.cell? ⟨gc, 1, none⟩ = some (.slice none 0 0) := (blk_cell BK.out 1).trans rfl; have hfzBK0 := blk_frozen BK.out 0; have hfzBK1 := blk_frozen BK.out 1))
  repeat (go_quiet (fail); try go_wp2_with (first | ((with_reducible refine gate_dst (N := 2) rfl ?_); refine box_event ?hg (N := 2) ?hd (cs := #[.int .i64 s1, .slice A l1.length c]) (t := 89) ?hr ?_; (case hd => rfl); (case hg => rfl); (case hr => first | (go_simp; done) | (go_simp; rfl)); intro ga hg wb hbox hb; have n_e := Aside0.mk ((by rw [hg]; exact (below_size HB.out)) : w.heap.size ≤ ga); have n_b := Aside0.mk (below_step HB.out hb); have n_k := Aside0.mk hbox; clear HB; have HB := n_b; have GEa := n_e; have BKa := n_k; clear n_e n_b n_k hb hbox hg) | ((with_reducible refine gate_dst (N := 3) rfl ?_); refine box_event ?hg (N := 3) ?hd (cs := #[.int .i64 sb, .slice B lb.length d]) (t := 89) ?hr ?_; (case hd => rfl); (case hg => rfl); (case hr => first | (go_simp; done) | (go_simp; rfl)); intro gb hg wb hbox hb; have n_BKa := Aside0.mk (blk_below BKa.out hb); have n_e := Aside0.mk ((by rw [hg]; exact (below_size HB.out)) : w.heap.size ≤ gb); have n_b := Aside0.mk (below_step HB.out hb); have n_k := Aside0.mk hbox; clear BKa; have BKa := n_BKa; clear n_BKa; clear HB; have HB := n_b; have GEb := n_e; have BKb := n_k; clear n_e n_b n_k hb hbox hg) | ((with_reducible refine gate_dst (N := 4) rfl ?_); refine box_event ?hg (N := 4) ?hd (cs := #[.int .i64 0, .slice none 0 0]) (t := 89) ?hr ?_; (case hd => rfl); (case hg => rfl); (case hr => first | (go_simp; done) | (go_simp; rfl)); intro gc hg wb hbox hb; have n_BKa := Aside0.mk (blk_below BKa.out hb); have n_BKb := Aside0.mk (blk_below BKb.out hb); have n_e := Aside0.mk ((by rw [hg]; exact (below_size HB.out)) : w.heap.size ≤ gc); have n_b := Aside0.mk (below_step HB.out hb); have n_k := Aside0.mk hbox; clear BKa; have BKa := n_BKa; clear n_BKa; clear BKb; have BKb := n_BKb; clear n_BKb; clear HB; have HB := n_b; have GE := n_e; have BK := n_k; clear n_e n_b n_k hb hbox hg; (try clear hczBKa0 hczBKa1 hfzBKa0 hfzBKa1); (try clear hczBKb0 hczBKb1 hfzBKb0 hfzBKb1); (try clear hczBK0 hczBK1 hfzBK0 hfzBK1); have hczBKa0 : wb.cell? ⟨ga, 0, none⟩ = some (.int .i64 s1) := (blk_cell BKa.out 0).trans rfl; have hczBKa1 : wb.cell? ⟨ga, 1, none⟩ = some (.slice A l1.length c) := (blk_cell BKa.out 1).trans rfl; have hfzBKa0 := blk_frozen BKa.out 0; have hfzBKa1 := blk_frozen BKa.out 1; have hczBKb0 : wb.cell? ⟨gb, 0, none⟩ = some (.int .i64 sb) := (blk_cell BKb.out 0).trans rfl; have hczBKb1 : wb.cell? ⟨gb, 1, none⟩ = some (.slice B lb.length d) := (blk_cell BKb.out 1).trans rfl; have hfzBKb0 := blk_frozen BKb.out 0; have hfzBKb1 := blk_frozen BKb.out 1; have hczBK0 : wb.cell? ⟨gc, 0, none⟩ = some (.int .i64 0) := (blk_cell BK.out 0).trans rfl; have hczBK1 : wb.cell? ⟨gc, 1, none⟩ = some (.slice none 0 0) := (blk_cell BK.out 1).trans rfl; have hfzBK0 := blk_frozen BK.out 0; have hfzBK1 := blk_frozen BK.out 1)))
  refine bodyPost_ret (results_cell_row rfl _ _ gc 89 #[.int .i64 s1, .slice A l1.length c] (0, 0) _ rfl (by (with_reducible repeat (first | refine blk_drewN ?_ _ | refine blk_drew ?_ | refine blk_alloc ?_ _)); refine blk_put (cs := #[.int .i64 s1, .slice none 0 0]) ?_ 1 _ rfl; (with_reducible repeat (first | refine blk_drewN ?_ _ | refine blk_drew ?_ | refine blk_alloc ?_ _)); refine blk_put (cs := #[.int .i64 0, .slice none 0 0]) ?_ 0 _ rfl; (with_reducible repeat (first | refine blk_drewN ?_ _ | refine blk_drew ?_ | refine blk_alloc ?_ _)); exact BK.out) Try.underlying89 rfl (by kernel_rfl)) rfl ?_
  exact ⟨_, rfl, ⟨A, c, rfl, HCa.out, DT.below HDa.out (by repeat (first | (with_reducible first | exact HB.out | apply below_alloc | apply pw_below_drewN | apply below_drew1 | refine below_set ?_ GE.out) | exact HB.out))⟩, (by repeat (first | (with_reducible first | exact HB.out | apply below_alloc | apply pw_below_drewN | apply below_drew1 | refine below_set ?_ GE.out) | exact HB.out))⟩
end Go.Proofs.Ytkfbmplhcigopaa.PPlo
namespace Go.Proofs.Ytkfbmplhcigopaa.PPlo
open Go.RowKit Go.Proofs.YtkfbmplhcigopaaW.PrintWords Go.Proofs.YtkfbmplhcigopaaW.PrintLast Go.Proofs.YtkfbmplhcigopaaW.PrintMore
attribute [local go_sem] max2_int max_two
set_option maxHeartbeats 8000000 in
set_option maxRecDepth 100000 in
theorem plus_same (k : Nat) (sa : Int) (la : List Int) (A : Option Addr) (c : Nat) (sb : Int) (lb : List Int) (B : Option Addr) (d : Nat) (s1 : Int) (l1 : List Int) (w : World) (hA : DT w A la) (hc : la.length ≤ c) (hB : DT w B lb) (hd : lb.length ≤ d) (h0 : sa ≠ 0) (hb0 : sb ≠ 0) (he : sa = sb) (h : quitrentref01_Plus.l0 k [] 0 0 sa la sb lb = some (s1, l1)) :
    Calls Try.prog 63 #[.agg #[.int .i64 sa, .slice A la.length c], .agg #[.int .i64 sb, .slice B lb.length d]] w fun e w' => ∃ v, e = .returned v ∧ XV w' v s1 l1 ∧ Below w.heap.size w w' := by
  have hu89 := Try.underlying89
  have HDa := Aside0.mk hA
  have HDb := Aside0.mk hB
  have HRa := Aside0.mk hA.now
  have HCa := Aside0.mk hc
  have HRb := Aside0.mk hB.now
  have HCb := Aside0.mk hd
  have HB := Aside0.mk (Below.refl w.heap.size w)
  clear hA hc hB hd
  have c0_0 : (sa == 0) = false := beq_eq_false_iff_ne.mpr h0
  have c0_1 : (sa != 0) = true := bne_iff_ne.mpr h0
  have c1_0 : (sb == 0) = false := beq_eq_false_iff_ne.mpr hb0
  have c1_1 : (sb != 0) = true := bne_iff_ne.mpr hb0
  have c2_0 : (sa == sb) = true := beq_iff_eq.mpr he
  have c2_1 : (sa != sb) = false := bne_eq_false_iff_eq.mpr he
  have H' := Aside0.mk h
  clear h0 hb0 he h
  by_cases c0 : (la.length : Int) < (lb.length : Int)
  all_goals
    first
    | have HM : Aside0 (mx (la.length : Int) (lb.length : Int) = (lb.length : Int)) := ⟨if_pos c0⟩
      have c0b0 : decide ((la.length : Int) < (lb.length : Int)) = true := decide_eq_true c0
      have c0b1 : decide (la.length < lb.length) = true := decide_eq_true (by omega)
      have c0b2 : (la.length < lb.length) = True := eq_true (by omega)
    | have HM : Aside0 (mx (la.length : Int) (lb.length : Int) = (la.length : Int)) := ⟨if_neg c0⟩
      have c0b0 : decide ((la.length : Int) < (lb.length : Int)) = false := decide_eq_false c0
      have c0b1 : decide (la.length < lb.length) = false := decide_eq_false (by omega)
      have c0b2 : (la.length < lb.length) = False := eq_false (by omega)
    clear c0
    go_enter Try.func63, Try.ntmps63
    go_wp2_with (first | ((with_reducible refine gate_dst (N := 2) rfl ?_); refine box_event ?hg (N := 2) ?hd (cs := #[.int .i64 sa, .slice A la.length c]) (t := 89) ?hr ?_; (case hd => rfl); (case hg => rfl); (case hr => first | (go_simp; done) | (go_simp; rfl)); intro ga hg wb hbox hb; have n_e := Aside0.mk ((by rw [hg]; exact (below_size HB.out)) : w.heap.size ≤ ga); have n_b := Aside0.mk (below_step HB.out hb); have n_k := Aside0.mk hbox; clear HB; have HB := n_b; have GEa := n_e; have BKa := n_k; clear n_e n_b n_k hb hbox hg) | ((with_reducible refine gate_dst (N := 3) rfl ?_); refine box_event ?hg (N := 3) ?hd (cs := #[.int .i64 sb, .slice B lb.length d]) (t := 89) ?hr ?_; (case hd => rfl); (case hg => rfl); (case hr => first | (go_simp; done) | (go_simp; rfl)); intro gb hg wb hbox hb; have n_BKa := Aside0.mk (blk_below BKa.out hb); have n_e := Aside0.mk ((by rw [hg]; exact (below_size HB.out)) : w.heap.size ≤ gb); have n_b := Aside0.mk (below_step HB.out hb); have n_k := Aside0.mk hbox; clear BKa; have BKa := n_BKa; clear n_BKa; clear HB; have HB := n_b; have GEb := n_e; have BKb := n_k; clear n_e n_b n_k hb hbox hg) | ((with_reducible refine gate_dst (N := 4) rfl ?_); refine box_event ?hg (N := 4) ?hd (cs := #[.int .i64 0, .slice none 0 0]) (t := 89) ?hr ?_; (case hd => rfl); (case hg => rfl); (case hr => first | (go_simp; done) | (go_simp; rfl)); intro gc hg wb hbox hb; have n_BKa := Aside0.mk (blk_below BKa.out hb); have n_BKb := Aside0.mk (blk_below BKb.out hb); have n_e := Aside0.mk ((by rw [hg]; exact (below_size HB.out)) : w.heap.size ≤ gc); have n_b := Aside0.mk (below_step HB.out hb); have n_k := Aside0.mk hbox; clear BKa; have BKa := n_BKa; clear n_BKa; clear BKb; have BKb := n_BKb; clear n_BKb; clear HB; have HB := n_b; have GE := n_e; have BK := n_k; clear n_e n_b n_k hb hbox hg; (try clear hczBKa0 hczBKa1 hfzBKa0 hfzBKa1); (try clear hczBKb0 hczBKb1 hfzBKb0 hfzBKb1); (try clear hczBK0 hczBK1 hfzBK0 hfzBK1); have hczBKa0 : wb.cell? ⟨ga, 0, none⟩ = some (.int .i64 sa) := (blk_cell BKa.out 0).trans rfl; have hczBKa1 : wb.cell? ⟨ga, 1, none⟩ = some (.slice A la.length c) := (blk_cell BKa.out 1).trans rfl; have hfzBKa0 := blk_frozen BKa.out 0; have hfzBKa1 := blk_frozen BKa.out 1; have hczBKb0 : wb.cell? ⟨gb, 0, none⟩ = some (.int .i64 sb) := (blk_cell BKb.out 0).trans rfl; have hczBKb1 : wb.cell? ⟨gb, 1, none⟩ = some (.slice B lb.length d) := (blk_cell BKb.out 1).trans rfl; have hfzBKb0 := blk_frozen BKb.out 0; have hfzBKb1 := blk_frozen BKb.out 1; have hczBK0 : wb.cell? ⟨gc, 0, none⟩ = some (.int .i64 0) := (blk_cell BK.out 0).trans rfl; have hczBK1 : wb.cell? ⟨gc, 1, none⟩ = some (.slice none 0 0) := (blk_cell BK.out 1).trans rfl; have hfzBK0 := blk_frozen BK.out 0; have hfzBK1 := blk_frozen BK.out 1) | ((with_reducible refine gate_dst (N := 20) rfl ?_); refine Kd.R_lit (Kd.int .i64) _ 3 ?hg (N := 20) ?hd (xs := ([] : List Int)) (inner := []) (ok := fun _ => True) (okp := fun _ => True) ?hr ?hp (fun _ hk => hk) trivial (Below.refl _ _) (Nat.le_refl _) (by simp) ?_; (case hd => rfl); (case hg => rfl); (case hr => first | (go_simp; done) | (go_simp; rfl)); (case hp => exact (Reps.none _ _)); intro vl wl ho4 hb hg_ hnew_; clear hg_ hnew_; have n_o := Aside0.mk (Kd.R_lower ho4 (below_size HB.out)); have n_BKa := Aside0.mk (blk_below BKa.out hb); have n_BKb := Aside0.mk (blk_below BKb.out hb); have n_BK := Aside0.mk (blk_below BK.out hb); have n_b := Aside0.mk (below_step HB.out hb); clear BKa; have BKa := n_BKa; clear n_BKa; clear BKb; have BKb := n_BKb; clear n_BKb; clear BK; have BK := n_BK; clear n_BK; clear HB; have HB := n_b; have HO := n_o; clear n_b n_o hb ho4; (try clear hczBKa0 hczBKa1 hfzBKa0 hfzBKa1); (try clear hczBKb0 hczBKb1 hfzBKb0 hfzBKb1); (try clear hczBK0 hczBK1 hfzBK0 hfzBK1); have hczBKa0 : wl.cell? ⟨ga, 0, none⟩ = some (.int .i64 sa) := (blk_cell BKa.out 0).trans rfl; have hczBKa1 : wl.cell? ⟨ga, 1, none⟩ = some (.slice A la.length c) := (blk_cell BKa.out 1).trans rfl; have hfzBKa0 := blk_frozen BKa.out 0; have hfzBKa1 := blk_frozen BKa.out 1; have hczBKb0 : wl.cell? ⟨gb, 0, none⟩ = some (.int .i64 sb) := (blk_cell BKb.out 0).trans rfl; have hczBKb1 : wl.cell? ⟨gb, 1, none⟩ = some (.slice B lb.length d) := (blk_cell BKb.out 1).trans rfl; have hfzBKb0 := blk_frozen BKb.out 0; have hfzBKb1 := blk_frozen BKb.out 1; have hczBK0 : wl.cell? ⟨gc, 0, none⟩ = some (.int .i64 0) := (blk_cell BK.out 0).trans rfl; have hczBK1 : wl.cell? ⟨gc, 1, none⟩ = some (.slice none 0 0) := (blk_cell BK.out 1).trans rfl; have hfzBK0 := blk_frozen BK.out 0; have hfzBK1 := blk_frozen BK.out 1))
    repeat (go_quiet (fail); try go_wp2_with (first | ((with_reducible refine gate_dst (N := 2) rfl ?_); refine box_event ?hg (N := 2) ?hd (cs := #[.int .i64 sa, .slice A la.length c]) (t := 89) ?hr ?_; (case hd => rfl); (case hg => rfl); (case hr => first | (go_simp; done) | (go_simp; rfl)); intro ga hg wb hbox hb; have n_e := Aside0.mk ((by rw [hg]; exact (below_size HB.out)) : w.heap.size ≤ ga); have n_b := Aside0.mk (below_step HB.out hb); have n_k := Aside0.mk hbox; clear HB; have HB := n_b; have GEa := n_e; have BKa := n_k; clear n_e n_b n_k hb hbox hg) | ((with_reducible refine gate_dst (N := 3) rfl ?_); refine box_event ?hg (N := 3) ?hd (cs := #[.int .i64 sb, .slice B lb.length d]) (t := 89) ?hr ?_; (case hd => rfl); (case hg => rfl); (case hr => first | (go_simp; done) | (go_simp; rfl)); intro gb hg wb hbox hb; have n_BKa := Aside0.mk (blk_below BKa.out hb); have n_e := Aside0.mk ((by rw [hg]; exact (below_size HB.out)) : w.heap.size ≤ gb); have n_b := Aside0.mk (below_step HB.out hb); have n_k := Aside0.mk hbox; clear BKa; have BKa := n_BKa; clear n_BKa; clear HB; have HB := n_b; have GEb := n_e; have BKb := n_k; clear n_e n_b n_k hb hbox hg) | ((with_reducible refine gate_dst (N := 4) rfl ?_); refine box_event ?hg (N := 4) ?hd (cs := #[.int .i64 0, .slice none 0 0]) (t := 89) ?hr ?_; (case hd => rfl); (case hg => rfl); (case hr => first | (go_simp; done) | (go_simp; rfl)); intro gc hg wb hbox hb; have n_BKa := Aside0.mk (blk_below BKa.out hb); have n_BKb := Aside0.mk (blk_below BKb.out hb); have n_e := Aside0.mk ((by rw [hg]; exact (below_size HB.out)) : w.heap.size ≤ gc); have n_b := Aside0.mk (below_step HB.out hb); have n_k := Aside0.mk hbox; clear BKa; have BKa := n_BKa; clear n_BKa; clear BKb; have BKb := n_BKb; clear n_BKb; clear HB; have HB := n_b; have GE := n_e; have BK := n_k; clear n_e n_b n_k hb hbox hg; (try clear hczBKa0 hczBKa1 hfzBKa0 hfzBKa1); (try clear hczBKb0 hczBKb1 hfzBKb0 hfzBKb1); (try clear hczBK0 hczBK1 hfzBK0 hfzBK1); have hczBKa0 : wb.cell? ⟨ga, 0, none⟩ = some (.int .i64 sa) := (blk_cell BKa.out 0).trans rfl; have hczBKa1 : wb.cell? ⟨ga, 1, none⟩ = some (.slice A la.length c) := (blk_cell BKa.out 1).trans rfl; have hfzBKa0 := blk_frozen BKa.out 0; have hfzBKa1 := blk_frozen BKa.out 1; have hczBKb0 : wb.cell? ⟨gb, 0, none⟩ = some (.int .i64 sb) := (blk_cell BKb.out 0).trans rfl; have hczBKb1 : wb.cell? ⟨gb, 1, none⟩ = some (.slice B lb.length d) := (blk_cell BKb.out 1).trans rfl; have hfzBKb0 := blk_frozen BKb.out 0; have hfzBKb1 := blk_frozen BKb.out 1; have hczBK0 : wb.cell? ⟨gc, 0, none⟩ = some (.int .i64 0) := (blk_cell BK.out 0).trans rfl; have hczBK1 : wb.cell? ⟨gc, 1, none⟩ = some (.slice none 0 0) := (blk_cell BK.out 1).trans rfl; have hfzBK0 := blk_frozen BK.out 0; have hfzBK1 := blk_frozen BK.out 1) | ((with_reducible refine gate_dst (N := 20) rfl ?_); refine Kd.R_lit (Kd.int .i64) _ 3 ?hg (N := 20) ?hd (xs := ([] : List Int)) (inner := []) (ok := fun _ => True) (okp := fun _ => True) ?hr ?hp (fun _ hk => hk) trivial (Below.refl _ _) (Nat.le_refl _) (by simp) ?_; (case hd => rfl); (case hg => rfl); (case hr => first | (go_simp; done) | (go_simp; rfl)); (case hp => exact (Reps.none _ _)); intro vl wl ho4 hb hg_ hnew_; clear hg_ hnew_; have n_o := Aside0.mk (Kd.R_lower ho4 (below_size HB.out)); have n_BKa := Aside0.mk (blk_below BKa.out hb); have n_BKb := Aside0.mk (blk_below BKb.out hb); have n_BK := Aside0.mk (blk_below BK.out hb); have n_b := Aside0.mk (below_step HB.out hb); clear BKa; have BKa := n_BKa; clear n_BKa; clear BKb; have BKb := n_BKb; clear n_BKb; clear BK; have BK := n_BK; clear n_BK; clear HB; have HB := n_b; have HO := n_o; clear n_b n_o hb ho4; (try clear hczBKa0 hczBKa1 hfzBKa0 hfzBKa1); (try clear hczBKb0 hczBKb1 hfzBKb0 hfzBKb1); (try clear hczBK0 hczBK1 hfzBK0 hfzBK1); have hczBKa0 : wl.cell? ⟨ga, 0, none⟩ = some (.int .i64 sa) := (blk_cell BKa.out 0).trans rfl; have hczBKa1 : wl.cell? ⟨ga, 1, none⟩ = some (.slice A la.length c) := (blk_cell BKa.out 1).trans rfl; have hfzBKa0 := blk_frozen BKa.out 0; have hfzBKa1 := blk_frozen BKa.out 1; have hczBKb0 : wl.cell? ⟨gb, 0, none⟩ = some (.int .i64 sb) := (blk_cell BKb.out 0).trans rfl; have hczBKb1 : wl.cell? ⟨gb, 1, none⟩ = some (.slice B lb.length d) := (blk_cell BKb.out 1).trans rfl; have hfzBKb0 := blk_frozen BKb.out 0; have hfzBKb1 := blk_frozen BKb.out 1; have hczBK0 : wl.cell? ⟨gc, 0, none⟩ = some (.int .i64 0) := (blk_cell BK.out 0).trans rfl; have hczBK1 : wl.cell? ⟨gc, 1, none⟩ = some (.slice none 0 0) := (blk_cell BK.out 1).trans rfl; have hfzBK0 := blk_frozen BK.out 0; have hfzBK1 := blk_frozen BK.out 1)))
    go_loopg [5, 6, 7] k (fun kq v5 v6 v7 w' => ∃ (x5 : List Int) (x6 x7 : Int), v6 = .int .i64 x6 ∧ v7 = .int .i64 x7 ∧ Aside0 (quitrentref01_Plus.l0 kq x5 x6 x7 sa la sb lb = some (s1, l1)) ∧ Aside0 (kq ≤ k) ∧ Aside0 (Kd.R (Kd.int .i64) 3 w' w.heap.size (fun _ => True) v5 x5) ∧ Aside0 (w'.heap[ga]? = some (.cells #[.int .i64 sa, .slice A la.length c] 89 (0, 0))) ∧ Aside0 (w'.heap[gb]? = some (.cells #[.int .i64 sb, .slice B lb.length d] 89 (0, 0))) ∧ Aside0 (w'.heap[gc]? = some (.cells #[.int .i64 0, .slice none 0 0] 89 (0, 0))) ∧ Aside0 (Below w.heap.size w w'))
    case atStart => exact ⟨[], 0, 0, (by first | rfl | (simp; done) | (simp [*]; done)), (by first | rfl | (simp; done) | (simp [*]; done)), H', ⟨Nat.le_refl _⟩, ⟨(by (with_reducible repeat (first | apply Kd.R_alloc | apply Kd.R_drewN | apply Kd.R_drew)); exact HO.out)⟩, ⟨(by (with_reducible repeat (first | refine blk_drewN ?_ _ | refine blk_drew ?_ | refine blk_alloc ?_ _)); exact BKa.out)⟩, ⟨(by (with_reducible repeat (first | refine blk_drewN ?_ _ | refine blk_drew ?_ | refine blk_alloc ?_ _)); exact BKb.out)⟩, ⟨(by (with_reducible repeat (first | refine blk_drewN ?_ _ | refine blk_drew ?_ | refine blk_alloc ?_ _)); exact BK.out)⟩, ⟨(by repeat (first | (with_reducible first | exact HB.out | apply below_alloc | apply pw_below_drewN | apply below_drew1 | refine below_set ?_ GE.out) | exact HB.out))⟩⟩
    case round =>
      clear H'
      clear hczBKa0 hczBKa1 hfzBKa0 hfzBKa1 hczBKb0 hczBKb1 hfzBKb0 hfzBKb1 hczBK0 hczBK1 hfzBK0 hfzBK1
      obtain ⟨x5, x6, x7, rfl, rfl, HA, HK1, HO, BKa, BKb, BK, HB⟩ := hrel
      cases gk with
      | zero => exact absurd HA.out (by simp [quitrentref01_Plus.l0])
      | succ k1 =>
        have H := HA.out
        clear HA
        simp only [quitrentref01_Plus.l0] at H
        (try clear hczBKa0 hczBKa1 hfzBKa0 hfzBKa1)
        (try clear hczBKb0 hczBKb1 hfzBKb0 hfzBKb1)
        (try clear hczBK0 hczBK1 hfzBK0 hfzBK1)
        have hczBKa0 : wr.cell? ⟨ga, 0, none⟩ = some (.int .i64 sa) := (blk_cell BKa.out 0).trans rfl
        have hczBKa1 : wr.cell? ⟨ga, 1, none⟩ = some (.slice A la.length c) := (blk_cell BKa.out 1).trans rfl
        have hfzBKa0 := blk_frozen BKa.out 0
        have hfzBKa1 := blk_frozen BKa.out 1
        have hczBKb0 : wr.cell? ⟨gb, 0, none⟩ = some (.int .i64 sb) := (blk_cell BKb.out 0).trans rfl
        have hczBKb1 : wr.cell? ⟨gb, 1, none⟩ = some (.slice B lb.length d) := (blk_cell BKb.out 1).trans rfl
        have hfzBKb0 := blk_frozen BKb.out 0
        have hfzBKb1 := blk_frozen BKb.out 1
        have hczBK0 : wr.cell? ⟨gc, 0, none⟩ = some (.int .i64 0) := (blk_cell BK.out 0).trans rfl
        have hczBK1 : wr.cell? ⟨gc, 1, none⟩ = some (.slice none 0 0) := (blk_cell BK.out 1).trans rfl
        have hfzBK0 := blk_frozen BK.out 0
        have hfzBK1 := blk_frozen BK.out 1
        by_cases c4 : x7 ≤ mx (la.length : Int) (lb.length : Int)
        · rw [if_pos c4] at H
          rw [HM.out] at c4
          have c4b := decide_eq_true c4
          clear c4
          obtain ⟨t1, A5, H⟩ := Option.bind_eq_some_iff.mp H
          obtain ⟨t2, A6, H⟩ := Option.bind_eq_some_iff.mp H
          have HA5 := Aside0.mk A5
          have HA6 := Aside0.mk A6
          clear A5 A6
          by_cases c6 : x5.length < 17592186044416
          · rw [if_pos c6] at H
            have HL := Aside0.mk c6
            have H' := Aside0.mk H
            clear c6 H
            go_wp2_with (first | ((with_reducible refine gate_builtin (b := .append) (xs := #[.tmp 48, .tmp 51]) rfl ?_); at_builtin; refine Kd.R_append (Kd.int .i64) (w0 := w) w.heap.size rfl (.tmp 48) (.tmp 51) 85 3 (.int .i64 0) 8 rfl Try.underlying85 info3 rfl (by decide) (by omega) u5 x5 (Int.tmod (wrap64 ((wrap64 (t1 + t2)) + x6)) 1000) [.int .i64 (Int.tmod (wrap64 ((wrap64 (t1 + t2)) + x6)) 1000)] (fun _ => True) (fun _ => False) rfl rfl ?aP (fun _ hk => hk.elim) (fun _ _ => trivial) ?aO ?aB ?aS ?aL ?_; (case aP => exact rfl); (case aB => exact (by repeat (first | (with_reducible first | exact HB.out | apply below_alloc | apply pw_below_drewN | apply below_drew1 | refine below_set ?_ GE.out) | exact HB.out))); (case aO => exact (by (with_reducible repeat (first | apply Kd.R_alloc | apply Kd.R_drewN | apply Kd.R_drew)); exact HO.out)); (case aS => exact (below_size (by repeat (first | (with_reducible first | exact HB.out | apply below_alloc | apply pw_below_drewN | apply below_drew1 | refine below_set ?_ GE.out) | exact HB.out)))); (case aL => have := HL.out; omega); intro va wa ho hb hg hat; have n_BKa := Aside0.mk (blk_grown (by (with_reducible repeat (first | refine blk_drewN ?_ _ | refine blk_drew ?_ | refine blk_alloc ?_ _)); exact BKa.out) hg (Kd.R_ne HO.out BKa.out (by decide))); have n_BKb := Aside0.mk (blk_grown (by (with_reducible repeat (first | refine blk_drewN ?_ _ | refine blk_drew ?_ | refine blk_alloc ?_ _)); exact BKb.out) hg (Kd.R_ne HO.out BKb.out (by decide))); have n_BK := Aside0.mk (blk_grown (by (with_reducible repeat (first | refine blk_drewN ?_ _ | refine blk_drew ?_ | refine blk_alloc ?_ _)); exact BK.out) hg (Kd.R_ne HO.out BK.out (by decide))); have n_b := Aside0.mk hb; have n_o := Aside0.mk ho; clear BKa; have BKa := n_BKa; clear n_BKa; clear BKb; have BKb := n_BKb; clear n_BKb; clear BK; have BK := n_BK; clear n_BK; clear HB HO; have HB := n_b; have HO := n_o; clear n_b n_o ho hb hg hat))
            repeat (go_quiet (first | (go_at_call 78; (with_reducible refine (quitrentref01_at.calls _ _ la x7 t1 _ ?side1 ?side2 HA5.out).mono ?_); (case side1 => repeat (first | exact (Kd.C_below HRa.out HB.out) | (with_reducible refine Kd.C_alloc ?_ _) | (with_reducible refine Kd.C_drewN ?_ _) | (with_reducible refine Kd.C_drew ?_))); (case side2 => exact HCa.out); rintro e w3 ⟨rfl, ⟨nd, rfl⟩⟩; (try first | exact ⟨rfl, _, World.drewN_drewN _ _ _⟩ | exact ⟨rfl, _, Eq.trans (World.drewN_drewN _ _ _) (congrArg (World.drewN _) (Nat.add_assoc _ _ _))⟩)) | (go_at_call 78; (with_reducible refine (quitrentref01_at.calls _ _ lb x7 t2 _ ?side1 ?side2 HA6.out).mono ?_); (case side1 => repeat (first | exact (Kd.C_below HRb.out HB.out) | (with_reducible refine Kd.C_alloc ?_ _) | (with_reducible refine Kd.C_drewN ?_ _) | (with_reducible refine Kd.C_drew ?_))); (case side2 => exact HCb.out); rintro e w3 ⟨rfl, ⟨nd, rfl⟩⟩; (try first | exact ⟨rfl, _, World.drewN_drewN _ _ _⟩ | exact ⟨rfl, _, Eq.trans (World.drewN_drewN _ _ _) (congrArg (World.drewN _) (Nat.add_assoc _ _ _))⟩))); try go_wp2_with (first | ((with_reducible refine gate_builtin (b := .append) (xs := #[.tmp 48, .tmp 51]) rfl ?_); at_builtin; refine Kd.R_append (Kd.int .i64) (w0 := w) w.heap.size rfl (.tmp 48) (.tmp 51) 85 3 (.int .i64 0) 8 rfl Try.underlying85 info3 rfl (by decide) (by omega) u5 x5 (Int.tmod (wrap64 ((wrap64 (t1 + t2)) + x6)) 1000) [.int .i64 (Int.tmod (wrap64 ((wrap64 (t1 + t2)) + x6)) 1000)] (fun _ => True) (fun _ => False) rfl rfl ?aP (fun _ hk => hk.elim) (fun _ _ => trivial) ?aO ?aB ?aS ?aL ?_; (case aP => exact rfl); (case aB => exact (by repeat (first | (with_reducible first | exact HB.out | apply below_alloc | apply pw_below_drewN | apply below_drew1 | refine below_set ?_ GE.out) | exact HB.out))); (case aO => exact (by (with_reducible repeat (first | apply Kd.R_alloc | apply Kd.R_drewN | apply Kd.R_drew)); exact HO.out)); (case aS => exact (below_size (by repeat (first | (with_reducible first | exact HB.out | apply below_alloc | apply pw_below_drewN | apply below_drew1 | refine below_set ?_ GE.out) | exact HB.out)))); (case aL => have := HL.out; omega); intro va wa ho hb hg hat; have n_BKa := Aside0.mk (blk_grown (by (with_reducible repeat (first | refine blk_drewN ?_ _ | refine blk_drew ?_ | refine blk_alloc ?_ _)); exact BKa.out) hg (Kd.R_ne HO.out BKa.out (by decide))); have n_BKb := Aside0.mk (blk_grown (by (with_reducible repeat (first | refine blk_drewN ?_ _ | refine blk_drew ?_ | refine blk_alloc ?_ _)); exact BKb.out) hg (Kd.R_ne HO.out BKb.out (by decide))); have n_BK := Aside0.mk (blk_grown (by (with_reducible repeat (first | refine blk_drewN ?_ _ | refine blk_drew ?_ | refine blk_alloc ?_ _)); exact BK.out) hg (Kd.R_ne HO.out BK.out (by decide))); have n_b := Aside0.mk hb; have n_o := Aside0.mk ho; clear BKa; have BKa := n_BKa; clear n_BKa; clear BKb; have BKb := n_BKb; clear n_BKb; clear BK; have BK := n_BK; clear n_BK; clear HB HO; have HB := n_b; have HO := n_o; clear n_b n_o ho hb hg hat)))
            go_roundg k1
            case measure => have := HK1.out; omega
            case rel => exact ⟨_, _, _, (by first | rfl | (simp; done) | (simp [*]; done)), (by first | rfl | (simp; done) | (simp [*]; done)), H', ⟨by have := HK1.out; omega⟩, ⟨(by (with_reducible repeat (first | apply Kd.R_alloc | apply Kd.R_drewN | apply Kd.R_drew)); exact HO.out)⟩, ⟨(by (with_reducible repeat (first | refine blk_drewN ?_ _ | refine blk_drew ?_ | refine blk_alloc ?_ _)); exact BKa.out)⟩, ⟨(by (with_reducible repeat (first | refine blk_drewN ?_ _ | refine blk_drew ?_ | refine blk_alloc ?_ _)); exact BKb.out)⟩, ⟨(by (with_reducible repeat (first | refine blk_drewN ?_ _ | refine blk_drew ?_ | refine blk_alloc ?_ _)); exact BK.out)⟩, ⟨(by repeat (first | (with_reducible first | exact HB.out | apply below_alloc | apply pw_below_drewN | apply below_drew1 | refine below_set ?_ GE.out) | exact HB.out))⟩⟩
          · rw [if_neg c6] at H
            exact absurd H (by simp)
        · rw [if_neg c4] at H
          rw [HM.out] at c4
          have c4b := decide_eq_false c4
          clear c4
          obtain ⟨⟨t1, t2⟩, A6, H⟩ := Option.bind_eq_some_iff.mp H
          simp only [Option.some.injEq, Prod.mk.injEq] at H
          obtain ⟨rfl, rfl⟩ := H
          have HA6 := Aside0.mk A6
          clear A6
          obtain ⟨Ao, co, e4⟩ := Kd.R_slice HO.out
          subst e4
          go_wp2_with (first | ((with_reducible refine gate_callee (f := 79) rfl ?_); refine goesL_ (some 58) rfl rfl Try.func79 (by kernel_rfl) rfl #[.int .i64 sa, .slice Ao x5.length co] rfl (by (try simp only [List.map_toArray, List.map_cons, List.map_nil]); first | done | rfl) ?_; (with_reducible refine (madeC _ sa _ _ x5 t1 t2 _ ?side1 ?side2 HA6.out).mono ?_); (case side1 => exact (Kd.R_reads' HO.out).2.2); (case side2 => exact (Kd.R_reads' HO.out).2.1); rintro e w2 ⟨rfl, hb⟩; refine ⟨_, rfl, ?_⟩; have n_o := Aside0.mk (Kd.R_below HO.out hb); have n_BKa := Aside0.mk (blk_below BKa.out hb); have n_BKb := Aside0.mk (blk_below BKb.out hb); have n_BK := Aside0.mk (blk_below BK.out hb); have n_b := Aside0.mk (below_step HB.out hb); clear BKa; have BKa := n_BKa; clear n_BKa; clear BKb; have BKb := n_BKb; clear n_BKb; clear BK; have BK := n_BK; clear n_BK; clear HB HO; have HB := n_b; have HO := n_o; clear n_b n_o hb; (try clear hczBKa0 hczBKa1 hfzBKa0 hfzBKa1); (try clear hczBKb0 hczBKb1 hfzBKb0 hfzBKb1); (try clear hczBK0 hczBK1 hfzBK0 hfzBK1); have hczBKa0 : w2.cell? ⟨ga, 0, none⟩ = some (.int .i64 sa) := (blk_cell BKa.out 0).trans rfl; have hczBKa1 : w2.cell? ⟨ga, 1, none⟩ = some (.slice A la.length c) := (blk_cell BKa.out 1).trans rfl; have hfzBKa0 := blk_frozen BKa.out 0; have hfzBKa1 := blk_frozen BKa.out 1; have hczBKb0 : w2.cell? ⟨gb, 0, none⟩ = some (.int .i64 sb) := (blk_cell BKb.out 0).trans rfl; have hczBKb1 : w2.cell? ⟨gb, 1, none⟩ = some (.slice B lb.length d) := (blk_cell BKb.out 1).trans rfl; have hfzBKb0 := blk_frozen BKb.out 0; have hfzBKb1 := blk_frozen BKb.out 1; have hczBK0 : w2.cell? ⟨gc, 0, none⟩ = some (.int .i64 0) := (blk_cell BK.out 0).trans rfl; have hczBK1 : w2.cell? ⟨gc, 1, none⟩ = some (.slice none 0 0) := (blk_cell BK.out 1).trans rfl; have hfzBK0 := blk_frozen BK.out 0; have hfzBK1 := blk_frozen BK.out 1; (obtain ⟨Av, cv_, ev⟩ := cutV_slice Ao co t2; rw [ev])))
          repeat (go_quiet (fail); try go_wp2_with (first | ((with_reducible refine gate_callee (f := 79) rfl ?_); refine goesL_ (some 58) rfl rfl Try.func79 (by kernel_rfl) rfl #[.int .i64 sa, .slice Ao x5.length co] rfl (by (try simp only [List.map_toArray, List.map_cons, List.map_nil]); first | done | rfl) ?_; (with_reducible refine (madeC _ sa _ _ x5 t1 t2 _ ?side1 ?side2 HA6.out).mono ?_); (case side1 => exact (Kd.R_reads' HO.out).2.2); (case side2 => exact (Kd.R_reads' HO.out).2.1); rintro e w2 ⟨rfl, hb⟩; refine ⟨_, rfl, ?_⟩; have n_o := Aside0.mk (Kd.R_below HO.out hb); have n_BKa := Aside0.mk (blk_below BKa.out hb); have n_BKb := Aside0.mk (blk_below BKb.out hb); have n_BK := Aside0.mk (blk_below BK.out hb); have n_b := Aside0.mk (below_step HB.out hb); clear BKa; have BKa := n_BKa; clear n_BKa; clear BKb; have BKb := n_BKb; clear n_BKb; clear BK; have BK := n_BK; clear n_BK; clear HB HO; have HB := n_b; have HO := n_o; clear n_b n_o hb; (try clear hczBKa0 hczBKa1 hfzBKa0 hfzBKa1); (try clear hczBKb0 hczBKb1 hfzBKb0 hfzBKb1); (try clear hczBK0 hczBK1 hfzBK0 hfzBK1); have hczBKa0 : w2.cell? ⟨ga, 0, none⟩ = some (.int .i64 sa) := (blk_cell BKa.out 0).trans rfl; have hczBKa1 : w2.cell? ⟨ga, 1, none⟩ = some (.slice A la.length c) := (blk_cell BKa.out 1).trans rfl; have hfzBKa0 := blk_frozen BKa.out 0; have hfzBKa1 := blk_frozen BKa.out 1; have hczBKb0 : w2.cell? ⟨gb, 0, none⟩ = some (.int .i64 sb) := (blk_cell BKb.out 0).trans rfl; have hczBKb1 : w2.cell? ⟨gb, 1, none⟩ = some (.slice B lb.length d) := (blk_cell BKb.out 1).trans rfl; have hfzBKb0 := blk_frozen BKb.out 0; have hfzBKb1 := blk_frozen BKb.out 1; have hczBK0 : w2.cell? ⟨gc, 0, none⟩ = some (.int .i64 0) := (blk_cell BK.out 0).trans rfl; have hczBK1 : w2.cell? ⟨gc, 1, none⟩ = some (.slice none 0 0) := (blk_cell BK.out 1).trans rfl; have hfzBK0 := blk_frozen BK.out 0; have hfzBK1 := blk_frozen BK.out 1; (obtain ⟨Av, cv_, ev⟩ := cutV_slice Ao co t2; rw [ev]))))
          refine bodyPost_ret (results_cell_row rfl _ _ gc 89 #[.int .i64 t1, .slice Av t2.length cv_] (0, 0) _ rfl (by (with_reducible repeat (first | refine blk_drewN ?_ _ | refine blk_drew ?_ | refine blk_alloc ?_ _)); refine blk_put (cs := #[.int .i64 t1, .slice none 0 0]) ?_ 1 _ rfl; (with_reducible repeat (first | refine blk_drewN ?_ _ | refine blk_drew ?_ | refine blk_alloc ?_ _)); refine blk_put (cs := #[.int .i64 0, .slice none 0 0]) ?_ 0 _ rfl; (with_reducible repeat (first | refine blk_drewN ?_ _ | refine blk_drew ?_ | refine blk_alloc ?_ _)); exact BK.out) Try.underlying89 rfl (by kernel_rfl)) rfl ?_
          refine ⟨_, rfl, ?_, (by repeat (first | (with_reducible first | exact HB.out | apply below_alloc | apply pw_below_drewN | apply below_drew1 | refine below_set ?_ GE.out) | exact HB.out))⟩
          have hR := Kd.R_set (Kd.R_set HO.out BK.out (by decide) 0 (.int .i64 t1)) (t := 89) (blk_put BK.out 0 (.int .i64 t1) rfl) (by decide) 1 (.slice Av t2.length cv_)
          have hX := XV_cut (s1 := t1) (DT.ofR hR) (Kd.R_reads' hR).2.1 (made_part _ _ _ _ _ HA6.out)
          rw [ev] at hX
          exact hX
end Go.Proofs.Ytkfbmplhcigopaa.PPlo
namespace Go.Proofs.Ytkfbmplhcigopaa.PPlo
open Go.RowKit Go.Proofs.YtkfbmplhcigopaaW.PrintWords Go.Proofs.YtkfbmplhcigopaaW.PrintLast Go.Proofs.YtkfbmplhcigopaaW.PrintMore
attribute [local go_sem] max2_int max_two
set_option maxHeartbeats 8000000 in
set_option maxRecDepth 100000 in
theorem plus_less (k : Nat) (sa : Int) (la : List Int) (A : Option Addr) (c : Nat) (sb : Int) (lb : List Int) (B : Option Addr) (d : Nat) (s1 : Int) (l1 : List Int) (w : World) (hA : DT w A la) (hc : la.length ≤ c) (hB : DT w B lb) (hd : lb.length ≤ d) (h0 : sa ≠ 0) (hb0 : sb ≠ 0) (he : sa ≠ sb) (hl : quitrentref01_least.f k la lb = some true)
    (hrec : ∀ w : World, DT w B lb → DT w A la → Calls Try.prog 63 #[.agg #[.int .i64 sb, .slice B lb.length d], .agg #[.int .i64 sa, .slice A la.length c]] w fun e w' => ∃ v, e = .returned v ∧ XV w' v s1 l1 ∧ Below w.heap.size w w') :
    Calls Try.prog 63 #[.agg #[.int .i64 sa, .slice A la.length c], .agg #[.int .i64 sb, .slice B lb.length d]] w fun e w' => ∃ v, e = .returned v ∧ XV w' v s1 l1 ∧ Below w.heap.size w w' := by
  have hu89 := Try.underlying89
  have HDa := Aside0.mk hA
  have HDb := Aside0.mk hB
  have HRa := Aside0.mk hA.now
  have HCa := Aside0.mk hc
  have HRb := Aside0.mk hB.now
  have HCb := Aside0.mk hd
  have HB := Aside0.mk (Below.refl w.heap.size w)
  clear hA hc hB hd
  have c0_0 : (sa == 0) = false := beq_eq_false_iff_ne.mpr h0
  have c0_1 : (sa != 0) = true := bne_iff_ne.mpr h0
  have c1_0 : (sb == 0) = false := beq_eq_false_iff_ne.mpr hb0
  have c1_1 : (sb != 0) = true := bne_iff_ne.mpr hb0
  have c2_0 : (sa == sb) = false := beq_eq_false_iff_ne.mpr he
  have c2_1 : (sa != sb) = true := bne_iff_ne.mpr he
  have HL := Aside0.mk hl
  clear h0 hb0 he hl
  go_enter Try.func63, Try.ntmps63
  go_wp2_with (first | ((with_reducible refine gate_dst (N := 2) rfl ?_); refine box_event ?hg (N := 2) ?hd (cs := #[.int .i64 sa, .slice A la.length c]) (t := 89) ?hr ?_; (case hd => rfl); (case hg => rfl); (case hr => first | (go_simp; done) | (go_simp; rfl)); intro ga hg wb hbox hb; have n_e := Aside0.mk ((by rw [hg]; exact (below_size HB.out)) : w.heap.size ≤ ga); have n_b := Aside0.mk (below_step HB.out hb); have n_k := Aside0.mk hbox; clear HB; have HB := n_b; have GEa := n_e; have BKa := n_k; clear n_e n_b n_k hb hbox hg) | ((with_reducible refine gate_dst (N := 3) rfl ?_); refine box_event ?hg (N := 3) ?hd (cs := #[.int .i64 sb, .slice B lb.length d]) (t := 89) ?hr ?_; (case hd => rfl); (case hg => rfl); (case hr => first | (go_simp; done) | (go_simp; rfl)); intro gb hg wb hbox hb; have n_BKa := Aside0.mk (blk_below BKa.out hb); have n_e := Aside0.mk ((by rw [hg]; exact (below_size HB.out)) : w.heap.size ≤ gb); have n_b := Aside0.mk (below_step HB.out hb); have n_k := Aside0.mk hbox; clear BKa; have BKa := n_BKa; clear n_BKa; clear HB; have HB := n_b; have GEb := n_e; have BKb := n_k; clear n_e n_b n_k hb hbox hg) | ((with_reducible refine gate_dst (N := 4) rfl ?_); refine box_event ?hg (N := 4) ?hd (cs := #[.int .i64 0, .slice none 0 0]) (t := 89) ?hr ?_; (case hd => rfl); (case hg => rfl); (case hr => first | (go_simp; done) | (go_simp; rfl)); intro gc hg wb hbox hb; have n_BKa := Aside0.mk (blk_below BKa.out hb); have n_BKb := Aside0.mk (blk_below BKb.out hb); have n_e := Aside0.mk ((by rw [hg]; exact (below_size HB.out)) : w.heap.size ≤ gc); have n_b := Aside0.mk (below_step HB.out hb); have n_k := Aside0.mk hbox; clear BKa; have BKa := n_BKa; clear n_BKa; clear BKb; have BKb := n_BKb; clear n_BKb; clear HB; have HB := n_b; have GE := n_e; have BK := n_k; clear n_e n_b n_k hb hbox hg; (try clear hczBKa0 hczBKa1 hfzBKa0 hfzBKa1); (try clear hczBKb0 hczBKb1 hfzBKb0 hfzBKb1); (try clear hczBK0 hczBK1 hfzBK0 hfzBK1); have hczBKa0 : wb.cell? ⟨ga, 0, none⟩ = some (.int .i64 sa) := (blk_cell BKa.out 0).trans rfl; have hczBKa1 : wb.cell? ⟨ga, 1, none⟩ = some (.slice A la.length c) := (blk_cell BKa.out 1).trans rfl; have hfzBKa0 := blk_frozen BKa.out 0; have hfzBKa1 := blk_frozen BKa.out 1; have hczBKb0 : wb.cell? ⟨gb, 0, none⟩ = some (.int .i64 sb) := (blk_cell BKb.out 0).trans rfl; have hczBKb1 : wb.cell? ⟨gb, 1, none⟩ = some (.slice B lb.length d) := (blk_cell BKb.out 1).trans rfl; have hfzBKb0 := blk_frozen BKb.out 0; have hfzBKb1 := blk_frozen BKb.out 1; have hczBK0 : wb.cell? ⟨gc, 0, none⟩ = some (.int .i64 0) := (blk_cell BK.out 0).trans rfl; have hczBK1 : wb.cell? ⟨gc, 1, none⟩ = some (.slice none 0 0) := (blk_cell BK.out 1).trans rfl; have hfzBK0 := blk_frozen BK.out 0; have hfzBK1 := blk_frozen BK.out 1) | ((with_reducible refine gate_dst (N := 20) rfl ?_); refine Kd.R_lit (Kd.int .i64) _ 3 ?hg (N := 20) ?hd (xs := ([] : List Int)) (inner := []) (ok := fun _ => True) (okp := fun _ => True) ?hr ?hp (fun _ hk => hk) trivial (Below.refl _ _) (Nat.le_refl _) (by simp) ?_; (case hd => rfl); (case hg => rfl); (case hr => first | (go_simp; done) | (go_simp; rfl)); (case hp => exact (Reps.none _ _)); intro vl wl ho4 hb hg_ hnew_; clear hg_ hnew_; have n_o := Aside0.mk (Kd.R_lower ho4 (below_size HB.out)); have n_BKa := Aside0.mk (blk_below BKa.out hb); have n_BKb := Aside0.mk (blk_below BKb.out hb); have n_BK := Aside0.mk (blk_below BK.out hb); have n_b := Aside0.mk (below_step HB.out hb); clear BKa; have BKa := n_BKa; clear n_BKa; clear BKb; have BKb := n_BKb; clear n_BKb; clear BK; have BK := n_BK; clear n_BK; clear HB; have HB := n_b; have HO := n_o; clear n_b n_o hb ho4; (try clear hczBKa0 hczBKa1 hfzBKa0 hfzBKa1); (try clear hczBKb0 hczBKb1 hfzBKb0 hfzBKb1); (try clear hczBK0 hczBK1 hfzBK0 hfzBK1); have hczBKa0 : wl.cell? ⟨ga, 0, none⟩ = some (.int .i64 sa) := (blk_cell BKa.out 0).trans rfl; have hczBKa1 : wl.cell? ⟨ga, 1, none⟩ = some (.slice A la.length c) := (blk_cell BKa.out 1).trans rfl; have hfzBKa0 := blk_frozen BKa.out 0; have hfzBKa1 := blk_frozen BKa.out 1; have hczBKb0 : wl.cell? ⟨gb, 0, none⟩ = some (.int .i64 sb) := (blk_cell BKb.out 0).trans rfl; have hczBKb1 : wl.cell? ⟨gb, 1, none⟩ = some (.slice B lb.length d) := (blk_cell BKb.out 1).trans rfl; have hfzBKb0 := blk_frozen BKb.out 0; have hfzBKb1 := blk_frozen BKb.out 1; have hczBK0 : wl.cell? ⟨gc, 0, none⟩ = some (.int .i64 0) := (blk_cell BK.out 0).trans rfl; have hczBK1 : wl.cell? ⟨gc, 1, none⟩ = some (.slice none 0 0) := (blk_cell BK.out 1).trans rfl; have hfzBK0 := blk_frozen BK.out 0; have hfzBK1 := blk_frozen BK.out 1) | ((with_reducible refine gate_callee (f := 80) rfl ?_); refine goesL_ (some 63) rfl rfl Try.func80 (by kernel_rfl) rfl #[.slice A la.length c, .slice B lb.length d] rfl (by (try simp only [List.map_toArray, List.map_cons, List.map_nil]); first | done | rfl) ?_; (with_reducible refine (leastC k _ _ la _ _ lb true _ ?side1 HCa.out ?side2 HCb.out HL.out).mono ?_); (case side1 => exact Kd.C_below HRa.out HB.out); (case side2 => exact Kd.C_below HRb.out HB.out); rintro e w2 ⟨rfl, hb⟩; refine ⟨_, rfl, ?_⟩; have n_BKa := Aside0.mk (blk_below BKa.out hb); have n_BKb := Aside0.mk (blk_below BKb.out hb); have n_BK := Aside0.mk (blk_below BK.out hb); have n_o := Aside0.mk (Kd.R_below HO.out hb); have n_b := Aside0.mk (below_step HB.out hb); clear BKa; have BKa := n_BKa; clear n_BKa; clear BKb; have BKb := n_BKb; clear n_BKb; clear BK; have BK := n_BK; clear n_BK; clear HB HO; have HB := n_b; have HO := n_o; clear n_b n_o hb; (try clear hczBKa0 hczBKa1 hfzBKa0 hfzBKa1); (try clear hczBKb0 hczBKb1 hfzBKb0 hfzBKb1); (try clear hczBK0 hczBK1 hfzBK0 hfzBK1); have hczBKa0 : w2.cell? ⟨ga, 0, none⟩ = some (.int .i64 sa) := (blk_cell BKa.out 0).trans rfl; have hczBKa1 : w2.cell? ⟨ga, 1, none⟩ = some (.slice A la.length c) := (blk_cell BKa.out 1).trans rfl; have hfzBKa0 := blk_frozen BKa.out 0; have hfzBKa1 := blk_frozen BKa.out 1; have hczBKb0 : w2.cell? ⟨gb, 0, none⟩ = some (.int .i64 sb) := (blk_cell BKb.out 0).trans rfl; have hczBKb1 : w2.cell? ⟨gb, 1, none⟩ = some (.slice B lb.length d) := (blk_cell BKb.out 1).trans rfl; have hfzBKb0 := blk_frozen BKb.out 0; have hfzBKb1 := blk_frozen BKb.out 1; have hczBK0 : w2.cell? ⟨gc, 0, none⟩ = some (.int .i64 0) := (blk_cell BK.out 0).trans rfl; have hczBK1 : w2.cell? ⟨gc, 1, none⟩ = some (.slice none 0 0) := (blk_cell BK.out 1).trans rfl; have hfzBK0 := blk_frozen BK.out 0; have hfzBK1 := blk_frozen BK.out 1) | ((with_reducible refine gate_callee (f := 63) rfl ?_); refine goesL_ (some 66) rfl rfl Try.func63 (by kernel_rfl) rfl #[.agg #[.int .i64 sb, .slice B lb.length d], .agg #[.int .i64 sa, .slice A la.length c]] rfl (by (try simp only [List.map_toArray, List.map_cons, List.map_nil]); first | done | rfl) ?_; (with_reducible refine (hrec _ ?side1 ?side2).mono ?_); (case side1 => exact DT.below HDb.out HB.out); (case side2 => exact DT.below HDa.out HB.out); rintro e w3 ⟨v, rfl, ⟨A3, c3, rfl, hc3, hC3⟩, hb⟩; refine ⟨_, rfl, ?_⟩; have n_BKa := Aside0.mk (blk_below BKa.out hb); have n_BKb := Aside0.mk (blk_below BKb.out hb); have n_BK := Aside0.mk (blk_below BK.out hb); have n_b := Aside0.mk (below_step HB.out hb); have HC3 := Aside0.mk hC3; have HW3 := Aside0.mk hc3; clear hc3 hC3; clear BKa; have BKa := n_BKa; clear n_BKa; clear BKb; have BKb := n_BKb; clear n_BKb; clear BK; have BK := n_BK; clear n_BK; clear HB HO; have HB := n_b; clear n_b hb; (try clear hczBKa0 hczBKa1 hfzBKa0 hfzBKa1); (try clear hczBKb0 hczBKb1 hfzBKb0 hfzBKb1); (try clear hczBK0 hczBK1 hfzBK0 hfzBK1); have hczBKa0 : w3.cell? ⟨ga, 0, none⟩ = some (.int .i64 sa) := (blk_cell BKa.out 0).trans rfl; have hczBKa1 : w3.cell? ⟨ga, 1, none⟩ = some (.slice A la.length c) := (blk_cell BKa.out 1).trans rfl; have hfzBKa0 := blk_frozen BKa.out 0; have hfzBKa1 := blk_frozen BKa.out 1; have hczBKb0 : w3.cell? ⟨gb, 0, none⟩ = some (.int .i64 sb) := (blk_cell BKb.out 0).trans rfl; have hczBKb1 : w3.cell? ⟨gb, 1, none⟩ = some (.slice B lb.length d) := (blk_cell BKb.out 1).trans rfl; have hfzBKb0 := blk_frozen BKb.out 0; have hfzBKb1 := blk_frozen BKb.out 1; have hczBK0 : w3.cell? ⟨gc, 0, none⟩ = some (.int .i64 0) := (blk_cell BK.out 0).trans rfl; have hczBK1 : w3.cell? ⟨gc, 1, none⟩ = some (.slice none 0 0) := (blk_cell BK.out 1).trans rfl; have hfzBK0 := blk_frozen BK.out 0; have hfzBK1 := blk_frozen BK.out 1))
  repeat (go_quiet (fail); try go_wp2_with (first | ((with_reducible refine gate_dst (N := 2) rfl ?_); refine box_event ?hg (N := 2) ?hd (cs := #[.int .i64 sa, .slice A la.length c]) (t := 89) ?hr ?_; (case hd => rfl); (case hg => rfl); (case hr => first | (go_simp; done) | (go_simp; rfl)); intro ga hg wb hbox hb; have n_e := Aside0.mk ((by rw [hg]; exact (below_size HB.out)) : w.heap.size ≤ ga); have n_b := Aside0.mk (below_step HB.out hb); have n_k := Aside0.mk hbox; clear HB; have HB := n_b; have GEa := n_e; have BKa := n_k; clear n_e n_b n_k hb hbox hg) | ((with_reducible refine gate_dst (N := 3) rfl ?_); refine box_event ?hg (N := 3) ?hd (cs := #[.int .i64 sb, .slice B lb.length d]) (t := 89) ?hr ?_; (case hd => rfl); (case hg => rfl); (case hr => first | (go_simp; done) | (go_simp; rfl)); intro gb hg wb hbox hb; have n_BKa := Aside0.mk (blk_below BKa.out hb); have n_e := Aside0.mk ((by rw [hg]; exact (below_size HB.out)) : w.heap.size ≤ gb); have n_b := Aside0.mk (below_step HB.out hb); have n_k := Aside0.mk hbox; clear BKa; have BKa := n_BKa; clear n_BKa; clear HB; have HB := n_b; have GEb := n_e; have BKb := n_k; clear n_e n_b n_k hb hbox hg) | ((with_reducible refine gate_dst (N := 4) rfl ?_); refine box_event ?hg (N := 4) ?hd (cs := #[.int .i64 0, .slice none 0 0]) (t := 89) ?hr ?_; (case hd => rfl); (case hg => rfl); (case hr => first | (go_simp; done) | (go_simp; rfl)); intro gc hg wb hbox hb; have n_BKa := Aside0.mk (blk_below BKa.out hb); have n_BKb := Aside0.mk (blk_below BKb.out hb); have n_e := Aside0.mk ((by rw [hg]; exact (below_size HB.out)) : w.heap.size ≤ gc); have n_b := Aside0.mk (below_step HB.out hb); have n_k := Aside0.mk hbox; clear BKa; have BKa := n_BKa; clear n_BKa; clear BKb; have BKb := n_BKb; clear n_BKb; clear HB; have HB := n_b; have GE := n_e; have BK := n_k; clear n_e n_b n_k hb hbox hg; (try clear hczBKa0 hczBKa1 hfzBKa0 hfzBKa1); (try clear hczBKb0 hczBKb1 hfzBKb0 hfzBKb1); (try clear hczBK0 hczBK1 hfzBK0 hfzBK1); have hczBKa0 : wb.cell? ⟨ga, 0, none⟩ = some (.int .i64 sa) := (blk_cell BKa.out 0).trans rfl; have hczBKa1 : wb.cell? ⟨ga, 1, none⟩ = some (.slice A la.length c) := (blk_cell BKa.out 1).trans rfl; have hfzBKa0 := blk_frozen BKa.out 0; have hfzBKa1 := blk_frozen BKa.out 1; have hczBKb0 : wb.cell? ⟨gb, 0, none⟩ = some (.int .i64 sb) := (blk_cell BKb.out 0).trans rfl; have hczBKb1 : wb.cell? ⟨gb, 1, none⟩ = some (.slice B lb.length d) := (blk_cell BKb.out 1).trans rfl; have hfzBKb0 := blk_frozen BKb.out 0; have hfzBKb1 := blk_frozen BKb.out 1; have hczBK0 : wb.cell? ⟨gc, 0, none⟩ = some (.int .i64 0) := (blk_cell BK.out 0).trans rfl; have hczBK1 : wb.cell? ⟨gc, 1, none⟩ = some (.slice none 0 0) := (blk_cell BK.out 1).trans rfl; have hfzBK0 := blk_frozen BK.out 0; have hfzBK1 := blk_frozen BK.out 1) | ((with_reducible refine gate_dst (N := 20) rfl ?_); refine Kd.R_lit (Kd.int .i64) _ 3 ?hg (N := 20) ?hd (xs := ([] : List Int)) (inner := []) (ok := fun _ => True) (okp := fun _ => True) ?hr ?hp (fun _ hk => hk) trivial (Below.refl _ _) (Nat.le_refl _) (by simp) ?_; (case hd => rfl); (case hg => rfl); (case hr => first | (go_simp; done) | (go_simp; rfl)); (case hp => exact (Reps.none _ _)); intro vl wl ho4 hb hg_ hnew_; clear hg_ hnew_; have n_o := Aside0.mk (Kd.R_lower ho4 (below_size HB.out)); have n_BKa := Aside0.mk (blk_below BKa.out hb); have n_BKb := Aside0.mk (blk_below BKb.out hb); have n_BK := Aside0.mk (blk_below BK.out hb); have n_b := Aside0.mk (below_step HB.out hb); clear BKa; have BKa := n_BKa; clear n_BKa; clear BKb; have BKb := n_BKb; clear n_BKb; clear BK; have BK := n_BK; clear n_BK; clear HB; have HB := n_b; have HO := n_o; clear n_b n_o hb ho4; (try clear hczBKa0 hczBKa1 hfzBKa0 hfzBKa1); (try clear hczBKb0 hczBKb1 hfzBKb0 hfzBKb1); (try clear hczBK0 hczBK1 hfzBK0 hfzBK1); have hczBKa0 : wl.cell? ⟨ga, 0, none⟩ = some (.int .i64 sa) := (blk_cell BKa.out 0).trans rfl; have hczBKa1 : wl.cell? ⟨ga, 1, none⟩ = some (.slice A la.length c) := (blk_cell BKa.out 1).trans rfl; have hfzBKa0 := blk_frozen BKa.out 0; have hfzBKa1 := blk_frozen BKa.out 1; have hczBKb0 : wl.cell? ⟨gb, 0, none⟩ = some (.int .i64 sb) := (blk_cell BKb.out 0).trans rfl; have hczBKb1 : wl.cell? ⟨gb, 1, none⟩ = some (.slice B lb.length d) := (blk_cell BKb.out 1).trans rfl; have hfzBKb0 := blk_frozen BKb.out 0; have hfzBKb1 := blk_frozen BKb.out 1; have hczBK0 : wl.cell? ⟨gc, 0, none⟩ = some (.int .i64 0) := (blk_cell BK.out 0).trans rfl; have hczBK1 : wl.cell? ⟨gc, 1, none⟩ = some (.slice none 0 0) := (blk_cell BK.out 1).trans rfl; have hfzBK0 := blk_frozen BK.out 0; have hfzBK1 := blk_frozen BK.out 1) | ((with_reducible refine gate_callee (f := 80) rfl ?_); refine goesL_ (some 63) rfl rfl Try.func80 (by kernel_rfl) rfl #[.slice A la.length c, .slice B lb.length d] rfl (by (try simp only [List.map_toArray, List.map_cons, List.map_nil]); first | done | rfl) ?_; (with_reducible refine (leastC k _ _ la _ _ lb true _ ?side1 HCa.out ?side2 HCb.out HL.out).mono ?_); (case side1 => exact Kd.C_below HRa.out HB.out); (case side2 => exact Kd.C_below HRb.out HB.out); rintro e w2 ⟨rfl, hb⟩; refine ⟨_, rfl, ?_⟩; have n_BKa := Aside0.mk (blk_below BKa.out hb); have n_BKb := Aside0.mk (blk_below BKb.out hb); have n_BK := Aside0.mk (blk_below BK.out hb); have n_o := Aside0.mk (Kd.R_below HO.out hb); have n_b := Aside0.mk (below_step HB.out hb); clear BKa; have BKa := n_BKa; clear n_BKa; clear BKb; have BKb := n_BKb; clear n_BKb; clear BK; have BK := n_BK; clear n_BK; clear HB HO; have HB := n_b; have HO := n_o; clear n_b n_o hb; (try clear hczBKa0 hczBKa1 hfzBKa0 hfzBKa1); (try clear hczBKb0 hczBKb1 hfzBKb0 hfzBKb1); (try clear hczBK0 hczBK1 hfzBK0 hfzBK1); have hczBKa0 : w2.cell? ⟨ga, 0, none⟩ = some (.int .i64 sa) := (blk_cell BKa.out 0).trans rfl; have hczBKa1 : w2.cell? ⟨ga, 1, none⟩ = some (.slice A la.length c) := (blk_cell BKa.out 1).trans rfl; have hfzBKa0 := blk_frozen BKa.out 0; have hfzBKa1 := blk_frozen BKa.out 1; have hczBKb0 : w2.cell? ⟨gb, 0, none⟩ = some (.int .i64 sb) := (blk_cell BKb.out 0).trans rfl; have hczBKb1 : w2.cell? ⟨gb, 1, none⟩ = some (.slice B lb.length d) := (blk_cell BKb.out 1).trans rfl; have hfzBKb0 := blk_frozen BKb.out 0; have hfzBKb1 := blk_frozen BKb.out 1; have hczBK0 : w2.cell? ⟨gc, 0, none⟩ = some (.int .i64 0) := (blk_cell BK.out 0).trans rfl; have hczBK1 : w2.cell? ⟨gc, 1, none⟩ = some (.slice none 0 0) := (blk_cell BK.out 1).trans rfl; have hfzBK0 := blk_frozen BK.out 0; have hfzBK1 := blk_frozen BK.out 1) | ((with_reducible refine gate_callee (f := 63) rfl ?_); refine goesL_ (some 66) rfl rfl Try.func63 (by kernel_rfl) rfl #[.agg #[.int .i64 sb, .slice B lb.length d], .agg #[.int .i64 sa, .slice A la.length c]] rfl (by (try simp only [List.map_toArray, List.map_cons, List.map_nil]); first | done | rfl) ?_; (with_reducible refine (hrec _ ?side1 ?side2).mono ?_); (case side1 => exact DT.below HDb.out HB.out); (case side2 => exact DT.below HDa.out HB.out); rintro e w3 ⟨v, rfl, ⟨A3, c3, rfl, hc3, hC3⟩, hb⟩; refine ⟨_, rfl, ?_⟩; have n_BKa := Aside0.mk (blk_below BKa.out hb); have n_BKb := Aside0.mk (blk_below BKb.out hb); have n_BK := Aside0.mk (blk_below BK.out hb); have n_b := Aside0.mk (below_step HB.out hb); have HC3 := Aside0.mk hC3; have HW3 := Aside0.mk hc3; clear hc3 hC3; clear BKa; have BKa := n_BKa; clear n_BKa; clear BKb; have BKb := n_BKb; clear n_BKb; clear BK; have BK := n_BK; clear n_BK; clear HB HO; have HB := n_b; clear n_b hb; (try clear hczBKa0 hczBKa1 hfzBKa0 hfzBKa1); (try clear hczBKb0 hczBKb1 hfzBKb0 hfzBKb1); (try clear hczBK0 hczBK1 hfzBK0 hfzBK1); have hczBKa0 : w3.cell? ⟨ga, 0, none⟩ = some (.int .i64 sa) := (blk_cell BKa.out 0).trans rfl; have hczBKa1 : w3.cell? ⟨ga, 1, none⟩ = some (.slice A la.length c) := (blk_cell BKa.out 1).trans rfl; have hfzBKa0 := blk_frozen BKa.out 0; have hfzBKa1 := blk_frozen BKa.out 1; have hczBKb0 : w3.cell? ⟨gb, 0, none⟩ = some (.int .i64 sb) := (blk_cell BKb.out 0).trans rfl; have hczBKb1 : w3.cell? ⟨gb, 1, none⟩ = some (.slice B lb.length d) := (blk_cell BKb.out 1).trans rfl; have hfzBKb0 := blk_frozen BKb.out 0; have hfzBKb1 := blk_frozen BKb.out 1; have hczBK0 : w3.cell? ⟨gc, 0, none⟩ = some (.int .i64 0) := (blk_cell BK.out 0).trans rfl; have hczBK1 : w3.cell? ⟨gc, 1, none⟩ = some (.slice none 0 0) := (blk_cell BK.out 1).trans rfl; have hfzBK0 := blk_frozen BK.out 0; have hfzBK1 := blk_frozen BK.out 1)))
  refine bodyPost_ret (results_cell_row rfl _ _ gc 89 #[.int .i64 s1, .slice A3 l1.length c3] (0, 0) _ rfl (by (with_reducible repeat (first | refine blk_drewN ?_ _ | refine blk_drew ?_ | refine blk_alloc ?_ _)); refine blk_put (cs := #[.int .i64 s1, .slice none 0 0]) ?_ 1 _ rfl; (with_reducible repeat (first | refine blk_drewN ?_ _ | refine blk_drew ?_ | refine blk_alloc ?_ _)); refine blk_put (cs := #[.int .i64 0, .slice none 0 0]) ?_ 0 _ rfl; (with_reducible repeat (first | refine blk_drewN ?_ _ | refine blk_drew ?_ | refine blk_alloc ?_ _)); exact BK.out) Try.underlying89 rfl (by kernel_rfl)) rfl ?_
  exact ⟨_, rfl, ⟨A3, c3, rfl, HW3.out, DT.set (DT.set HC3.out BK.out (by decide) 0 (.int .i64 s1)) (t := 89) (blk_put BK.out 0 (.int .i64 s1) rfl) (by decide) 1 (.slice A3 l1.length c3)⟩, (by repeat (first | (with_reducible first | exact HB.out | apply below_alloc | apply pw_below_drewN | apply below_drew1 | refine below_set ?_ GE.out) | exact HB.out))⟩
end Go.Proofs.Ytkfbmplhcigopaa.PPlo
namespace Go.Proofs.Ytkfbmplhcigopaa.PPlo
open Go.RowKit Go.Proofs.YtkfbmplhcigopaaW.PrintWords Go.Proofs.YtkfbmplhcigopaaW.PrintLast Go.Proofs.YtkfbmplhcigopaaW.PrintMore
attribute [local go_sem] max2_int max_two
set_option maxHeartbeats 8000000 in
set_option maxRecDepth 100000 in
theorem plus_more (k : Nat) (sa : Int) (la : List Int) (A : Option Addr) (c : Nat) (sb : Int) (lb : List Int) (B : Option Addr) (d : Nat) (s1 : Int) (l1 : List Int) (w : World) (hA : DT w A la) (hc : la.length ≤ c) (hB : DT w B lb) (hd : lb.length ≤ d) (h0 : sa ≠ 0) (hb0 : sb ≠ 0) (he : sa ≠ sb) (hl : quitrentref01_least.f k la lb = some false) (h : quitrentref01_Plus.l1 k [] 0 0 sa la sb lb = some (s1, l1)) :
    Calls Try.prog 63 #[.agg #[.int .i64 sa, .slice A la.length c], .agg #[.int .i64 sb, .slice B lb.length d]] w fun e w' => ∃ v, e = .returned v ∧ XV w' v s1 l1 ∧ Below w.heap.size w w' := by
  have hu89 := Try.underlying89
  have HDa := Aside0.mk hA
  have HDb := Aside0.mk hB
  have HRa := Aside0.mk hA.now
  have HCa := Aside0.mk hc
  have HRb := Aside0.mk hB.now
  have HCb := Aside0.mk hd
  have HB := Aside0.mk (Below.refl w.heap.size w)
  clear hA hc hB hd
  have c0_0 : (sa == 0) = false := beq_eq_false_iff_ne.mpr h0
  have c0_1 : (sa != 0) = true := bne_iff_ne.mpr h0
  have c1_0 : (sb == 0) = false := beq_eq_false_iff_ne.mpr hb0
  have c1_1 : (sb != 0) = true := bne_iff_ne.mpr hb0
  have c2_0 : (sa == sb) = false := beq_eq_false_iff_ne.mpr he
  have c2_1 : (sa != sb) = true := bne_iff_ne.mpr he
  have HL := Aside0.mk hl
  have H' := Aside0.mk h
  clear h0 hb0 he hl h
  go_enter Try.func63, Try.ntmps63
  go_wp2_with (first | ((with_reducible refine gate_dst (N := 2) rfl ?_); refine box_event ?hg (N := 2) ?hd (cs := #[.int .i64 sa, .slice A la.length c]) (t := 89) ?hr ?_; (case hd => rfl); (case hg => rfl); (case hr => first | (go_simp; done) | (go_simp; rfl)); intro ga hg wb hbox hb; have n_e := Aside0.mk ((by rw [hg]; exact (below_size HB.out)) : w.heap.size ≤ ga); have n_b := Aside0.mk (below_step HB.out hb); have n_k := Aside0.mk hbox; clear HB; have HB := n_b; have GEa := n_e; have BKa := n_k; clear n_e n_b n_k hb hbox hg) | ((with_reducible refine gate_dst (N := 3) rfl ?_); refine box_event ?hg (N := 3) ?hd (cs := #[.int .i64 sb, .slice B lb.length d]) (t := 89) ?hr ?_; (case hd => rfl); (case hg => rfl); (case hr => first | (go_simp; done) | (go_simp; rfl)); intro gb hg wb hbox hb; have n_BKa := Aside0.mk (blk_below BKa.out hb); have n_e := Aside0.mk ((by rw [hg]; exact (below_size HB.out)) : w.heap.size ≤ gb); have n_b := Aside0.mk (below_step HB.out hb); have n_k := Aside0.mk hbox; clear BKa; have BKa := n_BKa; clear n_BKa; clear HB; have HB := n_b; have GEb := n_e; have BKb := n_k; clear n_e n_b n_k hb hbox hg) | ((with_reducible refine gate_dst (N := 4) rfl ?_); refine box_event ?hg (N := 4) ?hd (cs := #[.int .i64 0, .slice none 0 0]) (t := 89) ?hr ?_; (case hd => rfl); (case hg => rfl); (case hr => first | (go_simp; done) | (go_simp; rfl)); intro gc hg wb hbox hb; have n_BKa := Aside0.mk (blk_below BKa.out hb); have n_BKb := Aside0.mk (blk_below BKb.out hb); have n_e := Aside0.mk ((by rw [hg]; exact (below_size HB.out)) : w.heap.size ≤ gc); have n_b := Aside0.mk (below_step HB.out hb); have n_k := Aside0.mk hbox; clear BKa; have BKa := n_BKa; clear n_BKa; clear BKb; have BKb := n_BKb; clear n_BKb; clear HB; have HB := n_b; have GE := n_e; have BK := n_k; clear n_e n_b n_k hb hbox hg; (try clear hczBKa0 hczBKa1 hfzBKa0 hfzBKa1); (try clear hczBKb0 hczBKb1 hfzBKb0 hfzBKb1); (try clear hczBK0 hczBK1 hfzBK0 hfzBK1); have hczBKa0 : wb.cell? ⟨ga, 0, none⟩ = some (.int .i64 sa) := (blk_cell BKa.out 0).trans rfl; have hczBKa1 : wb.cell? ⟨ga, 1, none⟩ = some (.slice A la.length c) := (blk_cell BKa.out 1).trans rfl; have hfzBKa0 := blk_frozen BKa.out 0; have hfzBKa1 := blk_frozen BKa.out 1; have hczBKb0 : wb.cell? ⟨gb, 0, none⟩ = some (.int .i64 sb) := (blk_cell BKb.out 0).trans rfl; have hczBKb1 : wb.cell? ⟨gb, 1, none⟩ = some (.slice B lb.length d) := (blk_cell BKb.out 1).trans rfl; have hfzBKb0 := blk_frozen BKb.out 0; have hfzBKb1 := blk_frozen BKb.out 1; have hczBK0 : wb.cell? ⟨gc, 0, none⟩ = some (.int .i64 0) := (blk_cell BK.out 0).trans rfl; have hczBK1 : wb.cell? ⟨gc, 1, none⟩ = some (.slice none 0 0) := (blk_cell BK.out 1).trans rfl; have hfzBK0 := blk_frozen BK.out 0; have hfzBK1 := blk_frozen BK.out 1) | ((with_reducible refine gate_dst (N := 20) rfl ?_); refine Kd.R_lit (Kd.int .i64) _ 3 ?hg (N := 20) ?hd (xs := ([] : List Int)) (inner := []) (ok := fun _ => True) (okp := fun _ => True) ?hr ?hp (fun _ hk => hk) trivial (Below.refl _ _) (Nat.le_refl _) (by simp) ?_; (case hd => rfl); (case hg => rfl); (case hr => first | (go_simp; done) | (go_simp; rfl)); (case hp => exact (Reps.none _ _)); intro vl wl ho4 hb hg_ hnew_; clear hg_ hnew_; have n_o := Aside0.mk (Kd.R_lower ho4 (below_size HB.out)); have n_BKa := Aside0.mk (blk_below BKa.out hb); have n_BKb := Aside0.mk (blk_below BKb.out hb); have n_BK := Aside0.mk (blk_below BK.out hb); have n_b := Aside0.mk (below_step HB.out hb); clear BKa; have BKa := n_BKa; clear n_BKa; clear BKb; have BKb := n_BKb; clear n_BKb; clear BK; have BK := n_BK; clear n_BK; clear HB; have HB := n_b; have HO := n_o; clear n_b n_o hb ho4; (try clear hczBKa0 hczBKa1 hfzBKa0 hfzBKa1); (try clear hczBKb0 hczBKb1 hfzBKb0 hfzBKb1); (try clear hczBK0 hczBK1 hfzBK0 hfzBK1); have hczBKa0 : wl.cell? ⟨ga, 0, none⟩ = some (.int .i64 sa) := (blk_cell BKa.out 0).trans rfl; have hczBKa1 : wl.cell? ⟨ga, 1, none⟩ = some (.slice A la.length c) := (blk_cell BKa.out 1).trans rfl; have hfzBKa0 := blk_frozen BKa.out 0; have hfzBKa1 := blk_frozen BKa.out 1; have hczBKb0 : wl.cell? ⟨gb, 0, none⟩ = some (.int .i64 sb) := (blk_cell BKb.out 0).trans rfl; have hczBKb1 : wl.cell? ⟨gb, 1, none⟩ = some (.slice B lb.length d) := (blk_cell BKb.out 1).trans rfl; have hfzBKb0 := blk_frozen BKb.out 0; have hfzBKb1 := blk_frozen BKb.out 1; have hczBK0 : wl.cell? ⟨gc, 0, none⟩ = some (.int .i64 0) := (blk_cell BK.out 0).trans rfl; have hczBK1 : wl.cell? ⟨gc, 1, none⟩ = some (.slice none 0 0) := (blk_cell BK.out 1).trans rfl; have hfzBK0 := blk_frozen BK.out 0; have hfzBK1 := blk_frozen BK.out 1) | ((with_reducible refine gate_callee (f := 80) rfl ?_); refine goesL_ (some 63) rfl rfl Try.func80 (by kernel_rfl) rfl #[.slice A la.length c, .slice B lb.length d] rfl (by (try simp only [List.map_toArray, List.map_cons, List.map_nil]); first | done | rfl) ?_; (with_reducible refine (leastC k _ _ la _ _ lb false _ ?side1 HCa.out ?side2 HCb.out HL.out).mono ?_); (case side1 => exact Kd.C_below HRa.out HB.out); (case side2 => exact Kd.C_below HRb.out HB.out); rintro e w2 ⟨rfl, hb⟩; refine ⟨_, rfl, ?_⟩; have n_BKa := Aside0.mk (blk_below BKa.out hb); have n_BKb := Aside0.mk (blk_below BKb.out hb); have n_BK := Aside0.mk (blk_below BK.out hb); have n_o := Aside0.mk (Kd.R_below HO.out hb); have n_b := Aside0.mk (below_step HB.out hb); clear BKa; have BKa := n_BKa; clear n_BKa; clear BKb; have BKb := n_BKb; clear n_BKb; clear BK; have BK := n_BK; clear n_BK; clear HB HO; have HB := n_b; have HO := n_o; clear n_b n_o hb; (try clear hczBKa0 hczBKa1 hfzBKa0 hfzBKa1); (try clear hczBKb0 hczBKb1 hfzBKb0 hfzBKb1); (try clear hczBK0 hczBK1 hfzBK0 hfzBK1); have hczBKa0 : w2.cell? ⟨ga, 0, none⟩ = some (.int .i64 sa) := (blk_cell BKa.out 0).trans rfl; have hczBKa1 : w2.cell? ⟨ga, 1, none⟩ = some (.slice A la.length c) := (blk_cell BKa.out 1).trans rfl; have hfzBKa0 := blk_frozen BKa.out 0; have hfzBKa1 := blk_frozen BKa.out 1; have hczBKb0 : w2.cell? ⟨gb, 0, none⟩ = some (.int .i64 sb) := (blk_cell BKb.out 0).trans rfl; have hczBKb1 : w2.cell? ⟨gb, 1, none⟩ = some (.slice B lb.length d) := (blk_cell BKb.out 1).trans rfl; have hfzBKb0 := blk_frozen BKb.out 0; have hfzBKb1 := blk_frozen BKb.out 1; have hczBK0 : w2.cell? ⟨gc, 0, none⟩ = some (.int .i64 0) := (blk_cell BK.out 0).trans rfl; have hczBK1 : w2.cell? ⟨gc, 1, none⟩ = some (.slice none 0 0) := (blk_cell BK.out 1).trans rfl; have hfzBK0 := blk_frozen BK.out 0; have hfzBK1 := blk_frozen BK.out 1))
  repeat (go_quiet (fail); try go_wp2_with (first | ((with_reducible refine gate_dst (N := 2) rfl ?_); refine box_event ?hg (N := 2) ?hd (cs := #[.int .i64 sa, .slice A la.length c]) (t := 89) ?hr ?_; (case hd => rfl); (case hg => rfl); (case hr => first | (go_simp; done) | (go_simp; rfl)); intro ga hg wb hbox hb; have n_e := Aside0.mk ((by rw [hg]; exact (below_size HB.out)) : w.heap.size ≤ ga); have n_b := Aside0.mk (below_step HB.out hb); have n_k := Aside0.mk hbox; clear HB; have HB := n_b; have GEa := n_e; have BKa := n_k; clear n_e n_b n_k hb hbox hg) | ((with_reducible refine gate_dst (N := 3) rfl ?_); refine box_event ?hg (N := 3) ?hd (cs := #[.int .i64 sb, .slice B lb.length d]) (t := 89) ?hr ?_; (case hd => rfl); (case hg => rfl); (case hr => first | (go_simp; done) | (go_simp; rfl)); intro gb hg wb hbox hb; have n_BKa := Aside0.mk (blk_below BKa.out hb); have n_e := Aside0.mk ((by rw [hg]; exact (below_size HB.out)) : w.heap.size ≤ gb); have n_b := Aside0.mk (below_step HB.out hb); have n_k := Aside0.mk hbox; clear BKa; have BKa := n_BKa; clear n_BKa; clear HB; have HB := n_b; have GEb := n_e; have BKb := n_k; clear n_e n_b n_k hb hbox hg) | ((with_reducible refine gate_dst (N := 4) rfl ?_); refine box_event ?hg (N := 4) ?hd (cs := #[.int .i64 0, .slice none 0 0]) (t := 89) ?hr ?_; (case hd => rfl); (case hg => rfl); (case hr => first | (go_simp; done) | (go_simp; rfl)); intro gc hg wb hbox hb; have n_BKa := Aside0.mk (blk_below BKa.out hb); have n_BKb := Aside0.mk (blk_below BKb.out hb); have n_e := Aside0.mk ((by rw [hg]; exact (below_size HB.out)) : w.heap.size ≤ gc); have n_b := Aside0.mk (below_step HB.out hb); have n_k := Aside0.mk hbox; clear BKa; have BKa := n_BKa; clear n_BKa; clear BKb; have BKb := n_BKb; clear n_BKb; clear HB; have HB := n_b; have GE := n_e; have BK := n_k; clear n_e n_b n_k hb hbox hg; (try clear hczBKa0 hczBKa1 hfzBKa0 hfzBKa1); (try clear hczBKb0 hczBKb1 hfzBKb0 hfzBKb1); (try clear hczBK0 hczBK1 hfzBK0 hfzBK1); have hczBKa0 : wb.cell? ⟨ga, 0, none⟩ = some (.int .i64 sa) := (blk_cell BKa.out 0).trans rfl; have hczBKa1 : wb.cell? ⟨ga, 1, none⟩ = some (.slice A la.length c) := (blk_cell BKa.out 1).trans rfl; have hfzBKa0 := blk_frozen BKa.out 0; have hfzBKa1 := blk_frozen BKa.out 1; have hczBKb0 : wb.cell? ⟨gb, 0, none⟩ = some (.int .i64 sb) := (blk_cell BKb.out 0).trans rfl; have hczBKb1 : wb.cell? ⟨gb, 1, none⟩ = some (.slice B lb.length d) := (blk_cell BKb.out 1).trans rfl; have hfzBKb0 := blk_frozen BKb.out 0; have hfzBKb1 := blk_frozen BKb.out 1; have hczBK0 : wb.cell? ⟨gc, 0, none⟩ = some (.int .i64 0) := (blk_cell BK.out 0).trans rfl; have hczBK1 : wb.cell? ⟨gc, 1, none⟩ = some (.slice none 0 0) := (blk_cell BK.out 1).trans rfl; have hfzBK0 := blk_frozen BK.out 0; have hfzBK1 := blk_frozen BK.out 1) | ((with_reducible refine gate_dst (N := 20) rfl ?_); refine Kd.R_lit (Kd.int .i64) _ 3 ?hg (N := 20) ?hd (xs := ([] : List Int)) (inner := []) (ok := fun _ => True) (okp := fun _ => True) ?hr ?hp (fun _ hk => hk) trivial (Below.refl _ _) (Nat.le_refl _) (by simp) ?_; (case hd => rfl); (case hg => rfl); (case hr => first | (go_simp; done) | (go_simp; rfl)); (case hp => exact (Reps.none _ _)); intro vl wl ho4 hb hg_ hnew_; clear hg_ hnew_; have n_o := Aside0.mk (Kd.R_lower ho4 (below_size HB.out)); have n_BKa := Aside0.mk (blk_below BKa.out hb); have n_BKb := Aside0.mk (blk_below BKb.out hb); have n_BK := Aside0.mk (blk_below BK.out hb); have n_b := Aside0.mk (below_step HB.out hb); clear BKa; have BKa := n_BKa; clear n_BKa; clear BKb; have BKb := n_BKb; clear n_BKb; clear BK; have BK := n_BK; clear n_BK; clear HB; have HB := n_b; have HO := n_o; clear n_b n_o hb ho4; (try clear hczBKa0 hczBKa1 hfzBKa0 hfzBKa1); (try clear hczBKb0 hczBKb1 hfzBKb0 hfzBKb1); (try clear hczBK0 hczBK1 hfzBK0 hfzBK1); have hczBKa0 : wl.cell? ⟨ga, 0, none⟩ = some (.int .i64 sa) := (blk_cell BKa.out 0).trans rfl; have hczBKa1 : wl.cell? ⟨ga, 1, none⟩ = some (.slice A la.length c) := (blk_cell BKa.out 1).trans rfl; have hfzBKa0 := blk_frozen BKa.out 0; have hfzBKa1 := blk_frozen BKa.out 1; have hczBKb0 : wl.cell? ⟨gb, 0, none⟩ = some (.int .i64 sb) := (blk_cell BKb.out 0).trans rfl; have hczBKb1 : wl.cell? ⟨gb, 1, none⟩ = some (.slice B lb.length d) := (blk_cell BKb.out 1).trans rfl; have hfzBKb0 := blk_frozen BKb.out 0; have hfzBKb1 := blk_frozen BKb.out 1; have hczBK0 : wl.cell? ⟨gc, 0, none⟩ = some (.int .i64 0) := (blk_cell BK.out 0).trans rfl; have hczBK1 : wl.cell? ⟨gc, 1, none⟩ = some (.slice none 0 0) := (blk_cell BK.out 1).trans rfl; have hfzBK0 := blk_frozen BK.out 0; have hfzBK1 := blk_frozen BK.out 1) | ((with_reducible refine gate_callee (f := 80) rfl ?_); refine goesL_ (some 63) rfl rfl Try.func80 (by kernel_rfl) rfl #[.slice A la.length c, .slice B lb.length d] rfl (by (try simp only [List.map_toArray, List.map_cons, List.map_nil]); first | done | rfl) ?_; (with_reducible refine (leastC k _ _ la _ _ lb false _ ?side1 HCa.out ?side2 HCb.out HL.out).mono ?_); (case side1 => exact Kd.C_below HRa.out HB.out); (case side2 => exact Kd.C_below HRb.out HB.out); rintro e w2 ⟨rfl, hb⟩; refine ⟨_, rfl, ?_⟩; have n_BKa := Aside0.mk (blk_below BKa.out hb); have n_BKb := Aside0.mk (blk_below BKb.out hb); have n_BK := Aside0.mk (blk_below BK.out hb); have n_o := Aside0.mk (Kd.R_below HO.out hb); have n_b := Aside0.mk (below_step HB.out hb); clear BKa; have BKa := n_BKa; clear n_BKa; clear BKb; have BKb := n_BKb; clear n_BKb; clear BK; have BK := n_BK; clear n_BK; clear HB HO; have HB := n_b; have HO := n_o; clear n_b n_o hb; (try clear hczBKa0 hczBKa1 hfzBKa0 hfzBKa1); (try clear hczBKb0 hczBKb1 hfzBKb0 hfzBKb1); (try clear hczBK0 hczBK1 hfzBK0 hfzBK1); have hczBKa0 : w2.cell? ⟨ga, 0, none⟩ = some (.int .i64 sa) := (blk_cell BKa.out 0).trans rfl; have hczBKa1 : w2.cell? ⟨ga, 1, none⟩ = some (.slice A la.length c) := (blk_cell BKa.out 1).trans rfl; have hfzBKa0 := blk_frozen BKa.out 0; have hfzBKa1 := blk_frozen BKa.out 1; have hczBKb0 : w2.cell? ⟨gb, 0, none⟩ = some (.int .i64 sb) := (blk_cell BKb.out 0).trans rfl; have hczBKb1 : w2.cell? ⟨gb, 1, none⟩ = some (.slice B lb.length d) := (blk_cell BKb.out 1).trans rfl; have hfzBKb0 := blk_frozen BKb.out 0; have hfzBKb1 := blk_frozen BKb.out 1; have hczBK0 : w2.cell? ⟨gc, 0, none⟩ = some (.int .i64 0) := (blk_cell BK.out 0).trans rfl; have hczBK1 : w2.cell? ⟨gc, 1, none⟩ = some (.slice none 0 0) := (blk_cell BK.out 1).trans rfl; have hfzBK0 := blk_frozen BK.out 0; have hfzBK1 := blk_frozen BK.out 1)))
  clear HL
  go_loopg [5, 9, 10] k (fun kq v5 v9 v10 w' => ∃ (x5 : List Int) (x6 x7 : Int), v9 = .int .i64 x6 ∧ v10 = .int .i64 x7 ∧ Aside0 (quitrentref01_Plus.l1 kq x5 x6 x7 sa la sb lb = some (s1, l1)) ∧ Aside0 (kq ≤ k) ∧ Aside0 (Kd.R (Kd.int .i64) 3 w' w.heap.size (fun _ => True) v5 x5) ∧ Aside0 (w'.heap[ga]? = some (.cells #[.int .i64 sa, .slice A la.length c] 89 (0, 0))) ∧ Aside0 (w'.heap[gb]? = some (.cells #[.int .i64 sb, .slice B lb.length d] 89 (0, 0))) ∧ Aside0 (w'.heap[gc]? = some (.cells #[.int .i64 0, .slice none 0 0] 89 (0, 0))) ∧ Aside0 (Below w.heap.size w w'))
  case atStart => exact ⟨[], 0, 0, (by first | rfl | (simp; done) | (simp [*]; done)), (by first | rfl | (simp; done) | (simp [*]; done)), H', ⟨Nat.le_refl _⟩, ⟨(by (with_reducible repeat (first | apply Kd.R_alloc | apply Kd.R_drewN | apply Kd.R_drew)); exact HO.out)⟩, ⟨(by (with_reducible repeat (first | refine blk_drewN ?_ _ | refine blk_drew ?_ | refine blk_alloc ?_ _)); exact BKa.out)⟩, ⟨(by (with_reducible repeat (first | refine blk_drewN ?_ _ | refine blk_drew ?_ | refine blk_alloc ?_ _)); exact BKb.out)⟩, ⟨(by (with_reducible repeat (first | refine blk_drewN ?_ _ | refine blk_drew ?_ | refine blk_alloc ?_ _)); exact BK.out)⟩, ⟨(by repeat (first | (with_reducible first | exact HB.out | apply below_alloc | apply pw_below_drewN | apply below_drew1 | refine below_set ?_ GE.out) | exact HB.out))⟩⟩
  case round =>
    clear H'
    clear hczBKa0 hczBKa1 hfzBKa0 hfzBKa1 hczBKb0 hczBKb1 hfzBKb0 hfzBKb1 hczBK0 hczBK1 hfzBK0 hfzBK1
    obtain ⟨x5, x6, x7, rfl, rfl, HA, HK1, HO, BKa, BKb, BK, HB⟩ := hrel
    cases gk with
    | zero => exact absurd HA.out (by simp [quitrentref01_Plus.l1])
    | succ k1 =>
      have H := HA.out
      clear HA
      simp only [quitrentref01_Plus.l1] at H
      (try clear hczBKa0 hczBKa1 hfzBKa0 hfzBKa1)
      (try clear hczBKb0 hczBKb1 hfzBKb0 hfzBKb1)
      (try clear hczBK0 hczBK1 hfzBK0 hfzBK1)
      have hczBKa0 : wr.cell? ⟨ga, 0, none⟩ = some (.int .i64 sa) := (blk_cell BKa.out 0).trans rfl
      have hczBKa1 : wr.cell? ⟨ga, 1, none⟩ = some (.slice A la.length c) := (blk_cell BKa.out 1).trans rfl
      have hfzBKa0 := blk_frozen BKa.out 0
      have hfzBKa1 := blk_frozen BKa.out 1
      have hczBKb0 : wr.cell? ⟨gb, 0, none⟩ = some (.int .i64 sb) := (blk_cell BKb.out 0).trans rfl
      have hczBKb1 : wr.cell? ⟨gb, 1, none⟩ = some (.slice B lb.length d) := (blk_cell BKb.out 1).trans rfl
      have hfzBKb0 := blk_frozen BKb.out 0
      have hfzBKb1 := blk_frozen BKb.out 1
      have hczBK0 : wr.cell? ⟨gc, 0, none⟩ = some (.int .i64 0) := (blk_cell BK.out 0).trans rfl
      have hczBK1 : wr.cell? ⟨gc, 1, none⟩ = some (.slice none 0 0) := (blk_cell BK.out 1).trans rfl
      have hfzBK0 := blk_frozen BK.out 0
      have hfzBK1 := blk_frozen BK.out 1
      by_cases c4 : x7 < (la.length : Int)
      · rw [if_pos c4] at H
        have c4b := decide_eq_true c4
        by_cases c5 : 0 ≤ x7
        · rw [if_pos c5] at H
          have c5b := decide_eq_true c5
          obtain ⟨ad, ea, hx⟩ := Kd.at_int HRa.out x7 c5 c4
          cases ea
          replace hx := (HB.out.cell (World.block_lt_of_cell? w _ hx)).trans hx
          have p4 := eq_true c4
          have p5 := eq_true c5
          clear c4 c5
          obtain ⟨t2, A6, H⟩ := Option.bind_eq_some_iff.mp H
          have HA6 := Aside0.mk A6
          clear A6
          by_cases c6 : x5.length < 17592186044416
          · rw [if_pos c6] at H
            have HL := Aside0.mk c6
            have H' := Aside0.mk H
            clear c6 H
            go_wp2_with (first | ((with_reducible refine gate_callee (f := 78) rfl ?_); refine goesL_ (some 83) rfl rfl Try.func78 (by kernel_rfl) rfl #[.slice B lb.length d, .int .i64 x7] rfl (by (try simp only [List.map_toArray, List.map_cons, List.map_nil]); first | done | rfl) ?_; (with_reducible refine (quitrentref01_at.calls _ _ lb x7 t2 _ ?side1 ?side2 HA6.out).mono ?_); (case side1 => repeat (first | exact (Kd.C_below HRb.out (by repeat (first | (with_reducible first | exact HB.out | apply below_alloc | apply pw_below_drewN | apply below_drew1 | refine below_set ?_ GE.out) | exact HB.out))) | (with_reducible refine Kd.C_alloc ?_ _) | (with_reducible refine Kd.C_drewN ?_ _) | (with_reducible refine Kd.C_drew ?_))); (case side2 => exact HCb.out); rintro e w2 ⟨rfl, ⟨nd, rfl⟩⟩; refine ⟨_, rfl, ?_⟩) | ((with_reducible refine gate_builtin (b := .append) (xs := #[.tmp 87, .tmp 90]) rfl ?_); at_builtin; refine Kd.R_append (Kd.int .i64) (w0 := w) w.heap.size rfl (.tmp 87) (.tmp 90) 85 3 (.int .i64 0) 8 rfl Try.underlying85 info3 rfl (by decide) (by omega) u5 x5 (Int.tmod (wrap64 ((wrap64 ((wrap64 (1000 + (rd la x7))) - t2)) - x6)) 1000) [.int .i64 (Int.tmod (wrap64 ((wrap64 ((wrap64 (1000 + (rd la x7))) - t2)) - x6)) 1000)] (fun _ => True) (fun _ => False) rfl rfl ?aP (fun _ hk => hk.elim) (fun _ _ => trivial) ?aO ?aB ?aS ?aL ?_; (case aP => exact rfl); (case aB => exact (by repeat (first | (with_reducible first | exact HB.out | apply below_alloc | apply pw_below_drewN | apply below_drew1 | refine below_set ?_ GE.out) | exact HB.out))); (case aO => exact (by (with_reducible repeat (first | apply Kd.R_alloc | apply Kd.R_drewN | apply Kd.R_drew)); exact HO.out)); (case aS => exact (below_size (by repeat (first | (with_reducible first | exact HB.out | apply below_alloc | apply pw_below_drewN | apply below_drew1 | refine below_set ?_ GE.out) | exact HB.out)))); (case aL => have := HL.out; omega); intro va wa ho hb hg hat; have n_BKa := Aside0.mk (blk_grown (by (with_reducible repeat (first | refine blk_drewN ?_ _ | refine blk_drew ?_ | refine blk_alloc ?_ _)); exact BKa.out) hg (Kd.R_ne HO.out BKa.out (by decide))); have n_BKb := Aside0.mk (blk_grown (by (with_reducible repeat (first | refine blk_drewN ?_ _ | refine blk_drew ?_ | refine blk_alloc ?_ _)); exact BKb.out) hg (Kd.R_ne HO.out BKb.out (by decide))); have n_BK := Aside0.mk (blk_grown (by (with_reducible repeat (first | refine blk_drewN ?_ _ | refine blk_drew ?_ | refine blk_alloc ?_ _)); exact BK.out) hg (Kd.R_ne HO.out BK.out (by decide))); have n_b := Aside0.mk hb; have n_o := Aside0.mk ho; clear BKa; have BKa := n_BKa; clear n_BKa; clear BKb; have BKb := n_BKb; clear n_BKb; clear BK; have BK := n_BK; clear n_BK; clear HB HO; have HB := n_b; have HO := n_o; clear n_b n_o ho hb hg hat))
            repeat (go_quiet (first | (go_at_call 78; (with_reducible refine (quitrentref01_at.calls _ _ lb x7 t2 _ ?side1 ?side2 HA6.out).mono ?_); (case side1 => repeat (first | exact (Kd.C_below HRb.out HB.out) | (with_reducible refine Kd.C_alloc ?_ _) | (with_reducible refine Kd.C_drewN ?_ _) | (with_reducible refine Kd.C_drew ?_))); (case side2 => exact HCb.out); rintro e w3 ⟨rfl, ⟨nd, rfl⟩⟩; (try first | exact ⟨rfl, _, World.drewN_drewN _ _ _⟩ | exact ⟨rfl, _, Eq.trans (World.drewN_drewN _ _ _) (congrArg (World.drewN _) (Nat.add_assoc _ _ _))⟩))); try go_wp2_with (first | ((with_reducible refine gate_callee (f := 78) rfl ?_); refine goesL_ (some 83) rfl rfl Try.func78 (by kernel_rfl) rfl #[.slice B lb.length d, .int .i64 x7] rfl (by (try simp only [List.map_toArray, List.map_cons, List.map_nil]); first | done | rfl) ?_; (with_reducible refine (quitrentref01_at.calls _ _ lb x7 t2 _ ?side1 ?side2 HA6.out).mono ?_); (case side1 => repeat (first | exact (Kd.C_below HRb.out (by repeat (first | (with_reducible first | exact HB.out | apply below_alloc | apply pw_below_drewN | apply below_drew1 | refine below_set ?_ GE.out) | exact HB.out))) | (with_reducible refine Kd.C_alloc ?_ _) | (with_reducible refine Kd.C_drewN ?_ _) | (with_reducible refine Kd.C_drew ?_))); (case side2 => exact HCb.out); rintro e w2 ⟨rfl, ⟨nd, rfl⟩⟩; refine ⟨_, rfl, ?_⟩) | ((with_reducible refine gate_builtin (b := .append) (xs := #[.tmp 87, .tmp 90]) rfl ?_); at_builtin; refine Kd.R_append (Kd.int .i64) (w0 := w) w.heap.size rfl (.tmp 87) (.tmp 90) 85 3 (.int .i64 0) 8 rfl Try.underlying85 info3 rfl (by decide) (by omega) u5 x5 (Int.tmod (wrap64 ((wrap64 ((wrap64 (1000 + (rd la x7))) - t2)) - x6)) 1000) [.int .i64 (Int.tmod (wrap64 ((wrap64 ((wrap64 (1000 + (rd la x7))) - t2)) - x6)) 1000)] (fun _ => True) (fun _ => False) rfl rfl ?aP (fun _ hk => hk.elim) (fun _ _ => trivial) ?aO ?aB ?aS ?aL ?_; (case aP => exact rfl); (case aB => exact (by repeat (first | (with_reducible first | exact HB.out | apply below_alloc | apply pw_below_drewN | apply below_drew1 | refine below_set ?_ GE.out) | exact HB.out))); (case aO => exact (by (with_reducible repeat (first | apply Kd.R_alloc | apply Kd.R_drewN | apply Kd.R_drew)); exact HO.out)); (case aS => exact (below_size (by repeat (first | (with_reducible first | exact HB.out | apply below_alloc | apply pw_below_drewN | apply below_drew1 | refine below_set ?_ GE.out) | exact HB.out)))); (case aL => have := HL.out; omega); intro va wa ho hb hg hat; have n_BKa := Aside0.mk (blk_grown (by (with_reducible repeat (first | refine blk_drewN ?_ _ | refine blk_drew ?_ | refine blk_alloc ?_ _)); exact BKa.out) hg (Kd.R_ne HO.out BKa.out (by decide))); have n_BKb := Aside0.mk (blk_grown (by (with_reducible repeat (first | refine blk_drewN ?_ _ | refine blk_drew ?_ | refine blk_alloc ?_ _)); exact BKb.out) hg (Kd.R_ne HO.out BKb.out (by decide))); have n_BK := Aside0.mk (blk_grown (by (with_reducible repeat (first | refine blk_drewN ?_ _ | refine blk_drew ?_ | refine blk_alloc ?_ _)); exact BK.out) hg (Kd.R_ne HO.out BK.out (by decide))); have n_b := Aside0.mk hb; have n_o := Aside0.mk ho; clear BKa; have BKa := n_BKa; clear n_BKa; clear BKb; have BKb := n_BKb; clear n_BKb; clear BK; have BK := n_BK; clear n_BK; clear HB HO; have HB := n_b; have HO := n_o; clear n_b n_o ho hb hg hat)))
            go_roundg k1
            case measure => have := HK1.out; omega
            case rel => exact ⟨_, _, _, (by first | rfl | (simp; done) | (simp [*]; done)), (by first | rfl | (simp; done) | (simp [*]; done)), H', ⟨by have := HK1.out; omega⟩, ⟨(by (with_reducible repeat (first | apply Kd.R_alloc | apply Kd.R_drewN | apply Kd.R_drew)); exact HO.out)⟩, ⟨(by (with_reducible repeat (first | refine blk_drewN ?_ _ | refine blk_drew ?_ | refine blk_alloc ?_ _)); exact BKa.out)⟩, ⟨(by (with_reducible repeat (first | refine blk_drewN ?_ _ | refine blk_drew ?_ | refine blk_alloc ?_ _)); exact BKb.out)⟩, ⟨(by (with_reducible repeat (first | refine blk_drewN ?_ _ | refine blk_drew ?_ | refine blk_alloc ?_ _)); exact BK.out)⟩, ⟨(by repeat (first | (with_reducible first | exact HB.out | apply below_alloc | apply pw_below_drewN | apply below_drew1 | refine below_set ?_ GE.out) | exact HB.out))⟩⟩
          · rw [if_neg c6] at H
            exact absurd H (by simp)
        · rw [if_neg c5] at H
          exact absurd H (by simp)
      · rw [if_neg c4] at H
        have c4b := decide_eq_false c4
        clear c4
        obtain ⟨⟨t1, t2⟩, A6, H⟩ := Option.bind_eq_some_iff.mp H
        simp only [Option.some.injEq, Prod.mk.injEq] at H
        obtain ⟨rfl, rfl⟩ := H
        have HA6 := Aside0.mk A6
        clear A6
        obtain ⟨Ao, co, e4⟩ := Kd.R_slice HO.out
        subst e4
        go_wp2_with (first | ((with_reducible refine gate_callee (f := 79) rfl ?_); refine goesL_ (some 98) rfl rfl Try.func79 (by kernel_rfl) rfl #[.int .i64 sa, .slice Ao x5.length co] rfl (by (try simp only [List.map_toArray, List.map_cons, List.map_nil]); first | done | rfl) ?_; (with_reducible refine (madeC _ sa _ _ x5 t1 t2 _ ?side1 ?side2 HA6.out).mono ?_); (case side1 => exact (Kd.R_reads' HO.out).2.2); (case side2 => exact (Kd.R_reads' HO.out).2.1); rintro e w2 ⟨rfl, hb⟩; refine ⟨_, rfl, ?_⟩; have n_o := Aside0.mk (Kd.R_below HO.out hb); have n_BKa := Aside0.mk (blk_below BKa.out hb); have n_BKb := Aside0.mk (blk_below BKb.out hb); have n_BK := Aside0.mk (blk_below BK.out hb); have n_b := Aside0.mk (below_step HB.out hb); clear BKa; have BKa := n_BKa; clear n_BKa; clear BKb; have BKb := n_BKb; clear n_BKb; clear BK; have BK := n_BK; clear n_BK; clear HB HO; have HB := n_b; have HO := n_o; clear n_b n_o hb; (try clear hczBKa0 hczBKa1 hfzBKa0 hfzBKa1); (try clear hczBKb0 hczBKb1 hfzBKb0 hfzBKb1); (try clear hczBK0 hczBK1 hfzBK0 hfzBK1); have hczBKa0 : w2.cell? ⟨ga, 0, none⟩ = some (.int .i64 sa) := (blk_cell BKa.out 0).trans rfl; have hczBKa1 : w2.cell? ⟨ga, 1, none⟩ = some (.slice A la.length c) := (blk_cell BKa.out 1).trans rfl; have hfzBKa0 := blk_frozen BKa.out 0; have hfzBKa1 := blk_frozen BKa.out 1; have hczBKb0 : w2.cell? ⟨gb, 0, none⟩ = some (.int .i64 sb) := (blk_cell BKb.out 0).trans rfl; have hczBKb1 : w2.cell? ⟨gb, 1, none⟩ = some (.slice B lb.length d) := (blk_cell BKb.out 1).trans rfl; have hfzBKb0 := blk_frozen BKb.out 0; have hfzBKb1 := blk_frozen BKb.out 1; have hczBK0 : w2.cell? ⟨gc, 0, none⟩ = some (.int .i64 0) := (blk_cell BK.out 0).trans rfl; have hczBK1 : w2.cell? ⟨gc, 1, none⟩ = some (.slice none 0 0) := (blk_cell BK.out 1).trans rfl; have hfzBK0 := blk_frozen BK.out 0; have hfzBK1 := blk_frozen BK.out 1; (obtain ⟨Av, cv_, ev⟩ := cutV_slice Ao co t2; rw [ev])))
        repeat (go_quiet (fail); try go_wp2_with (first | ((with_reducible refine gate_callee (f := 79) rfl ?_); refine goesL_ (some 98) rfl rfl Try.func79 (by kernel_rfl) rfl #[.int .i64 sa, .slice Ao x5.length co] rfl (by (try simp only [List.map_toArray, List.map_cons, List.map_nil]); first | done | rfl) ?_; (with_reducible refine (madeC _ sa _ _ x5 t1 t2 _ ?side1 ?side2 HA6.out).mono ?_); (case side1 => exact (Kd.R_reads' HO.out).2.2); (case side2 => exact (Kd.R_reads' HO.out).2.1); rintro e w2 ⟨rfl, hb⟩; refine ⟨_, rfl, ?_⟩; have n_o := Aside0.mk (Kd.R_below HO.out hb); have n_BKa := Aside0.mk (blk_below BKa.out hb); have n_BKb := Aside0.mk (blk_below BKb.out hb); have n_BK := Aside0.mk (blk_below BK.out hb); have n_b := Aside0.mk (below_step HB.out hb); clear BKa; have BKa := n_BKa; clear n_BKa; clear BKb; have BKb := n_BKb; clear n_BKb; clear BK; have BK := n_BK; clear n_BK; clear HB HO; have HB := n_b; have HO := n_o; clear n_b n_o hb; (try clear hczBKa0 hczBKa1 hfzBKa0 hfzBKa1); (try clear hczBKb0 hczBKb1 hfzBKb0 hfzBKb1); (try clear hczBK0 hczBK1 hfzBK0 hfzBK1); have hczBKa0 : w2.cell? ⟨ga, 0, none⟩ = some (.int .i64 sa) := (blk_cell BKa.out 0).trans rfl; have hczBKa1 : w2.cell? ⟨ga, 1, none⟩ = some (.slice A la.length c) := (blk_cell BKa.out 1).trans rfl; have hfzBKa0 := blk_frozen BKa.out 0; have hfzBKa1 := blk_frozen BKa.out 1; have hczBKb0 : w2.cell? ⟨gb, 0, none⟩ = some (.int .i64 sb) := (blk_cell BKb.out 0).trans rfl; have hczBKb1 : w2.cell? ⟨gb, 1, none⟩ = some (.slice B lb.length d) := (blk_cell BKb.out 1).trans rfl; have hfzBKb0 := blk_frozen BKb.out 0; have hfzBKb1 := blk_frozen BKb.out 1; have hczBK0 : w2.cell? ⟨gc, 0, none⟩ = some (.int .i64 0) := (blk_cell BK.out 0).trans rfl; have hczBK1 : w2.cell? ⟨gc, 1, none⟩ = some (.slice none 0 0) := (blk_cell BK.out 1).trans rfl; have hfzBK0 := blk_frozen BK.out 0; have hfzBK1 := blk_frozen BK.out 1; (obtain ⟨Av, cv_, ev⟩ := cutV_slice Ao co t2; rw [ev]))))
        refine bodyPost_ret (results_cell_row rfl _ _ gc 89 #[.int .i64 t1, .slice Av t2.length cv_] (0, 0) _ rfl (by (with_reducible repeat (first | refine blk_drewN ?_ _ | refine blk_drew ?_ | refine blk_alloc ?_ _)); refine blk_put (cs := #[.int .i64 t1, .slice none 0 0]) ?_ 1 _ rfl; (with_reducible repeat (first | refine blk_drewN ?_ _ | refine blk_drew ?_ | refine blk_alloc ?_ _)); refine blk_put (cs := #[.int .i64 0, .slice none 0 0]) ?_ 0 _ rfl; (with_reducible repeat (first | refine blk_drewN ?_ _ | refine blk_drew ?_ | refine blk_alloc ?_ _)); exact BK.out) Try.underlying89 rfl (by kernel_rfl)) rfl ?_
        refine ⟨_, rfl, ?_, (by repeat (first | (with_reducible first | exact HB.out | apply below_alloc | apply pw_below_drewN | apply below_drew1 | refine below_set ?_ GE.out) | exact HB.out))⟩
        have hR := Kd.R_set (Kd.R_set HO.out BK.out (by decide) 0 (.int .i64 t1)) (t := 89) (blk_put BK.out 0 (.int .i64 t1) rfl) (by decide) 1 (.slice Av t2.length cv_)
        have hX := XV_cut (s1 := t1) (DT.ofR hR) (Kd.R_reads' hR).2.1 (made_part _ _ _ _ _ HA6.out)
        rw [ev] at hX
        exact hX
end Go.Proofs.Ytkfbmplhcigopaa.PPlo
namespace Go.Proofs.Ytkfbmplhcigopaa.PPlo
open Go.RowKit Go.Proofs.YtkfbmplhcigopaaW.PrintWords Go.Proofs.YtkfbmplhcigopaaW.PrintLast Go.Proofs.YtkfbmplhcigopaaW.PrintMore
attribute [local go_sem] max2_int max_two
theorem plusC : ∀ (k : Nat) (sa : Int) (la : List Int) (A : Option Addr) (c : Nat) (sb : Int) (lb : List Int) (B : Option Addr) (d : Nat) (s1 : Int) (l1 : List Int) (w : World) (hA : DT w A la) (hc : la.length ≤ c) (hB : DT w B lb) (hd : lb.length ≤ d) (h : quitrentref01_Plus.f k sa la sb lb = some (s1, l1)),
    Calls Try.prog 63 #[.agg #[.int .i64 sa, .slice A la.length c], .agg #[.int .i64 sb, .slice B lb.length d]] w fun e w' => ∃ v, e = .returned v ∧ XV w' v s1 l1 ∧ Below w.heap.size w w' := by
  intro k
  induction k with
  | zero => intro sa la A c sb lb B d s1 l1 w hA hc hB hd h; simp [quitrentref01_Plus.f] at h
  | succ k ih =>
    intro sa la A c sb lb B d s1 l1 w hA hc hB hd h
    simp only [quitrentref01_Plus.f] at h
    by_cases h0 : sa = 0
    · rw [if_pos h0] at h
      simp only [Option.some.injEq, Prod.mk.injEq] at h
      exact plus_a0 sa la A c sb lb B d s1 l1 w hA hc hB hd h0 h.1.symm h.2.symm
    · rw [if_neg h0] at h
      by_cases hb0 : sb = 0
      · rw [if_pos hb0] at h
        simp only [Option.some.injEq, Prod.mk.injEq] at h
        exact plus_b0 sa la A c sb lb B d s1 l1 w hA hc hB hd h0 hb0 h.1.symm h.2.symm
      · rw [if_neg hb0, Option.bind_some] at h
        by_cases he : sa = sb
        · rw [if_pos he] at h
          exact plus_same k sa la A c sb lb B d s1 l1 w hA hc hB hd h0 hb0 he h
        · rw [if_neg he] at h
          obtain ⟨t, ht, h⟩ := Option.bind_eq_some_iff.mp h
          cases t with
          | true =>
            rw [if_pos rfl] at h
            obtain ⟨⟨t1, t2⟩, h2, h⟩ := Option.bind_eq_some_iff.mp h
            simp only [Option.some.injEq, Prod.mk.injEq] at h
            obtain ⟨rfl, rfl⟩ := h
            exact plus_less k sa la A c sb lb B d _ _ w hA hc hB hd h0 hb0 he ht (fun w hB hA => ih sb lb B d sa la A c _ _ w hB hd hA hc h2)
          | false =>
            rw [if_neg (by simp)] at h
            exact plus_more k sa la A c sb lb B d s1 l1 w hA hc hB hd h0 hb0 he ht h
end Go.Proofs.Ytkfbmplhcigopaa.PPlo
namespace Go.Proofs.Ytkfbmplhcigopaa.PPlo
open Go.RowKit Go.Proofs.YtkfbmplhcigopaaW.PrintWords Go.Proofs.YtkfbmplhcigopaaW.PrintLast Go.Proofs.YtkfbmplhcigopaaW.PrintMore
attribute [local go_sem] max2_int max_two
set_option maxHeartbeats 8000000 in
set_option maxRecDepth 100000 in
theorem negC (s : Int) (la : List Int) (A : Option Addr) (c : Nat) (w : World) :
    Calls Try.prog 87 #[.agg #[.int .i64 s, .slice A la.length c]] w fun e w' => e = .returned (.agg #[.int .i64 (wrap64 (-s)), .slice A la.length c]) ∧ Below w.heap.size w w' := by
  have hu89 := Try.underlying89
  have HB := Aside0.mk (Below.refl w.heap.size w)
  go_enter Try.func87, Try.ntmps87
  go_wp2_with (first | ((with_reducible refine gate_dst (N := 1) rfl ?_); refine box_event ?hg (N := 1) ?hd (cs := #[.int .i64 s, .slice A la.length c]) (t := 89) ?hr ?_; (case hd => rfl); (case hg => rfl); (case hr => first | (go_simp; done) | (go_simp; rfl)); intro ga hg wb hbox hb; have n_e := Aside0.mk ((by rw [hg]; exact (below_size HB.out)) : w.heap.size ≤ ga); have n_b := Aside0.mk (below_step HB.out hb); have n_k := Aside0.mk hbox; clear HB; have HB := n_b; have GEa := n_e; have BKa := n_k; clear n_e n_b n_k hb hbox hg) | ((with_reducible refine gate_dst (N := 2) rfl ?_); refine box_event ?hg (N := 2) ?hd (cs := #[.int .i64 0, .slice none 0 0]) (t := 89) ?hr ?_; (case hd => rfl); (case hg => rfl); (case hr => first | (go_simp; done) | (go_simp; rfl)); intro gc hg wb hbox hb; have n_BKa := Aside0.mk (blk_below BKa.out hb); have n_e := Aside0.mk ((by rw [hg]; exact (below_size HB.out)) : w.heap.size ≤ gc); have n_b := Aside0.mk (below_step HB.out hb); have n_k := Aside0.mk hbox; clear BKa; have BKa := n_BKa; clear n_BKa; clear HB; have HB := n_b; have GE := n_e; have BK := n_k; clear n_e n_b n_k hb hbox hg; have hczBKa0 : wb.cell? ⟨ga, 0, none⟩ = some (.int .i64 s) := (blk_cell BKa.out 0).trans rfl; have hczBKa1 : wb.cell? ⟨ga, 1, none⟩ = some (.slice A la.length c) := (blk_cell BKa.out 1).trans rfl; have hfzBKa0 := blk_frozen BKa.out 0; have hfzBKa1 := blk_frozen BKa.out 1; have hczBK0 : wb.cell? ⟨gc, 0, none⟩ = some (.int .i64 0) := (blk_cell BK.out 0).trans rfl; have hczBK1 : wb.cell? ⟨gc, 1, none⟩ = some (.slice none 0 0) := (blk_cell BK.out 1).trans rfl; have hfzBK0 := blk_frozen BK.out 0; have hfzBK1 := blk_frozen BK.out 1))
  repeat (go_quiet (fail); try go_wp2_with (first | ((with_reducible refine gate_dst (N := 1) rfl ?_); refine box_event ?hg (N := 1) ?hd (cs := #[.int .i64 s, .slice A la.length c]) (t := 89) ?hr ?_; (case hd => rfl); (case hg => rfl); (case hr => first | (go_simp; done) | (go_simp; rfl)); intro ga hg wb hbox hb; have n_e := Aside0.mk ((by rw [hg]; exact (below_size HB.out)) : w.heap.size ≤ ga); have n_b := Aside0.mk (below_step HB.out hb); have n_k := Aside0.mk hbox; clear HB; have HB := n_b; have GEa := n_e; have BKa := n_k; clear n_e n_b n_k hb hbox hg) | ((with_reducible refine gate_dst (N := 2) rfl ?_); refine box_event ?hg (N := 2) ?hd (cs := #[.int .i64 0, .slice none 0 0]) (t := 89) ?hr ?_; (case hd => rfl); (case hg => rfl); (case hr => first | (go_simp; done) | (go_simp; rfl)); intro gc hg wb hbox hb; have n_BKa := Aside0.mk (blk_below BKa.out hb); have n_e := Aside0.mk ((by rw [hg]; exact (below_size HB.out)) : w.heap.size ≤ gc); have n_b := Aside0.mk (below_step HB.out hb); have n_k := Aside0.mk hbox; clear BKa; have BKa := n_BKa; clear n_BKa; clear HB; have HB := n_b; have GE := n_e; have BK := n_k; clear n_e n_b n_k hb hbox hg; have hczBKa0 : wb.cell? ⟨ga, 0, none⟩ = some (.int .i64 s) := (blk_cell BKa.out 0).trans rfl; have hczBKa1 : wb.cell? ⟨ga, 1, none⟩ = some (.slice A la.length c) := (blk_cell BKa.out 1).trans rfl; have hfzBKa0 := blk_frozen BKa.out 0; have hfzBKa1 := blk_frozen BKa.out 1; have hczBK0 : wb.cell? ⟨gc, 0, none⟩ = some (.int .i64 0) := (blk_cell BK.out 0).trans rfl; have hczBK1 : wb.cell? ⟨gc, 1, none⟩ = some (.slice none 0 0) := (blk_cell BK.out 1).trans rfl; have hfzBK0 := blk_frozen BK.out 0; have hfzBK1 := blk_frozen BK.out 1)))
  refine bodyPost_ret (results_cell_row rfl _ _ gc 89 #[.int .i64 (wrap64 (-s)), .slice A la.length c] (0, 0) _ rfl (by (with_reducible repeat (first | refine blk_drewN ?_ _ | refine blk_drew ?_ | refine blk_alloc ?_ _)); refine blk_put (cs := #[.int .i64 (wrap64 (-s)), .slice none 0 0]) ?_ 1 _ rfl; (with_reducible repeat (first | refine blk_drewN ?_ _ | refine blk_drew ?_ | refine blk_alloc ?_ _)); refine blk_put (cs := #[.int .i64 0, .slice none 0 0]) ?_ 0 _ rfl; (with_reducible repeat (first | refine blk_drewN ?_ _ | refine blk_drew ?_ | refine blk_alloc ?_ _)); exact BK.out) Try.underlying89 rfl (by kernel_rfl)) rfl ?_
  exact ⟨rfl, (by repeat (first | (with_reducible first | exact HB.out | apply below_alloc | apply pw_below_drewN | apply below_drew1 | refine below_set ?_ GE.out) | exact HB.out))⟩
set_option maxHeartbeats 8000000 in
set_option maxRecDepth 100000 in
theorem lessC (k : Nat) (sa : Int) (la : List Int) (A : Option Addr) (c : Nat) (sb : Int) (lb : List Int) (B : Option Addr) (d : Nat) (s1 : Int) (l1 : List Int) (w : World) (hA : DT w A la) (hc : la.length ≤ c) (hB : DT w B lb) (hd : lb.length ≤ d) (h : quitrentref01_Plus.f k sa la (wrap64 (-sb)) lb = some (s1, l1)) :
    Calls Try.prog 85 #[.agg #[.int .i64 sa, .slice A la.length c], .agg #[.int .i64 sb, .slice B lb.length d]] w fun e w' => ∃ v, e = .returned v ∧ XV w' v s1 l1 ∧ Below w.heap.size w w' := by
  have hu89 := Try.underlying89
  have HDa := Aside0.mk hA
  have HDb := Aside0.mk hB
  have HRa := Aside0.mk hA.now
  have HCa := Aside0.mk hc
  have HRb := Aside0.mk hB.now
  have HCb := Aside0.mk hd
  have HB := Aside0.mk (Below.refl w.heap.size w)
  clear hA hc hB hd
  have HP := Aside0.mk h
  clear h
  go_enter Try.func85, Try.ntmps85
  try go_wp2_with (first | ((with_reducible refine gate_dst (N := 2) rfl ?_); refine box_event ?hg (N := 2) ?hd (cs := #[.int .i64 sa, .slice A la.length c]) (t := 89) ?hr ?_; (case hd => rfl); (case hg => rfl); (case hr => first | (go_simp; done) | (go_simp; rfl)); intro ga hg wb hbox hb; have n_e := Aside0.mk ((by rw [hg]; exact (below_size HB.out)) : w.heap.size ≤ ga); have n_b := Aside0.mk (below_step HB.out hb); have n_k := Aside0.mk hbox; clear HB; have HB := n_b; have GEa := n_e; have BKa := n_k; clear n_e n_b n_k hb hbox hg) | ((with_reducible refine gate_dst (N := 3) rfl ?_); refine box_event ?hg (N := 3) ?hd (cs := #[.int .i64 sb, .slice B lb.length d]) (t := 89) ?hr ?_; (case hd => rfl); (case hg => rfl); (case hr => first | (go_simp; done) | (go_simp; rfl)); intro gb hg wb hbox hb; have n_BKa := Aside0.mk (blk_below BKa.out hb); have n_e := Aside0.mk ((by rw [hg]; exact (below_size HB.out)) : w.heap.size ≤ gb); have n_b := Aside0.mk (below_step HB.out hb); have n_k := Aside0.mk hbox; clear BKa; have BKa := n_BKa; clear n_BKa; clear HB; have HB := n_b; have GEb := n_e; have BKb := n_k; clear n_e n_b n_k hb hbox hg) | ((with_reducible refine gate_dst (N := 4) rfl ?_); refine box_event ?hg (N := 4) ?hd (cs := #[.int .i64 0, .slice none 0 0]) (t := 89) ?hr ?_; (case hd => rfl); (case hg => rfl); (case hr => first | (go_simp; done) | (go_simp; rfl)); intro gc hg wb hbox hb; have n_BKa := Aside0.mk (blk_below BKa.out hb); have n_BKb := Aside0.mk (blk_below BKb.out hb); have n_e := Aside0.mk ((by rw [hg]; exact (below_size HB.out)) : w.heap.size ≤ gc); have n_b := Aside0.mk (below_step HB.out hb); have n_k := Aside0.mk hbox; clear BKa; have BKa := n_BKa; clear n_BKa; clear BKb; have BKb := n_BKb; clear n_BKb; clear HB; have HB := n_b; have GE := n_e; have BK := n_k; clear n_e n_b n_k hb hbox hg; (try clear hczBKa0 hczBKa1 hfzBKa0 hfzBKa1); (try clear hczBKb0 hczBKb1 hfzBKb0 hfzBKb1); (try clear hczBK0 hczBK1 hfzBK0 hfzBK1); have hczBKa0 : wb.cell? ⟨ga, 0, none⟩ = some (.int .i64 sa) := (blk_cell BKa.out 0).trans rfl; have hczBKa1 : wb.cell? ⟨ga, 1, none⟩ = some (.slice A la.length c) := (blk_cell BKa.out 1).trans rfl; have hfzBKa0 := blk_frozen BKa.out 0; have hfzBKa1 := blk_frozen BKa.out 1; have hczBKb0 : wb.cell? ⟨gb, 0, none⟩ = some (.int .i64 sb) := (blk_cell BKb.out 0).trans rfl; have hczBKb1 : wb.cell? ⟨gb, 1, none⟩ = some (.slice B lb.length d) := (blk_cell BKb.out 1).trans rfl; have hfzBKb0 := blk_frozen BKb.out 0; have hfzBKb1 := blk_frozen BKb.out 1; have hczBK0 : wb.cell? ⟨gc, 0, none⟩ = some (.int .i64 0) := (blk_cell BK.out 0).trans rfl; have hczBK1 : wb.cell? ⟨gc, 1, none⟩ = some (.slice none 0 0) := (blk_cell BK.out 1).trans rfl; have hfzBK0 := blk_frozen BK.out 0; have hfzBK1 := blk_frozen BK.out 1))
  clear hczBKa0 hczBKa1 hfzBKa0 hfzBKa1 hczBKb0 hczBKb1 hfzBKb0 hfzBKb1 hczBK0 hczBK1 hfzBK0 hfzBK1
  have n_BKa := Aside0.mk (blk_drew BKa.out)
  have n_BKb := Aside0.mk (blk_drew BKb.out)
  have n_BK := Aside0.mk (blk_drew BK.out)
  have n_HB := Aside0.mk (below_drew1 HB.out)
  clear BKa BKb BK HB
  have BKa := n_BKa
  have BKb := n_BKb
  have BK := n_BK
  have HB := n_HB
  clear n_BKa n_BKb n_BK n_HB
  refine start_ (n := 5) (S := fun w' => w'.cell? ⟨ga, 0, none⟩ = some (.int .i64 sa) ∧ w'.cell? ⟨ga, 1, none⟩ = some (.slice A la.length c) ∧ w'.cell? ⟨gb, 0, none⟩ = some (.int .i64 sb) ∧ w'.cell? ⟨gb, 1, none⟩ = some (.slice B lb.length d)) (ds := [4]) #[false, false, false, false, false] (by kernel_rfl) rfl rfl ⟨(blk_cell BKa.out 0).trans rfl, (blk_cell BKa.out 1).trans rfl, (blk_cell BKb.out 0).trans rfl, (blk_cell BKb.out 1).trans rfl⟩ (fun hHeld => ?_)
  generalize wb.drew = wd at BKa BKb BK HB hHeld ⊢
  refine take_ (i := 0) (N := some 5) (v := ?_) (a' := ?_) #[true, false, false, false, false] rfl rfl (by kernel_rfl) (fun _ _ _ h => h) (Or.inl ⟨by rfl, ?_⟩) hHeld ?_ ?_
  rotate_left
  · rintro w' ⟨s0, s1, s2, s3⟩
    go_simp
    with_reducible rfl
  rotate_left
  · simp only [Act.put, List.setIfInBounds_toArray, List.set_cons_zero, List.set_cons_succ, i64_w, i32_w]
    rfl
  refine take_ (i := 1) (N := some 6) (v := ?_) (a' := ?_) #[true, true, false, false, false] rfl rfl (by kernel_rfl) (fun _ _ _ h => h) (Or.inl ⟨by rfl, ?_⟩) hHeld ?_ ?_
  rotate_left
  · rintro w' ⟨s0, s1, s2, s3⟩
    go_simp
    with_reducible rfl
  rotate_left
  · simp only [Act.put, List.setIfInBounds_toArray, List.set_cons_zero, List.set_cons_succ, i64_w, i32_w]
    rfl
  refine one_ (i := 2) (N := some 7) #[true, true, true, false, false] rfl rfl (by kernel_rfl) (by decide) (fun K hK => ?_)
  refine goes_ Try.func87 (by kernel_rfl) rfl #[.agg #[.int .i64 sb, .slice B lb.length d]] (by rfl) rfl rfl (by simp only [List.map_toArray, List.map_cons, List.map_nil]; rfl) ?_
  with_reducible refine (negC sb lb B d _).mono ?_
  rintro e w2 ⟨rfl, hb⟩
  refine ⟨_, rfl, ?_⟩
  have n_BKa := Aside0.mk (blk_below BKa.out hb)
  have n_BKb := Aside0.mk (blk_below BKb.out hb)
  have n_BK := Aside0.mk (blk_below BK.out hb)
  have n_b := Aside0.mk (below_step HB.out hb)
  clear HB BKa BKb BK
  have BKa := n_BKa
  have BKb := n_BKb
  have BK := n_BK
  have HB := n_b
  clear n_b hb n_BKa n_BKb n_BK
  refine hK.out _ _ ⟨(blk_cell BKa.out 0).trans rfl, (blk_cell BKa.out 1).trans rfl, (blk_cell BKb.out 0).trans rfl, (blk_cell BKb.out 1).trans rfl⟩ (fun hHeld => ?_)
  clear hK K
  refine norm_ (a' := ?_) ?_ ?_
  rotate_left
  · show Act.put _ (some 7) _ = _
    simp only [Act.put, List.setIfInBounds_toArray, List.set_cons_zero, List.set_cons_succ, i64_w, i32_w]
    rfl
  refine one_ (i := 3) (N := some 8) #[true, true, true, true, false] rfl rfl (by kernel_rfl) (by decide) (fun K hK => ?_)
  refine goes_ Try.func63 (by kernel_rfl) rfl #[.agg #[.int .i64 sa, .slice A la.length c], .agg #[.int .i64 (wrap64 (-sb)), .slice B lb.length d]] (by rfl) rfl rfl (by simp only [List.map_toArray, List.map_cons, List.map_nil]; rfl) ?_
  with_reducible refine (plusC k sa la _ _ (wrap64 (-sb)) lb _ _ s1 l1 _ ?side1 HCa.out ?side2 HCb.out HP.out).mono ?_
  (case side1 => exact DT.below HDa.out (by repeat (first | (with_reducible first | exact HB.out | apply below_alloc | apply pw_below_drewN | apply below_drew1 | refine below_set ?_ GE.out) | exact HB.out)))
  (case side2 => exact DT.below HDb.out (by repeat (first | (with_reducible first | exact HB.out | apply below_alloc | apply pw_below_drewN | apply below_drew1 | refine below_set ?_ GE.out) | exact HB.out)))
  rintro e w3 ⟨v, rfl, ⟨A3, c3, rfl, hc3, hD3⟩, hb⟩
  refine ⟨_, rfl, ?_⟩
  have HD3 := Aside0.mk hD3
  have HC3 := Aside0.mk hc3
  clear hD3 hc3
  have n_BKa := Aside0.mk (blk_below BKa.out hb)
  have n_BKb := Aside0.mk (blk_below BKb.out hb)
  have n_BK := Aside0.mk (blk_below BK.out hb)
  have n_b := Aside0.mk (below_step HB.out hb)
  clear HB BKa BKb BK
  have BKa := n_BKa
  have BKb := n_BKb
  have BK := n_BK
  have HB := n_b
  clear n_b hb n_BKa n_BKb n_BK
  refine hK.out _ _ ⟨(blk_cell BKa.out 0).trans rfl, (blk_cell BKa.out 1).trans rfl, (blk_cell BKb.out 0).trans rfl, (blk_cell BKb.out 1).trans rfl⟩ (fun hHeld => ?_)
  clear hK K
  refine norm_ (a' := ?_) ?_ ?_
  rotate_left
  · show Act.put _ (some 8) _ = _
    simp only [Act.put, List.setIfInBounds_toArray, List.set_cons_zero, List.set_cons_succ, i64_w, i32_w]
    rfl
  refine last_ (i := 4) (N := none) #[true, true, true, true, true] rfl rfl (by kernel_rfl) (by decide) (fun K hK => ?_)
  have hs0 : w3.cell? ⟨gc, 0, none⟩ = some (.int .i64 0) := (blk_cell BK.out 0).trans rfl
  have hf0 := blk_frozen BK.out 0
  have hs1 : w3.cell? ⟨gc, 1, none⟩ = some (.slice none 0 0) := (blk_cell BK.out 1).trans rfl
  have hf1 := blk_frozen BK.out 1
  refine skip_ (w1 := ?_) (by rfl) rfl ?_ ?_
  rotate_left
  · go_simp
    rfl
  refine hK.out _ _ ?_
  clear hK K
  refine done_ (by kernel_rfl) ?_
  try go_wp2
  refine bodyPost_ret (results_cell_row rfl _ _ gc 89 #[.int .i64 s1, .slice A3 l1.length c3] (0, 0) _ rfl (by (with_reducible repeat (first | refine blk_drewN ?_ _ | refine blk_drew ?_ | refine blk_alloc ?_ _)); refine blk_put (cs := #[.int .i64 s1, .slice none 0 0]) ?_ 1 _ rfl; (with_reducible repeat (first | refine blk_drewN ?_ _ | refine blk_drew ?_ | refine blk_alloc ?_ _)); refine blk_put (cs := #[.int .i64 0, .slice none 0 0]) ?_ 0 _ rfl; (with_reducible repeat (first | refine blk_drewN ?_ _ | refine blk_drew ?_ | refine blk_alloc ?_ _)); exact BK.out) Try.underlying89 rfl (by kernel_rfl)) rfl ?_
  exact ⟨_, rfl, ⟨A3, c3, rfl, HC3.out, DT.set (DT.set HD3.out BK.out (by decide) 0 (.int .i64 s1)) (t := 89) (blk_put BK.out 0 (.int .i64 s1) rfl) (by decide) 1 (.slice A3 l1.length c3)⟩, (by repeat (first | (with_reducible first | exact HB.out | apply below_alloc | apply pw_below_drewN | apply below_drew1 | refine below_set ?_ GE.out) | exact HB.out))⟩
theorem run_field89_ (s : Int) (A : Option Addr) (n c : Nat) (w : World) : (Instr.field 89 (.agg #[.int .i64 s, .slice A n c]) 0).run Try.prog w = .ok (.int .i64 s) w := by kernel_rfl
attribute [local go_sem] run_field89_
set_option maxHeartbeats 8000000 in
set_option maxRecDepth 100000 in
theorem cmpC (k : Nat) (sa : Int) (la : List Int) (A : Option Addr) (c : Nat) (sb : Int) (lb : List Int) (B : Option Addr) (d : Nat) (s1 : Int) (l1 : List Int) (w : World) (hA : DT w A la) (hc : la.length ≤ c) (hB : DT w B lb) (hd : lb.length ≤ d) (h : quitrentref01_Plus.f k sa la (wrap64 (-sb)) lb = some (s1, l1)) :
    Calls Try.prog 81 #[.agg #[.int .i64 sa, .slice A la.length c], .agg #[.int .i64 sb, .slice B lb.length d]] w fun e w' => e = .returned (.int .i64 s1) ∧ Below w.heap.size w w' := by
  have hu89 := Try.underlying89
  have HDa := Aside0.mk hA
  have HDb := Aside0.mk hB
  have HRa := Aside0.mk hA.now
  have HCa := Aside0.mk hc
  have HRb := Aside0.mk hB.now
  have HCb := Aside0.mk hd
  have HB := Aside0.mk (Below.refl w.heap.size w)
  clear hA hc hB hd
  have HP := Aside0.mk h
  clear h
  go_enter Try.func81, Try.ntmps81
  go_wp2_with (first | ((with_reducible refine gate_dst (N := 2) rfl ?_); refine box_event ?hg (N := 2) ?hd (cs := #[.int .i64 sa, .slice A la.length c]) (t := 89) ?hr ?_; (case hd => rfl); (case hg => rfl); (case hr => first | (go_simp; done) | (go_simp; rfl)); intro ga hg wb hbox hb; have n_e := Aside0.mk ((by rw [hg]; exact (below_size HB.out)) : w.heap.size ≤ ga); have n_b := Aside0.mk (below_step HB.out hb); have n_k := Aside0.mk hbox; clear HB; have HB := n_b; have GEa := n_e; have BKa := n_k; clear n_e n_b n_k hb hbox hg) | ((with_reducible refine gate_dst (N := 3) rfl ?_); refine box_event ?hg (N := 3) ?hd (cs := #[.int .i64 sb, .slice B lb.length d]) (t := 89) ?hr ?_; (case hd => rfl); (case hg => rfl); (case hr => first | (go_simp; done) | (go_simp; rfl)); intro gb hg wb hbox hb; have n_BKa := Aside0.mk (blk_below BKa.out hb); have n_e := Aside0.mk ((by rw [hg]; exact (below_size HB.out)) : w.heap.size ≤ gb); have n_b := Aside0.mk (below_step HB.out hb); have n_k := Aside0.mk hbox; clear BKa; have BKa := n_BKa; clear n_BKa; clear HB; have HB := n_b; have GEb := n_e; have BKb := n_k; clear n_e n_b n_k hb hbox hg; have hczBKa0 : wb.cell? ⟨ga, 0, none⟩ = some (.int .i64 sa) := (blk_cell BKa.out 0).trans rfl; have hczBKa1 : wb.cell? ⟨ga, 1, none⟩ = some (.slice A la.length c) := (blk_cell BKa.out 1).trans rfl; have hfzBKa0 := blk_frozen BKa.out 0; have hfzBKa1 := blk_frozen BKa.out 1; have hczBKb0 : wb.cell? ⟨gb, 0, none⟩ = some (.int .i64 sb) := (blk_cell BKb.out 0).trans rfl; have hczBKb1 : wb.cell? ⟨gb, 1, none⟩ = some (.slice B lb.length d) := (blk_cell BKb.out 1).trans rfl; have hfzBKb0 := blk_frozen BKb.out 0; have hfzBKb1 := blk_frozen BKb.out 1) | ((with_reducible refine gate_callee (f := 85) rfl ?_); refine goesL_ (some 7) rfl rfl Try.func85 (by kernel_rfl) rfl #[.agg #[.int .i64 sa, .slice A la.length c], .agg #[.int .i64 sb, .slice B lb.length d]] rfl (by (try simp only [List.map_toArray, List.map_cons, List.map_nil]); first | done | rfl) ?_; (with_reducible refine (lessC k sa la _ _ sb lb _ _ s1 l1 _ ?side1 HCa.out ?side2 HCb.out HP.out).mono ?_); (case side1 => exact DT.below HDa.out (by repeat (first | (with_reducible first | exact HB.out | apply below_alloc | apply pw_below_drewN | apply below_drew1) | exact HB.out))); (case side2 => exact DT.below HDb.out (by repeat (first | (with_reducible first | exact HB.out | apply below_alloc | apply pw_below_drewN | apply below_drew1) | exact HB.out))); rintro e w3 ⟨v, rfl, ⟨A3, c3, rfl, hc3, hC3⟩, hb⟩; refine ⟨_, rfl, ?_⟩; have n_b := Aside0.mk (below_step (by repeat (first | (with_reducible first | exact HB.out | apply below_alloc | apply pw_below_drewN | apply below_drew1) | exact HB.out)) hb); clear hc3 hC3 HB; have HB := n_b; clear n_b hb))
  repeat (go_quiet (fail); try go_wp2_with (first | ((with_reducible refine gate_dst (N := 2) rfl ?_); refine box_event ?hg (N := 2) ?hd (cs := #[.int .i64 sa, .slice A la.length c]) (t := 89) ?hr ?_; (case hd => rfl); (case hg => rfl); (case hr => first | (go_simp; done) | (go_simp; rfl)); intro ga hg wb hbox hb; have n_e := Aside0.mk ((by rw [hg]; exact (below_size HB.out)) : w.heap.size ≤ ga); have n_b := Aside0.mk (below_step HB.out hb); have n_k := Aside0.mk hbox; clear HB; have HB := n_b; have GEa := n_e; have BKa := n_k; clear n_e n_b n_k hb hbox hg) | ((with_reducible refine gate_dst (N := 3) rfl ?_); refine box_event ?hg (N := 3) ?hd (cs := #[.int .i64 sb, .slice B lb.length d]) (t := 89) ?hr ?_; (case hd => rfl); (case hg => rfl); (case hr => first | (go_simp; done) | (go_simp; rfl)); intro gb hg wb hbox hb; have n_BKa := Aside0.mk (blk_below BKa.out hb); have n_e := Aside0.mk ((by rw [hg]; exact (below_size HB.out)) : w.heap.size ≤ gb); have n_b := Aside0.mk (below_step HB.out hb); have n_k := Aside0.mk hbox; clear BKa; have BKa := n_BKa; clear n_BKa; clear HB; have HB := n_b; have GEb := n_e; have BKb := n_k; clear n_e n_b n_k hb hbox hg; have hczBKa0 : wb.cell? ⟨ga, 0, none⟩ = some (.int .i64 sa) := (blk_cell BKa.out 0).trans rfl; have hczBKa1 : wb.cell? ⟨ga, 1, none⟩ = some (.slice A la.length c) := (blk_cell BKa.out 1).trans rfl; have hfzBKa0 := blk_frozen BKa.out 0; have hfzBKa1 := blk_frozen BKa.out 1; have hczBKb0 : wb.cell? ⟨gb, 0, none⟩ = some (.int .i64 sb) := (blk_cell BKb.out 0).trans rfl; have hczBKb1 : wb.cell? ⟨gb, 1, none⟩ = some (.slice B lb.length d) := (blk_cell BKb.out 1).trans rfl; have hfzBKb0 := blk_frozen BKb.out 0; have hfzBKb1 := blk_frozen BKb.out 1) | ((with_reducible refine gate_callee (f := 85) rfl ?_); refine goesL_ (some 7) rfl rfl Try.func85 (by kernel_rfl) rfl #[.agg #[.int .i64 sa, .slice A la.length c], .agg #[.int .i64 sb, .slice B lb.length d]] rfl (by (try simp only [List.map_toArray, List.map_cons, List.map_nil]); first | done | rfl) ?_; (with_reducible refine (lessC k sa la _ _ sb lb _ _ s1 l1 _ ?side1 HCa.out ?side2 HCb.out HP.out).mono ?_); (case side1 => exact DT.below HDa.out (by repeat (first | (with_reducible first | exact HB.out | apply below_alloc | apply pw_below_drewN | apply below_drew1) | exact HB.out))); (case side2 => exact DT.below HDb.out (by repeat (first | (with_reducible first | exact HB.out | apply below_alloc | apply pw_below_drewN | apply below_drew1) | exact HB.out))); rintro e w3 ⟨v, rfl, ⟨A3, c3, rfl, hc3, hC3⟩, hb⟩; refine ⟨_, rfl, ?_⟩; have n_b := Aside0.mk (below_step (by repeat (first | (with_reducible first | exact HB.out | apply below_alloc | apply pw_below_drewN | apply below_drew1) | exact HB.out)) hb); clear hc3 hC3 HB; have HB := n_b; clear n_b hb)))
  go_ret
  exact ⟨by first | rfl | (simp; done), (by repeat (first | (with_reducible first | exact HB.out | apply below_alloc | apply pw_below_drewN | apply below_drew1) | exact HB.out))⟩
end Go.Proofs.Ytkfbmplhcigopaa.PPlo
namespace Go.Proofs.Ytkfbmplhcigopaa.PPlo
open Go.RowKit Go.Proofs.YtkfbmplhcigopaaW.PrintWords Go.Proofs.YtkfbmplhcigopaaW.PrintLast Go.Proofs.YtkfbmplhcigopaaW.PrintMore
attribute [local go_sem] max2_int max_two
/-- The number of digits, from the highest on. -/
def fitL : Nat → Int → Int → List Int → Int → Option Int
  | 0, _, _, _, _ => none
  | k + 1, n, s, l, i => if i ≥ 0 then (if i < (l.length : Int) then fitL k (wrap64 ((wrap64 (1000 * n)) + (wrap64 (s * (rd l i))))) s l (wrap64 (i - 1)) else none) else some n
set_option maxHeartbeats 8000000 in
set_option maxRecDepth 100000 in
theorem fit_over (k : Nat) (sa : Int) (la : List Int) (A : Option Addr) (c : Nat) (sm : Int) (lm : List Int) (sn : Int) (ln : List Int) (c1 : Int) (x1 : List Int) (c2 : Int) (x2 : List Int) (w : World) (hA : DT w A la) (hc : la.length ≤ c) (h1 : quitrentref01_Of.f k 9223372036854775807 = some (sm, lm)) (h2 : quitrentref01_Of.f k (-9223372036854775808) = some (sn, ln)) (h3 : quitrentref01_Plus.f k sa la (wrap64 (-sm)) lm = some (c1, x1)) (h4 : quitrentref01_Plus.f k sa la (wrap64 (-sn)) ln = some (c2, x2)) (g1 : 0 < c1) :
    Calls Try.prog 65 #[.agg #[.int .i64 sa, .slice A la.length c]] w fun e w' => e = .returned (.tuple #[.int .i64 0, .int .i64 3]) ∧ Below w.heap.size w w' := by
  have hu89 := Try.underlying89
  have HDa := Aside0.mk hA
  have HRa := Aside0.mk hA.now
  have HCa := Aside0.mk hc
  have H1 := Aside0.mk h1
  have H2 := Aside0.mk h2
  have H3 := Aside0.mk h3
  have H4 := Aside0.mk h4
  have HB := Aside0.mk (Below.refl w.heap.size w)
  clear hA hc h1 h2 h3 h4
  have g1b : decide (0 < c1) = true := decide_eq_true g1
  clear g1
  go_enter Try.func65, Try.ntmps65
  try go_wp2_with (first | ((with_reducible refine gate_dst (N := 1) rfl ?_); refine box_event ?hg (N := 1) ?hd (cs := #[.int .i64 sa, .slice A la.length c]) (t := 89) ?hr ?_; (case hd => rfl); (case hg => rfl); (case hr => first | (go_simp; done) | (go_simp; rfl)); intro ga hg wb hbox hb; have n_e := Aside0.mk ((by rw [hg]; exact (below_size HB.out)) : w.heap.size ≤ ga); have n_b := Aside0.mk (below_step HB.out hb); have n_k := Aside0.mk hbox; clear HB; have HB := n_b; have GEa := n_e; have BKa := n_k; clear n_e n_b n_k hb hbox hg))
  have n_BKa := Aside0.mk (blk_drew BKa.out)
  have n_HB := Aside0.mk (below_drew1 HB.out)
  clear BKa HB
  have BKa := n_BKa
  have HB := n_HB
  clear n_BKa n_HB
  refine start_ (n := 10) (S := fun w' => w'.cell? ⟨ga, 0, none⟩ = some (.int .i64 sa) ∧ w'.cell? ⟨ga, 1, none⟩ = some (.slice A la.length c)) (ds := []) #[false, false, false, false, false, false, false, false, false, false] (by kernel_rfl) rfl rfl ⟨(blk_cell BKa.out 0).trans rfl, (blk_cell BKa.out 1).trans rfl⟩ (fun hHeld => ?_)
  generalize wb.drew = wd at BKa HB hHeld ⊢
  refine take_ (i := 0) (N := some 6) (v := ?_) (a' := ?_) #[true, false, false, false, false, false, false, false, false, false] rfl rfl (by kernel_rfl) (fun _ _ _ h => h) (Or.inl ⟨by rfl, ?_⟩) hHeld ?_ ?_
  rotate_left
  · rintro w' ⟨s0, s1⟩
    go_simp
    with_reducible rfl
  rotate_left
  · simp only [Act.put, List.setIfInBounds_toArray, List.set_cons_zero, List.set_cons_succ, i64_w, i32_w]
    rfl
  refine one_ (i := 1) (N := some 7) #[true, true, false, false, false, false, false, false, false, false] rfl rfl (by kernel_rfl) (by decide) (fun K hK => ?_)
  refine goes_ Try.func64 (by kernel_rfl) rfl #[.int .i64 9223372036854775807] (by rfl) rfl rfl (by simp only [List.map_toArray, List.map_cons, List.map_nil]; rfl) ?_
  with_reducible refine (ofC k _ _ _ _ H1.out).mono ?_
  rintro e w3 ⟨v, rfl, ⟨A3, c3, rfl, hc3, hD3⟩, hb⟩
  refine ⟨_, rfl, ?_⟩
  have HD3 := Aside0.mk hD3
  have HC3 := Aside0.mk hc3
  clear hD3 hc3
  have n_BKa := Aside0.mk (blk_below BKa.out hb)
  have n_b := Aside0.mk (below_step HB.out hb)
  clear HB BKa
  have BKa := n_BKa
  have HB := n_b
  clear n_b hb n_BKa
  refine hK.out _ _ ⟨(blk_cell BKa.out 0).trans rfl, (blk_cell BKa.out 1).trans rfl⟩ (fun hHeld => ?_)
  clear hK K
  refine norm_ (a' := ?_) ?_ ?_
  rotate_left
  · show Act.put _ (some 7) _ = _
    simp only [Act.put, List.setIfInBounds_toArray, List.set_cons_zero, List.set_cons_succ, i64_w, i32_w]
    rfl
  refine one_ (i := 2) (N := some 8) #[true, true, true, false, false, false, false, false, false, false] rfl rfl (by kernel_rfl) (by decide) (fun K hK => ?_)
  refine goes_ Try.func81 (by kernel_rfl) rfl #[.agg #[.int .i64 sa, .slice A la.length c], .agg #[.int .i64 sm, .slice A3 lm.length c3]] (by rfl) rfl rfl (by simp only [List.map_toArray, List.map_cons, List.map_nil]; rfl) ?_
  with_reducible refine (cmpC k sa la _ _ sm lm _ _ c1 x1 _ ?side1 HCa.out ?side2 HC3.out H3.out).mono ?_
  (case side1 => exact DT.below HDa.out (by repeat (first | (with_reducible first | exact HB.out | apply below_alloc | apply pw_below_drewN | apply below_drew1) | exact HB.out)))
  (case side2 => exact HD3.out)
  rintro e w4 ⟨rfl, hb⟩
  refine ⟨_, rfl, ?_⟩
  have n_BKa := Aside0.mk (blk_below BKa.out hb)
  have n_b := Aside0.mk (below_step HB.out hb)
  clear HB BKa
  have BKa := n_BKa
  have HB := n_b
  clear n_b hb n_BKa
  refine hK.out _ _ ⟨(blk_cell BKa.out 0).trans rfl, (blk_cell BKa.out 1).trans rfl⟩ (fun hHeld => ?_)
  clear hK K
  refine norm_ (a' := ?_) ?_ ?_
  rotate_left
  · show Act.put _ (some 8) _ = _
    simp only [Act.put, List.setIfInBounds_toArray, List.set_cons_zero, List.set_cons_succ, i64_w, i32_w]
    rfl
  refine pure_ (i := 3) (N := some 9) (v := ?_) (a' := ?_) #[true, true, true, true, false, false, false, false, false, false] rfl rfl (by kernel_rfl) (fun _ _ _ h => h) (Or.inl ⟨by rfl, ?_⟩) ?_ ?_
  rotate_left
  · intro w'
    go_simp
    with_reducible rfl
  rotate_left
  · simp only [Act.put, List.setIfInBounds_toArray, List.set_cons_zero, List.set_cons_succ, i64_w, i32_w]
    rfl
  refine pure_ (i := 4) (N := some 10) (v := ?_) (a' := ?_) #[true, true, true, true, true, false, false, false, false, false] rfl rfl (by kernel_rfl) (fun _ _ _ h => h) (Or.inl ⟨by rfl, ?_⟩) ?_ ?_
  rotate_left
  · intro w'
    go_simp
    with_reducible rfl
  rotate_left
  · simp only [Act.put, List.setIfInBounds_toArray, List.set_cons_zero, List.set_cons_succ, i64_w, i32_w]
    rfl
  refine pure_ (i := 5) (N := some 11) (v := undef) (a' := ?_) #[true, true, true, true, true, true, false, false, false, false] rfl rfl (by kernel_rfl) (fun _ _ _ h => h) (Or.inr ⟨by rfl, rfl⟩) ?_ ?_
  rotate_left
  · simp only [Act.put, List.setIfInBounds_toArray, List.set_cons_zero, List.set_cons_succ, i64_w, i32_w]
    rfl
  refine pure_ (i := 6) (N := some 12) (v := undef) (a' := ?_) #[true, true, true, true, true, true, true, false, false, false] rfl rfl (by kernel_rfl) (fun _ _ _ h => h) (Or.inr ⟨by rfl, rfl⟩) ?_ ?_
  rotate_left
  · simp only [Act.put, List.setIfInBounds_toArray, List.set_cons_zero, List.set_cons_succ, i64_w, i32_w]
    rfl
  refine pure_ (i := 7) (N := some 13) (v := undef) (a' := ?_) #[true, true, true, true, true, true, true, true, false, false] rfl rfl (by kernel_rfl) (fun _ _ _ h => h) (Or.inr ⟨by rfl, rfl⟩) ?_ ?_
  rotate_left
  · simp only [Act.put, List.setIfInBounds_toArray, List.set_cons_zero, List.set_cons_succ, i64_w, i32_w]
    rfl
  refine pure_ (i := 8) (N := some 14) (v := undef) (a' := ?_) #[true, true, true, true, true, true, true, true, true, false] rfl rfl (by kernel_rfl) (fun _ _ _ h => h) (Or.inr ⟨by rfl, rfl⟩) ?_ ?_
  rotate_left
  · simp only [Act.put, List.setIfInBounds_toArray, List.set_cons_zero, List.set_cons_succ, i64_w, i32_w]
    rfl
  refine pure_ (i := 9) (N := some 15) (v := ?_) (a' := ?_) #[true, true, true, true, true, true, true, true, true, true] rfl rfl (by kernel_rfl) (fun _ _ _ h => h) (Or.inl ⟨by rfl, ?_⟩) ?_ ?_
  rotate_left
  · intro w'
    go_simp
    with_reducible rfl
  rotate_left
  · simp only [Act.put, List.setIfInBounds_toArray, List.set_cons_zero, List.set_cons_succ, i64_w, i32_w]
    rfl
  refine done_ (by kernel_rfl) ?_
  try go_wp2
  go_ret2
  exact ⟨by first | rfl | (simp; done), (by repeat (first | (with_reducible first | exact HB.out | apply below_alloc | apply pw_below_drewN | apply below_drew1) | exact HB.out))⟩
set_option maxHeartbeats 8000000 in
set_option maxRecDepth 100000 in
theorem fit_under (k : Nat) (sa : Int) (la : List Int) (A : Option Addr) (c : Nat) (sm : Int) (lm : List Int) (sn : Int) (ln : List Int) (c1 : Int) (x1 : List Int) (c2 : Int) (x2 : List Int) (w : World) (hA : DT w A la) (hc : la.length ≤ c) (h1 : quitrentref01_Of.f k 9223372036854775807 = some (sm, lm)) (h2 : quitrentref01_Of.f k (-9223372036854775808) = some (sn, ln)) (h3 : quitrentref01_Plus.f k sa la (wrap64 (-sm)) lm = some (c1, x1)) (h4 : quitrentref01_Plus.f k sa la (wrap64 (-sn)) ln = some (c2, x2)) (g1 : ¬ 0 < c1) (g2 : c2 < 0) :
    Calls Try.prog 65 #[.agg #[.int .i64 sa, .slice A la.length c]] w fun e w' => e = .returned (.tuple #[.int .i64 0, .int .i64 3]) ∧ Below w.heap.size w w' := by
  have hu89 := Try.underlying89
  have HDa := Aside0.mk hA
  have HRa := Aside0.mk hA.now
  have HCa := Aside0.mk hc
  have H1 := Aside0.mk h1
  have H2 := Aside0.mk h2
  have H3 := Aside0.mk h3
  have H4 := Aside0.mk h4
  have HB := Aside0.mk (Below.refl w.heap.size w)
  clear hA hc h1 h2 h3 h4
  have g1b : decide (0 < c1) = false := decide_eq_false g1
  have g2b : decide (c2 < 0) = true := decide_eq_true g2
  clear g1 g2
  go_enter Try.func65, Try.ntmps65
  try go_wp2_with (first | ((with_reducible refine gate_dst (N := 1) rfl ?_); refine box_event ?hg (N := 1) ?hd (cs := #[.int .i64 sa, .slice A la.length c]) (t := 89) ?hr ?_; (case hd => rfl); (case hg => rfl); (case hr => first | (go_simp; done) | (go_simp; rfl)); intro ga hg wb hbox hb; have n_e := Aside0.mk ((by rw [hg]; exact (below_size HB.out)) : w.heap.size ≤ ga); have n_b := Aside0.mk (below_step HB.out hb); have n_k := Aside0.mk hbox; clear HB; have HB := n_b; have GEa := n_e; have BKa := n_k; clear n_e n_b n_k hb hbox hg))
  have n_BKa := Aside0.mk (blk_drew BKa.out)
  have n_HB := Aside0.mk (below_drew1 HB.out)
  clear BKa HB
  have BKa := n_BKa
  have HB := n_HB
  clear n_BKa n_HB
  refine start_ (n := 10) (S := fun w' => w'.cell? ⟨ga, 0, none⟩ = some (.int .i64 sa) ∧ w'.cell? ⟨ga, 1, none⟩ = some (.slice A la.length c)) (ds := []) #[false, false, false, false, false, false, false, false, false, false] (by kernel_rfl) rfl rfl ⟨(blk_cell BKa.out 0).trans rfl, (blk_cell BKa.out 1).trans rfl⟩ (fun hHeld => ?_)
  generalize wb.drew = wd at BKa HB hHeld ⊢
  refine take_ (i := 0) (N := some 6) (v := ?_) (a' := ?_) #[true, false, false, false, false, false, false, false, false, false] rfl rfl (by kernel_rfl) (fun _ _ _ h => h) (Or.inl ⟨by rfl, ?_⟩) hHeld ?_ ?_
  rotate_left
  · rintro w' ⟨s0, s1⟩
    go_simp
    with_reducible rfl
  rotate_left
  · simp only [Act.put, List.setIfInBounds_toArray, List.set_cons_zero, List.set_cons_succ, i64_w, i32_w]
    rfl
  refine one_ (i := 1) (N := some 7) #[true, true, false, false, false, false, false, false, false, false] rfl rfl (by kernel_rfl) (by decide) (fun K hK => ?_)
  refine goes_ Try.func64 (by kernel_rfl) rfl #[.int .i64 9223372036854775807] (by rfl) rfl rfl (by simp only [List.map_toArray, List.map_cons, List.map_nil]; rfl) ?_
  with_reducible refine (ofC k _ _ _ _ H1.out).mono ?_
  rintro e w3 ⟨v, rfl, ⟨A3, c3, rfl, hc3, hD3⟩, hb⟩
  refine ⟨_, rfl, ?_⟩
  have HD3 := Aside0.mk hD3
  have HC3 := Aside0.mk hc3
  clear hD3 hc3
  have n_BKa := Aside0.mk (blk_below BKa.out hb)
  have n_b := Aside0.mk (below_step HB.out hb)
  clear HB BKa
  have BKa := n_BKa
  have HB := n_b
  clear n_b hb n_BKa
  refine hK.out _ _ ⟨(blk_cell BKa.out 0).trans rfl, (blk_cell BKa.out 1).trans rfl⟩ (fun hHeld => ?_)
  clear hK K
  refine norm_ (a' := ?_) ?_ ?_
  rotate_left
  · show Act.put _ (some 7) _ = _
    simp only [Act.put, List.setIfInBounds_toArray, List.set_cons_zero, List.set_cons_succ, i64_w, i32_w]
    rfl
  refine one_ (i := 2) (N := some 8) #[true, true, true, false, false, false, false, false, false, false] rfl rfl (by kernel_rfl) (by decide) (fun K hK => ?_)
  refine goes_ Try.func81 (by kernel_rfl) rfl #[.agg #[.int .i64 sa, .slice A la.length c], .agg #[.int .i64 sm, .slice A3 lm.length c3]] (by rfl) rfl rfl (by simp only [List.map_toArray, List.map_cons, List.map_nil]; rfl) ?_
  with_reducible refine (cmpC k sa la _ _ sm lm _ _ c1 x1 _ ?side1 HCa.out ?side2 HC3.out H3.out).mono ?_
  (case side1 => exact DT.below HDa.out (by repeat (first | (with_reducible first | exact HB.out | apply below_alloc | apply pw_below_drewN | apply below_drew1) | exact HB.out)))
  (case side2 => exact HD3.out)
  rintro e w4 ⟨rfl, hb⟩
  refine ⟨_, rfl, ?_⟩
  have n_BKa := Aside0.mk (blk_below BKa.out hb)
  have n_b := Aside0.mk (below_step HB.out hb)
  clear HB BKa
  have BKa := n_BKa
  have HB := n_b
  clear n_b hb n_BKa
  refine hK.out _ _ ⟨(blk_cell BKa.out 0).trans rfl, (blk_cell BKa.out 1).trans rfl⟩ (fun hHeld => ?_)
  clear hK K
  refine norm_ (a' := ?_) ?_ ?_
  rotate_left
  · show Act.put _ (some 8) _ = _
    simp only [Act.put, List.setIfInBounds_toArray, List.set_cons_zero, List.set_cons_succ, i64_w, i32_w]
    rfl
  refine pure_ (i := 3) (N := some 9) (v := ?_) (a' := ?_) #[true, true, true, true, false, false, false, false, false, false] rfl rfl (by kernel_rfl) (fun _ _ _ h => h) (Or.inl ⟨by rfl, ?_⟩) ?_ ?_
  rotate_left
  · intro w'
    go_simp
    with_reducible rfl
  rotate_left
  · simp only [Act.put, List.setIfInBounds_toArray, List.set_cons_zero, List.set_cons_succ, i64_w, i32_w]
    rfl
  refine pure_ (i := 4) (N := some 10) (v := ?_) (a' := ?_) #[true, true, true, true, true, false, false, false, false, false] rfl rfl (by kernel_rfl) (fun _ _ _ h => h) (Or.inl ⟨by rfl, ?_⟩) ?_ ?_
  rotate_left
  · intro w'
    go_simp
    with_reducible rfl
  rotate_left
  · simp only [Act.put, List.setIfInBounds_toArray, List.set_cons_zero, List.set_cons_succ, i64_w, i32_w]
    rfl
  refine take_ (i := 5) (N := some 11) (v := ?_) (a' := ?_) #[true, true, true, true, true, true, false, false, false, false] rfl rfl (by kernel_rfl) (fun _ _ _ h => h) (Or.inl ⟨by rfl, ?_⟩) hHeld ?_ ?_
  rotate_left
  · rintro w' ⟨s0, s1⟩
    go_simp
    with_reducible rfl
  rotate_left
  · simp only [Act.put, List.setIfInBounds_toArray, List.set_cons_zero, List.set_cons_succ, i64_w, i32_w]
    rfl
  refine one_ (i := 6) (N := some 12) #[true, true, true, true, true, true, true, false, false, false] rfl rfl (by kernel_rfl) (by decide) (fun K hK => ?_)
  refine goes_ Try.func64 (by kernel_rfl) rfl #[.int .i64 (-9223372036854775808)] (by rfl) rfl rfl (by simp only [List.map_toArray, List.map_cons, List.map_nil]; rfl) ?_
  with_reducible refine (ofC k _ _ _ _ H2.out).mono ?_
  rintro e w5 ⟨v, rfl, ⟨A5, c5, rfl, hc5, hD5⟩, hb⟩
  refine ⟨_, rfl, ?_⟩
  have HD5 := Aside0.mk hD5
  have HC5 := Aside0.mk hc5
  clear hD5 hc5
  have n_BKa := Aside0.mk (blk_below BKa.out hb)
  have n_b := Aside0.mk (below_step HB.out hb)
  clear HB BKa
  have BKa := n_BKa
  have HB := n_b
  clear n_b hb n_BKa
  refine hK.out _ _ ⟨(blk_cell BKa.out 0).trans rfl, (blk_cell BKa.out 1).trans rfl⟩ (fun hHeld => ?_)
  clear hK K
  refine norm_ (a' := ?_) ?_ ?_
  rotate_left
  · show Act.put _ (some 12) _ = _
    simp only [Act.put, List.setIfInBounds_toArray, List.set_cons_zero, List.set_cons_succ, i64_w, i32_w]
    rfl
  refine one_ (i := 7) (N := some 13) #[true, true, true, true, true, true, true, true, false, false] rfl rfl (by kernel_rfl) (by decide) (fun K hK => ?_)
  refine goes_ Try.func81 (by kernel_rfl) rfl #[.agg #[.int .i64 sa, .slice A la.length c], .agg #[.int .i64 sn, .slice A5 ln.length c5]] (by rfl) rfl rfl (by simp only [List.map_toArray, List.map_cons, List.map_nil]; rfl) ?_
  with_reducible refine (cmpC k sa la _ _ sn ln _ _ c2 x2 _ ?side1 HCa.out ?side2 HC5.out H4.out).mono ?_
  (case side1 => exact DT.below HDa.out (by repeat (first | (with_reducible first | exact HB.out | apply below_alloc | apply pw_below_drewN | apply below_drew1) | exact HB.out)))
  (case side2 => exact HD5.out)
  rintro e w6 ⟨rfl, hb⟩
  refine ⟨_, rfl, ?_⟩
  have n_BKa := Aside0.mk (blk_below BKa.out hb)
  have n_b := Aside0.mk (below_step HB.out hb)
  clear HB BKa
  have BKa := n_BKa
  have HB := n_b
  clear n_b hb n_BKa
  refine hK.out _ _ ⟨(blk_cell BKa.out 0).trans rfl, (blk_cell BKa.out 1).trans rfl⟩ (fun hHeld => ?_)
  clear hK K
  refine norm_ (a' := ?_) ?_ ?_
  rotate_left
  · show Act.put _ (some 13) _ = _
    simp only [Act.put, List.setIfInBounds_toArray, List.set_cons_zero, List.set_cons_succ, i64_w, i32_w]
    rfl
  refine pure_ (i := 8) (N := some 14) (v := ?_) (a' := ?_) #[true, true, true, true, true, true, true, true, true, false] rfl rfl (by kernel_rfl) (fun _ _ _ h => h) (Or.inl ⟨by rfl, ?_⟩) ?_ ?_
  rotate_left
  · intro w'
    go_simp
    with_reducible rfl
  rotate_left
  · simp only [Act.put, List.setIfInBounds_toArray, List.set_cons_zero, List.set_cons_succ, i64_w, i32_w]
    rfl
  refine pure_ (i := 9) (N := some 15) (v := ?_) (a' := ?_) #[true, true, true, true, true, true, true, true, true, true] rfl rfl (by kernel_rfl) (fun _ _ _ h => h) (Or.inl ⟨by rfl, ?_⟩) ?_ ?_
  rotate_left
  · intro w'
    go_simp
    with_reducible rfl
  rotate_left
  · simp only [Act.put, List.setIfInBounds_toArray, List.set_cons_zero, List.set_cons_succ, i64_w, i32_w]
    rfl
  refine done_ (by kernel_rfl) ?_
  try go_wp2
  go_ret2
  exact ⟨by first | rfl | (simp; done), (by repeat (first | (with_reducible first | exact HB.out | apply below_alloc | apply pw_below_drewN | apply below_drew1) | exact HB.out))⟩
set_option maxHeartbeats 8000000 in
set_option maxRecDepth 100000 in
theorem fit_ok (k : Nat) (sa : Int) (la : List Int) (A : Option Addr) (c : Nat) (sm : Int) (lm : List Int) (sn : Int) (ln : List Int) (c1 : Int) (x1 : List Int) (c2 : Int) (x2 : List Int) (w : World) (hA : DT w A la) (hc : la.length ≤ c) (h1 : quitrentref01_Of.f k 9223372036854775807 = some (sm, lm)) (h2 : quitrentref01_Of.f k (-9223372036854775808) = some (sn, ln)) (h3 : quitrentref01_Plus.f k sa la (wrap64 (-sm)) lm = some (c1, x1)) (h4 : quitrentref01_Plus.f k sa la (wrap64 (-sn)) ln = some (c2, x2)) (g1 : ¬ 0 < c1) (g2 : ¬ c2 < 0) (n1 : Int) (h5 : fitL k 0 sa la (wrap64 ((la.length : Int) - 1)) = some n1) :
    Calls Try.prog 65 #[.agg #[.int .i64 sa, .slice A la.length c]] w fun e w' => e = .returned (.tuple #[.int .i64 n1, .int .i64 0]) ∧ Below w.heap.size w w' := by
  have hu89 := Try.underlying89
  have HDa := Aside0.mk hA
  have HRa := Aside0.mk hA.now
  have HCa := Aside0.mk hc
  have H1 := Aside0.mk h1
  have H2 := Aside0.mk h2
  have H3 := Aside0.mk h3
  have H4 := Aside0.mk h4
  have HB := Aside0.mk (Below.refl w.heap.size w)
  clear hA hc h1 h2 h3 h4
  have g1b : decide (0 < c1) = false := decide_eq_false g1
  have g2b : decide (c2 < 0) = false := decide_eq_false g2
  clear g1 g2
  have H' := Aside0.mk h5
  clear h5
  go_enter Try.func65, Try.ntmps65
  try go_wp2_with (first | ((with_reducible refine gate_dst (N := 1) rfl ?_); refine box_event ?hg (N := 1) ?hd (cs := #[.int .i64 sa, .slice A la.length c]) (t := 89) ?hr ?_; (case hd => rfl); (case hg => rfl); (case hr => first | (go_simp; done) | (go_simp; rfl)); intro ga hg wb hbox hb; have n_e := Aside0.mk ((by rw [hg]; exact (below_size HB.out)) : w.heap.size ≤ ga); have n_b := Aside0.mk (below_step HB.out hb); have n_k := Aside0.mk hbox; clear HB; have HB := n_b; have GEa := n_e; have BKa := n_k; clear n_e n_b n_k hb hbox hg))
  have n_BKa := Aside0.mk (blk_drew BKa.out)
  have n_HB := Aside0.mk (below_drew1 HB.out)
  clear BKa HB
  have BKa := n_BKa
  have HB := n_HB
  clear n_BKa n_HB
  refine start_ (n := 10) (S := fun w' => w'.cell? ⟨ga, 0, none⟩ = some (.int .i64 sa) ∧ w'.cell? ⟨ga, 1, none⟩ = some (.slice A la.length c)) (ds := []) #[false, false, false, false, false, false, false, false, false, false] (by kernel_rfl) rfl rfl ⟨(blk_cell BKa.out 0).trans rfl, (blk_cell BKa.out 1).trans rfl⟩ (fun hHeld => ?_)
  generalize wb.drew = wd at BKa HB hHeld ⊢
  refine take_ (i := 0) (N := some 6) (v := ?_) (a' := ?_) #[true, false, false, false, false, false, false, false, false, false] rfl rfl (by kernel_rfl) (fun _ _ _ h => h) (Or.inl ⟨by rfl, ?_⟩) hHeld ?_ ?_
  rotate_left
  · rintro w' ⟨s0, s1⟩
    go_simp
    with_reducible rfl
  rotate_left
  · simp only [Act.put, List.setIfInBounds_toArray, List.set_cons_zero, List.set_cons_succ, i64_w, i32_w]
    rfl
  refine one_ (i := 1) (N := some 7) #[true, true, false, false, false, false, false, false, false, false] rfl rfl (by kernel_rfl) (by decide) (fun K hK => ?_)
  refine goes_ Try.func64 (by kernel_rfl) rfl #[.int .i64 9223372036854775807] (by rfl) rfl rfl (by simp only [List.map_toArray, List.map_cons, List.map_nil]; rfl) ?_
  with_reducible refine (ofC k _ _ _ _ H1.out).mono ?_
  rintro e w3 ⟨v, rfl, ⟨A3, c3, rfl, hc3, hD3⟩, hb⟩
  refine ⟨_, rfl, ?_⟩
  have HD3 := Aside0.mk hD3
  have HC3 := Aside0.mk hc3
  clear hD3 hc3
  have n_BKa := Aside0.mk (blk_below BKa.out hb)
  have n_b := Aside0.mk (below_step HB.out hb)
  clear HB BKa
  have BKa := n_BKa
  have HB := n_b
  clear n_b hb n_BKa
  refine hK.out _ _ ⟨(blk_cell BKa.out 0).trans rfl, (blk_cell BKa.out 1).trans rfl⟩ (fun hHeld => ?_)
  clear hK K
  refine norm_ (a' := ?_) ?_ ?_
  rotate_left
  · show Act.put _ (some 7) _ = _
    simp only [Act.put, List.setIfInBounds_toArray, List.set_cons_zero, List.set_cons_succ, i64_w, i32_w]
    rfl
  refine one_ (i := 2) (N := some 8) #[true, true, true, false, false, false, false, false, false, false] rfl rfl (by kernel_rfl) (by decide) (fun K hK => ?_)
  refine goes_ Try.func81 (by kernel_rfl) rfl #[.agg #[.int .i64 sa, .slice A la.length c], .agg #[.int .i64 sm, .slice A3 lm.length c3]] (by rfl) rfl rfl (by simp only [List.map_toArray, List.map_cons, List.map_nil]; rfl) ?_
  with_reducible refine (cmpC k sa la _ _ sm lm _ _ c1 x1 _ ?side1 HCa.out ?side2 HC3.out H3.out).mono ?_
  (case side1 => exact DT.below HDa.out (by repeat (first | (with_reducible first | exact HB.out | apply below_alloc | apply pw_below_drewN | apply below_drew1) | exact HB.out)))
  (case side2 => exact HD3.out)
  rintro e w4 ⟨rfl, hb⟩
  refine ⟨_, rfl, ?_⟩
  have n_BKa := Aside0.mk (blk_below BKa.out hb)
  have n_b := Aside0.mk (below_step HB.out hb)
  clear HB BKa
  have BKa := n_BKa
  have HB := n_b
  clear n_b hb n_BKa
  refine hK.out _ _ ⟨(blk_cell BKa.out 0).trans rfl, (blk_cell BKa.out 1).trans rfl⟩ (fun hHeld => ?_)
  clear hK K
  refine norm_ (a' := ?_) ?_ ?_
  rotate_left
  · show Act.put _ (some 8) _ = _
    simp only [Act.put, List.setIfInBounds_toArray, List.set_cons_zero, List.set_cons_succ, i64_w, i32_w]
    rfl
  refine pure_ (i := 3) (N := some 9) (v := ?_) (a' := ?_) #[true, true, true, true, false, false, false, false, false, false] rfl rfl (by kernel_rfl) (fun _ _ _ h => h) (Or.inl ⟨by rfl, ?_⟩) ?_ ?_
  rotate_left
  · intro w'
    go_simp
    with_reducible rfl
  rotate_left
  · simp only [Act.put, List.setIfInBounds_toArray, List.set_cons_zero, List.set_cons_succ, i64_w, i32_w]
    rfl
  refine pure_ (i := 4) (N := some 10) (v := ?_) (a' := ?_) #[true, true, true, true, true, false, false, false, false, false] rfl rfl (by kernel_rfl) (fun _ _ _ h => h) (Or.inl ⟨by rfl, ?_⟩) ?_ ?_
  rotate_left
  · intro w'
    go_simp
    with_reducible rfl
  rotate_left
  · simp only [Act.put, List.setIfInBounds_toArray, List.set_cons_zero, List.set_cons_succ, i64_w, i32_w]
    rfl
  refine take_ (i := 5) (N := some 11) (v := ?_) (a' := ?_) #[true, true, true, true, true, true, false, false, false, false] rfl rfl (by kernel_rfl) (fun _ _ _ h => h) (Or.inl ⟨by rfl, ?_⟩) hHeld ?_ ?_
  rotate_left
  · rintro w' ⟨s0, s1⟩
    go_simp
    with_reducible rfl
  rotate_left
  · simp only [Act.put, List.setIfInBounds_toArray, List.set_cons_zero, List.set_cons_succ, i64_w, i32_w]
    rfl
  refine one_ (i := 6) (N := some 12) #[true, true, true, true, true, true, true, false, false, false] rfl rfl (by kernel_rfl) (by decide) (fun K hK => ?_)
  refine goes_ Try.func64 (by kernel_rfl) rfl #[.int .i64 (-9223372036854775808)] (by rfl) rfl rfl (by simp only [List.map_toArray, List.map_cons, List.map_nil]; rfl) ?_
  with_reducible refine (ofC k _ _ _ _ H2.out).mono ?_
  rintro e w5 ⟨v, rfl, ⟨A5, c5, rfl, hc5, hD5⟩, hb⟩
  refine ⟨_, rfl, ?_⟩
  have HD5 := Aside0.mk hD5
  have HC5 := Aside0.mk hc5
  clear hD5 hc5
  have n_BKa := Aside0.mk (blk_below BKa.out hb)
  have n_b := Aside0.mk (below_step HB.out hb)
  clear HB BKa
  have BKa := n_BKa
  have HB := n_b
  clear n_b hb n_BKa
  refine hK.out _ _ ⟨(blk_cell BKa.out 0).trans rfl, (blk_cell BKa.out 1).trans rfl⟩ (fun hHeld => ?_)
  clear hK K
  refine norm_ (a' := ?_) ?_ ?_
  rotate_left
  · show Act.put _ (some 12) _ = _
    simp only [Act.put, List.setIfInBounds_toArray, List.set_cons_zero, List.set_cons_succ, i64_w, i32_w]
    rfl
  refine one_ (i := 7) (N := some 13) #[true, true, true, true, true, true, true, true, false, false] rfl rfl (by kernel_rfl) (by decide) (fun K hK => ?_)
  refine goes_ Try.func81 (by kernel_rfl) rfl #[.agg #[.int .i64 sa, .slice A la.length c], .agg #[.int .i64 sn, .slice A5 ln.length c5]] (by rfl) rfl rfl (by simp only [List.map_toArray, List.map_cons, List.map_nil]; rfl) ?_
  with_reducible refine (cmpC k sa la _ _ sn ln _ _ c2 x2 _ ?side1 HCa.out ?side2 HC5.out H4.out).mono ?_
  (case side1 => exact DT.below HDa.out (by repeat (first | (with_reducible first | exact HB.out | apply below_alloc | apply pw_below_drewN | apply below_drew1) | exact HB.out)))
  (case side2 => exact HD5.out)
  rintro e w6 ⟨rfl, hb⟩
  refine ⟨_, rfl, ?_⟩
  have n_BKa := Aside0.mk (blk_below BKa.out hb)
  have n_b := Aside0.mk (below_step HB.out hb)
  clear HB BKa
  have BKa := n_BKa
  have HB := n_b
  clear n_b hb n_BKa
  refine hK.out _ _ ⟨(blk_cell BKa.out 0).trans rfl, (blk_cell BKa.out 1).trans rfl⟩ (fun hHeld => ?_)
  clear hK K
  refine norm_ (a' := ?_) ?_ ?_
  rotate_left
  · show Act.put _ (some 13) _ = _
    simp only [Act.put, List.setIfInBounds_toArray, List.set_cons_zero, List.set_cons_succ, i64_w, i32_w]
    rfl
  refine pure_ (i := 8) (N := some 14) (v := ?_) (a' := ?_) #[true, true, true, true, true, true, true, true, true, false] rfl rfl (by kernel_rfl) (fun _ _ _ h => h) (Or.inl ⟨by rfl, ?_⟩) ?_ ?_
  rotate_left
  · intro w'
    go_simp
    with_reducible rfl
  rotate_left
  · simp only [Act.put, List.setIfInBounds_toArray, List.set_cons_zero, List.set_cons_succ, i64_w, i32_w]
    rfl
  refine pure_ (i := 9) (N := some 15) (v := ?_) (a' := ?_) #[true, true, true, true, true, true, true, true, true, true] rfl rfl (by kernel_rfl) (fun _ _ _ h => h) (Or.inl ⟨by rfl, ?_⟩) ?_ ?_
  rotate_left
  · intro w'
    go_simp
    with_reducible rfl
  rotate_left
  · simp only [Act.put, List.setIfInBounds_toArray, List.set_cons_zero, List.set_cons_succ, i64_w, i32_w]
    rfl
  refine done_ (by kernel_rfl) ?_
  clear hHeld
  have hczBKa0 : w6.cell? ⟨ga, 0, none⟩ = some (.int .i64 sa) := (blk_cell BKa.out 0).trans rfl
  have hczBKa1 : w6.cell? ⟨ga, 1, none⟩ = some (.slice A la.length c) := (blk_cell BKa.out 1).trans rfl
  have hfzBKa0 := blk_frozen BKa.out 0
  have hfzBKa1 := blk_frozen BKa.out 1
  go_wp2
  clear hczBKa0 hczBKa1 hfzBKa0 hfzBKa1
  go_loopg [4, 5] k (fun kq v4 v5 w' => ∃ (n i : Int), v4 = .int .i64 n ∧ v5 = .int .i64 i ∧ Aside0 (fitL kq n sa la i = some n1) ∧ Aside0 (kq ≤ k) ∧ Aside0 (w'.heap[ga]? = some (.cells #[.int .i64 sa, .slice A la.length c] 89 (0, 0))) ∧ Aside0 (Below w.heap.size w w'))
  case atStart => exact ⟨0, _, (by first | rfl | (simp; done) | (simp [*]; done)), (by first | rfl | (simp; done) | (simp [*]; done)), H', ⟨Nat.le_refl _⟩, ⟨(by (with_reducible repeat (first | refine blk_drewN ?_ _ | refine blk_drew ?_ | refine blk_alloc ?_ _)); exact BKa.out)⟩, ⟨(by repeat (first | (with_reducible first | exact HB.out | apply below_alloc | apply pw_below_drewN | apply below_drew1) | exact HB.out))⟩⟩
  case round =>
    clear H'
    obtain ⟨n, i, rfl, rfl, HA, HK1, BKa, HB⟩ := hrel
    cases gk with
    | zero => exact absurd HA.out (by simp [fitL])
    | succ k1 =>
      have H := HA.out
      clear HA
      simp only [fitL] at H
      have hczBKa0 : wr.cell? ⟨ga, 0, none⟩ = some (.int .i64 sa) := (blk_cell BKa.out 0).trans rfl
      have hczBKa1 : wr.cell? ⟨ga, 1, none⟩ = some (.slice A la.length c) := (blk_cell BKa.out 1).trans rfl
      have hfzBKa0 := blk_frozen BKa.out 0
      have hfzBKa1 := blk_frozen BKa.out 1
      by_cases g4 : i ≥ 0
      · rw [if_pos g4] at H
        have g4b : decide (0 ≤ i) = true := decide_eq_true g4
        by_cases g5 : i < (la.length : Int)
        · rw [if_pos g5] at H
          obtain ⟨ad, ea, hx⟩ := Kd.at_int HRa.out i g4 g5
          cases ea
          replace hx := (HB.out.cell (World.block_lt_of_cell? w _ hx)).trans hx
          have p4 := eq_true g4
          have p5 := eq_true g5
          have p5b := decide_eq_true g5
          have H' := Aside0.mk H
          clear H g4 g5
          go_wp2
          repeat (go_quiet (fail); try go_wp2)
          go_roundg k1
          case measure => have := HK1.out; omega
          case rel => exact ⟨_, _, (by first | rfl | (simp; done) | (simp [*]; done)), (by first | rfl | (simp; done) | (simp [*]; done)), H', ⟨by have := HK1.out; omega⟩, ⟨(by (with_reducible repeat (first | refine blk_drewN ?_ _ | refine blk_drew ?_ | refine blk_alloc ?_ _)); exact BKa.out)⟩, ⟨(by repeat (first | (with_reducible first | exact HB.out | apply below_alloc | apply pw_below_drewN | apply below_drew1) | exact HB.out))⟩⟩
        · rw [if_neg g5] at H
          exact absurd H (by simp)
      · rw [if_neg g4] at H
        have g4b : decide (0 ≤ i) = false := decide_eq_false g4
        have HF := Aside0.mk (Option.some.inj H)
        clear H g4
        go_wp2
        go_ret2
        exact ⟨by rw [← HF.out]; rfl, (by repeat (first | (with_reducible first | exact HB.out | apply below_alloc | apply pw_below_drewN | apply below_drew1) | exact HB.out))⟩
end Go.Proofs.Ytkfbmplhcigopaa.PPlo
namespace Go.Proofs.Ytkfbmplhcigopaa.PPlo
open Go.RowKit Go.Proofs.YtkfbmplhcigopaaW.PrintWords Go.Proofs.YtkfbmplhcigopaaW.PrintLast Go.Proofs.YtkfbmplhcigopaaW.PrintMore
attribute [local go_sem] max2_int max_two
/-- What Fit computes. -/
def fitF (k : Nat) (s : Int) (l : List Int) : Option (Int × Int) :=
  (quitrentref01_Of.f k 9223372036854775807).bind fun m => (quitrentref01_Of.f k (-9223372036854775808)).bind fun q =>
    (quitrentref01_Plus.f k s l (wrap64 (-m.1)) m.2).bind fun c1 => (quitrentref01_Plus.f k s l (wrap64 (-q.1)) q.2).bind fun c2 =>
      if 0 < c1.1 then some (0, 3) else if c2.1 < 0 then some (0, 3) else (fitL k 0 s l (wrap64 ((l.length : Int) - 1))).bind fun n => some (n, 0)
theorem fitC (k : Nat) (sa : Int) (la : List Int) (A : Option Addr) (c : Nat) (n e : Int) (w : World) (hA : DT w A la) (hc : la.length ≤ c) (h : fitF k sa la = some (n, e)) :
    Calls Try.prog 65 #[.agg #[.int .i64 sa, .slice A la.length c]] w fun z w' => z = .returned (.tuple #[.int .i64 n, .int .i64 e]) ∧ Below w.heap.size w w' := by
  unfold fitF at h
  obtain ⟨⟨sm, lm⟩, h1, h⟩ := Option.bind_eq_some_iff.mp h
  obtain ⟨⟨sn, ln⟩, h2, h⟩ := Option.bind_eq_some_iff.mp h
  obtain ⟨⟨c1, x1⟩, h3, h⟩ := Option.bind_eq_some_iff.mp h
  obtain ⟨⟨c2, x2⟩, h4, h⟩ := Option.bind_eq_some_iff.mp h
  by_cases g1 : 0 < c1
  · rw [if_pos g1] at h
    simp only [Option.some.injEq, Prod.mk.injEq] at h
    obtain ⟨rfl, rfl⟩ := h
    exact fit_over k sa la A c sm lm sn ln c1 x1 c2 x2 w hA hc h1 h2 h3 h4 g1
  · rw [if_neg g1] at h
    by_cases g2 : c2 < 0
    · rw [if_pos g2] at h
      simp only [Option.some.injEq, Prod.mk.injEq] at h
      obtain ⟨rfl, rfl⟩ := h
      exact fit_under k sa la A c sm lm sn ln c1 x1 c2 x2 w hA hc h1 h2 h3 h4 g1 g2
    · rw [if_neg g2] at h
      obtain ⟨m, h5, h⟩ := Option.bind_eq_some_iff.mp h
      simp only [Option.some.injEq, Prod.mk.injEq] at h
      obtain ⟨rfl, rfl⟩ := h
      exact fit_ok k sa la A c sm lm sn ln c1 x1 c2 x2 w hA hc h1 h2 h3 h4 g1 g2 m h5
/-- What the document's Stairs computes. -/
def rstL : Nat → Int → List Int → List S41 → List Int → Int → Option (List S41 × Int)
  | 0, _, _, _, _, _ => none
  | k + 1, s, d, out, l, i => if i < (l.length : Int) then (if 0 ≤ i then (quitrentref01_Of.f k (rd l i)).bind fun q => (quitrentref01_Plus.f k s d q.1 q.2).bind fun t => (fitF k t.1 t.2).bind fun r => (if r.2 = 0 then (quitrentref21_may.f 0 r.1).bind fun b => (if b = true then (if out.length < 100000 then rstL k t.1 t.2 (out ++ [⟨i, r.1⟩] ++ [⟨wrap64 (i + 1), r.1⟩]) l (wrap64 (i + 1)) else none) else some ([], 3)) else some ([], 3)) else none) else some (out, 0)
def rst (k : Nat) (l : List Int) : Option (List S41 × Int) := if 240 < l.length then some ([], 4) else rstL k 0 [] [⟨0, 0⟩] l 0
theorem DT.grown {w w1 : World} {A : Option Addr} {l : List Int} {row : Option Nat} {t : Nat} (h : DT w A l) (hg : w.grownBy w1 row) (hr : ∀ k, row = some k → ∃ cells, w.heap[k]? = some (.cells cells t (0, 0))) (ht : 3 ≠ t) : DT w1 A l := by
  have hne : ∀ k, ty3 w k → some k ≠ row := by
    rintro k ⟨c, hc⟩ hk
    obtain ⟨c2, h2⟩ := hr k hk.symm
    rw [hc] at h2
    injection h2 with h2
    injection h2 with _ h2
    exact ht h2
  exact Kd.F_mono (Kd.F_grown h hg hne) fun k hk => by
    obtain ⟨c, hc⟩ := hk
    exact ⟨c, (hg.block k (blk_lt hc) (hne k ⟨c, hc⟩)).trans hc⟩
set_option maxHeartbeats 8000000 in
set_option maxRecDepth 100000 in
theorem rst_long (l : List Int) (L : Option Addr) (cl : Nat) (w : World) (hl : 240 < l.length) :
    Calls Try.prog 30 #[.slice L l.length cl] w fun z w' => z = .returned (.tuple #[.slice none 0 0, .int .i64 4]) ∧ Below w.heap.size w w' := by
  have HB := Aside0.mk (Below.refl w.heap.size w)
  have g0 : decide (240 < (l.length : Int)) = true := decide_eq_true (by omega)
  have g1 : decide (240 < l.length) = true := decide_eq_true hl
  clear hl
  go_enter Try.func30, Try.ntmps30
  go_wp2
  go_ret2
  exact ⟨by first | rfl | (simp; done), (by repeat (first | (with_reducible first | exact HB.out | apply below_alloc | apply pw_below_drewN | apply below_drew1 | refine below_set ?_ GE.out) | exact HB.out))⟩
set_option maxHeartbeats 8000000 in
set_option maxRecDepth 100000 in
theorem rst_loop (k : Nat) (l : List Int) (L : Option Addr) (cl : Nat) (ys : List S41) (e : Int) (w : World) (hC : Kd.C (Kd.int .i64) w L l.length l) (hc : l.length ≤ cl) (hl : ¬ 240 < l.length) (h : rstL k 0 [] [⟨0, 0⟩] l 0 = some (ys, e)) :
    Calls Try.prog 30 #[.slice L l.length cl] w fun z w' => ∃ A c, z = .returned (.tuple #[.slice A ys.length c, .int .i64 e]) ∧ ys.length ≤ c ∧ Kd.C k41 w' A ys.length ys ∧ Below w.heap.size w w' := by
  have hu89 := Try.underlying89
  have HR := Aside0.mk hC
  have HC := Aside0.mk hc
  have H' := Aside0.mk h
  have HB := Aside0.mk (Below.refl w.heap.size w)
  have g0 : decide (240 < (l.length : Int)) = false := decide_eq_false (by omega)
  have g1 : decide (240 < l.length) = false := decide_eq_false hl
  clear hC hc hl h
  go_enter Try.func30, Try.ntmps30
  go_wp2_with (first | ((with_reducible refine gate_dst (N := 13) rfl ?_); refine Kd.R_lit k41 _ 41 ?hg (N := 13) ?hd (xs := [(⟨0, 0⟩ : S41)]) (inner := [.int .i64 0, .int .i64 0]) (ok := fun _ => True) (okp := fun _ => True) ?hr ?hp (fun _ hk => hk) trivial (Below.refl _ _) (Nat.le_refl _) (by simp) ?_; (case hd => rfl); (case hg => rfl); (case hr => first | (go_simp; done) | (go_simp; rfl)); (case hp => exact (Reps.c2 (show Kd.M k41 _ _ _ (⟨0, 0⟩ : S41) [.int .i64 0, .int .i64 0] from (k41_mkM _ _ _ (⟨0, 0⟩ : S41) )) (Reps.none _ _))); intro vl wl ho4 hb hg_ hnew_; clear hg_ hnew_; have n_o := Aside0.mk (Kd.R_lower ho4 (below_size (by repeat (first | (with_reducible first | exact HB.out | apply below_alloc | apply pw_below_drewN | apply below_drew1 | refine below_set ?_ GE.out) | exact HB.out)))); have n_b := Aside0.mk (below_step (by repeat (first | (with_reducible first | exact HB.out | apply below_alloc | apply pw_below_drewN | apply below_drew1 | refine below_set ?_ GE.out) | exact HB.out)) hb); clear HB; have HB := n_b; have HO := n_o; clear n_b n_o hb ho4) | ((with_reducible refine gate_dst (N := 5) rfl ?_); refine box_event ?hg (N := 5) ?hd (cs := #[.int .i64 0, .slice none 0 0]) (t := 89) ?hr ?_; (case hd => rfl); (case hg => rfl); (case hr => first | (go_simp; done) | (go_simp; rfl)); intro gs hg wb hbox hb; have n_o := Aside0.mk (Kd.R_below (by (with_reducible repeat (first | apply Kd.R_alloc | apply Kd.R_drewN | apply Kd.R_drew)); exact HO.out) hb); have n_e := Aside0.mk ((by rw [hg]; exact (below_size HB.out)) : w.heap.size ≤ gs); have n_b := Aside0.mk (below_step HB.out hb); have n_k := Aside0.mk hbox; clear HB; have HB := n_b; have GE := n_e; have BK := n_k; clear n_e n_b n_k hb hbox hg; clear HO; have HO := n_o; clear n_o; have hczBK0 : wb.cell? ⟨gs, 0, none⟩ = some (.int .i64 0) := (blk_cell BK.out 0).trans rfl; have hczBK1 : wb.cell? ⟨gs, 1, none⟩ = some (.slice none 0 0) := (blk_cell BK.out 1).trans rfl; have hfzBK0 := blk_frozen BK.out 0; have hfzBK1 := blk_frozen BK.out 1))
  clear hczBK0 hczBK1 hfzBK0 hfzBK1 g0 g1
  go_loopg [4, 6] k (fun kq v4 v6 w' => ∃ (s : Int) (d : List Int) (A : Option Addr) (c : Nat) (out : List S41) (i : Int), v6 = .int .i64 i ∧ Aside0 (rstL kq s d out l i = some (ys, e)) ∧ Aside0 (kq ≤ k) ∧ Aside0 (Kd.R k41 41 w' w.heap.size (fun _ => True) v4 out) ∧ Aside0 (w'.heap[gs]? = some (.cells #[.int .i64 s, .slice A d.length c] 89 (0, 0))) ∧ Aside0 (d.length ≤ c) ∧ Aside0 (DT w' A d) ∧ Aside0 (Below w.heap.size w w'))
  case atStart => exact ⟨0, [], none, 0, [⟨0, 0⟩], 0, (by first | rfl | (simp; done) | (simp [*]; done)), H', ⟨Nat.le_refl _⟩, ⟨Kd.R_set (Kd.R_set HO.out BK.out (by decide) 0 (.int .i64 0)) (t := 89) (blk_put BK.out 0 (.int .i64 0) rfl) (by decide) 1 (.slice none 0 0)⟩, ⟨blk_put (cs := #[.int .i64 0, .slice none 0 0]) (blk_put (cs := #[.int .i64 0, .slice none 0 0]) BK.out 0 (.int .i64 0) rfl) 1 (.slice none 0 0) rfl⟩, ⟨Nat.le_refl _⟩, ⟨DT.nil _⟩, ⟨(by repeat (first | (with_reducible first | exact HB.out | apply below_alloc | apply pw_below_drewN | apply below_drew1 | refine below_set ?_ GE.out) | exact HB.out))⟩⟩
  case round =>
    clear H'
    obtain ⟨s, d, A, c, out, i, rfl, HA, HK1, HO, BK, HCs, HD, HB⟩ := hrel
    cases gk with
    | zero => exact absurd HA.out (by simp [rstL])
    | succ k1 =>
      have H := HA.out
      clear HA
      simp only [rstL] at H
      by_cases g4 : i < (l.length : Int)
      · rw [if_pos g4] at H
        have g4b : decide (i < (l.length : Int)) = true := decide_eq_true g4
        by_cases g5 : 0 ≤ i
        · rw [if_pos g5] at H
          obtain ⟨ad, ea, hx⟩ := Kd.at_int HR.out i g5 g4
          cases ea
          have HX := Aside0.mk hx
          have p4 := eq_true g4
          have p5 := eq_true g5
          have p5b := decide_eq_true g5
          obtain ⟨⟨s1, d1⟩, f1, H⟩ := Option.bind_eq_some_iff.mp H
          obtain ⟨⟨s2, d2⟩, f2, H⟩ := Option.bind_eq_some_iff.mp H
          obtain ⟨⟨n, ee⟩, f3, H⟩ := Option.bind_eq_some_iff.mp H
          have HF1 := Aside0.mk f1
          have HF2 := Aside0.mk f2
          have HF3 := Aside0.mk f3
          have HH := Aside0.mk H
          clear f1 f2 f3 g4 g5 hx H
          go_wp2
          have n_BK := Aside0.mk (blk_drew BK.out)
          have n_HO := Aside0.mk (Kd.R_drew HO.out)
          have n_HD := Aside0.mk (DT.below HD.out (below_drew (Below.refl _ _)))
          have n_HB := Aside0.mk (below_drew1 HB.out)
          clear BK HO HD HB
          have BK := n_BK
          have HO := n_HO
          have HD := n_HD
          have HB := n_HB
          clear n_BK n_HO n_HD n_HB
          refine start_ (n := 8) (S := fun w' => w'.cell? ⟨gs, 0, none⟩ = some (.int .i64 s) ∧ w'.cell? ⟨gs, 1, none⟩ = some (.slice A d.length c) ∧ w'.cell? (ad.add i.toNat) = some (.int .i64 (rd l i))) (ds := [7]) #[false, false, false, false, false, false, false, false] (by kernel_rfl) rfl rfl ⟨(blk_cell BK.out 0).trans rfl, (blk_cell BK.out 1).trans rfl, (HB.out.cell (World.block_lt_of_cell? w _ HX.out)).trans HX.out⟩ (fun hHeld => ?_)
          generalize wr.drew = wd at BK HO HD HB hHeld ⊢
          refine pure_ (i := 1) (N := some 22) (v := ?_) (a' := ?_) #[false, true, false, false, false, false, false, false] rfl rfl (by kernel_rfl) (fun _ _ _ h => h) (Or.inl ⟨by rfl, ?_⟩) ?_ ?_
          rotate_left
          · intro w'
            go_simp
            with_reducible rfl
          rotate_left
          · simp only [Act.put, List.setIfInBounds_toArray, List.set_cons_zero, List.set_cons_succ, i64_w, i32_w]
            rfl
          refine pure_ (i := 2) (N := some 23) (v := ?_) (a' := ?_) #[false, true, true, false, false, false, false, false] rfl rfl (by kernel_rfl) (fun _ _ _ h => h) (Or.inl ⟨by rfl, ?_⟩) ?_ ?_
          rotate_left
          · intro w'
            go_simp
            with_reducible rfl
          rotate_left
          · simp only [Act.put, List.setIfInBounds_toArray, List.set_cons_zero, List.set_cons_succ, i64_w, i32_w]
            rfl
          refine pure_ (i := 3) (N := some 24) (v := ?_) (a' := ?_) #[false, true, true, true, false, false, false, false] rfl rfl (by kernel_rfl) (fun _ _ _ h => h) (Or.inl ⟨by rfl, ?_⟩) ?_ ?_
          rotate_left
          · intro w'
            go_simp
            with_reducible rfl
          rotate_left
          · simp only [Act.put, List.setIfInBounds_toArray, List.set_cons_zero, List.set_cons_succ, i64_w, i32_w]
            rfl
          refine take_ (i := 0) (N := some 21) (v := ?_) (a' := ?_) #[true, true, true, true, false, false, false, false] rfl rfl (by kernel_rfl) (fun _ _ _ h => h) (Or.inl ⟨by rfl, ?_⟩) hHeld ?_ ?_
          rotate_left
          · rintro w' ⟨s0, s1, s2⟩
            go_simp
            with_reducible rfl
          rotate_left
          · simp only [Act.put, List.setIfInBounds_toArray, List.set_cons_zero, List.set_cons_succ, i64_w, i32_w]
            rfl
          refine take_ (i := 4) (N := some 25) (v := ?_) (a' := ?_) #[true, true, true, true, true, false, false, false] rfl rfl (by kernel_rfl) (fun _ _ _ h => h) (Or.inl ⟨by rfl, ?_⟩) hHeld ?_ ?_
          rotate_left
          · rintro w' ⟨s0, s1, s2⟩
            go_simp
            with_reducible rfl
          rotate_left
          · simp only [Act.put, List.setIfInBounds_toArray, List.set_cons_zero, List.set_cons_succ, i64_w, i32_w]
            rfl
          refine one_ (i := 5) (N := some 26) #[true, true, true, true, true, true, false, false] rfl rfl (by kernel_rfl) (by decide) (fun K hK => ?_)
          refine goes_ Try.func64 (by kernel_rfl) rfl #[.int .i64 (rd l i)] (by rfl) rfl rfl (by simp only [List.map_toArray, List.map_cons, List.map_nil]; rfl) ?_
          with_reducible refine (ofC k1 (rd l i) s1 d1 _ HF1.out).mono ?_
          rintro e_ w3 ⟨v, rfl, ⟨A3, c3, rfl, hc3, hD3⟩, hb⟩
          refine ⟨_, rfl, ?_⟩
          have n_o := Aside0.mk (Kd.R_below HO.out hb)
          have n_HD := Aside0.mk (DT.below HD.out hb)
          have n_k := Aside0.mk (blk_below BK.out hb)
          have n_b := Aside0.mk (below_step HB.out hb)
          clear HO BK HB HD
          have HO := n_o
          have BK := n_k
          have HB := n_b
          have HD := n_HD
          clear n_o n_k n_b hb n_HD
          have HD3 := Aside0.mk hD3
          have HC3 := Aside0.mk hc3
          clear hD3 hc3
          refine hK.out _ _ ⟨(blk_cell BK.out 0).trans rfl, (blk_cell BK.out 1).trans rfl, (HB.out.cell (World.block_lt_of_cell? w _ HX.out)).trans HX.out⟩ (fun hHeld => ?_)
          clear hK K
          refine norm_ (a' := ?_) ?_ ?_
          rotate_left
          · show Act.put _ (some 26) _ = _
            simp only [Act.put, List.setIfInBounds_toArray, List.set_cons_zero, List.set_cons_succ, i64_w, i32_w]
            rfl
          refine one_ (i := 6) (N := some 27) #[true, true, true, true, true, true, true, false] rfl rfl (by kernel_rfl) (by decide) (fun K hK => ?_)
          refine goes_ Try.func63 (by kernel_rfl) rfl #[.agg #[.int .i64 s, .slice A d.length c], .agg #[.int .i64 s1, .slice A3 d1.length c3]] (by rfl) rfl rfl (by simp only [List.map_toArray, List.map_cons, List.map_nil]; rfl) ?_
          with_reducible refine (plusC k1 s d _ _ s1 d1 _ _ s2 d2 _ HD.out HCs.out HD3.out HC3.out HF2.out).mono ?_
          rintro e_ w5 ⟨v, rfl, ⟨A5, c5, rfl, hc5, hD5⟩, hb⟩
          refine ⟨_, rfl, ?_⟩
          have n_o := Aside0.mk (Kd.R_below HO.out hb)
          have n_HD := Aside0.mk (DT.below HD.out hb)
          have n_k := Aside0.mk (blk_below BK.out hb)
          have n_b := Aside0.mk (below_step HB.out hb)
          clear HO BK HB HD
          have HO := n_o
          have BK := n_k
          have HB := n_b
          have HD := n_HD
          clear n_o n_k n_b hb n_HD
          have HD5 := Aside0.mk hD5
          have HC5 := Aside0.mk hc5
          clear hD5 hc5 HD3
          refine hK.out _ _ ⟨(blk_cell BK.out 0).trans rfl, (blk_cell BK.out 1).trans rfl, (HB.out.cell (World.block_lt_of_cell? w _ HX.out)).trans HX.out⟩ (fun hHeld => ?_)
          clear hK K
          refine norm_ (a' := ?_) ?_ ?_
          rotate_left
          · show Act.put _ (some 27) _ = _
            simp only [Act.put, List.setIfInBounds_toArray, List.set_cons_zero, List.set_cons_succ, i64_w, i32_w]
            rfl
          refine last_ (i := 7) (N := none) #[true, true, true, true, true, true, true, true] rfl rfl (by kernel_rfl) (by decide) (fun K hK => ?_)
          have hs0 : w5.cell? ⟨gs, 0, none⟩ = some (.int .i64 s) := (blk_cell BK.out 0).trans rfl
          have hf0 := blk_frozen BK.out 0
          have hs1 : w5.cell? ⟨gs, 1, none⟩ = some (.slice A d.length c) := (blk_cell BK.out 1).trans rfl
          have hf1 := blk_frozen BK.out 1
          refine skip_ (w1 := ?_) (by rfl) rfl ?_ ?_
          rotate_left
          · go_simp
            rfl
          refine hK.out _ _ ?_
          clear hK K
          refine done_ (by kernel_rfl) ?_
          have n_o := Aside0.mk (Kd.R_set (Kd.R_set HO.out BK.out (by decide) 0 (.int .i64 s2)) (t := 89) (blk_put BK.out 0 (.int .i64 s2) rfl) (by decide) 1 (.slice A5 d2.length c5))
          have n_d := Aside0.mk (DT.set (DT.set HD5.out BK.out (by decide) 0 (.int .i64 s2)) (t := 89) (blk_put BK.out 0 (.int .i64 s2) rfl) (by decide) 1 (.slice A5 d2.length c5))
          have n_b : Aside0 (Below w.heap.size w ((w5.setCell ⟨gs, 0, none⟩ (.int .i64 s2)).setCell ⟨gs, 1, none⟩ (.slice A5 d2.length c5))) := ⟨(by repeat (first | (with_reducible first | exact HB.out | apply below_alloc | apply pw_below_drewN | apply below_drew1 | refine below_set ?_ GE.out) | exact HB.out))⟩
          have n_k := Aside0.mk (blk_put (cs := #[.int .i64 s2, .slice A d.length c]) (blk_put BK.out 0 (.int .i64 s2) rfl) 1 (.slice A5 d2.length c5) (cs' := #[.int .i64 s2, .slice A5 d2.length c5]) rfl)
          clear HO HD HD5 HB BK HCs hs0 hs1 hf0 hf1
          have HO := n_o
          have HD := n_d
          have HB := n_b
          have BK := n_k
          clear n_o n_d n_b n_k
          generalize (w5.setCell ⟨gs, 0, none⟩ (.int .i64 s2)).setCell ⟨gs, 1, none⟩ (.slice A5 d2.length c5) = w6 at HO HD HB BK ⊢
          have hcz0 : w6.cell? ⟨gs, 0, none⟩ = some (.int .i64 s2) := (blk_cell BK.out 0).trans rfl
          have hcz1 : w6.cell? ⟨gs, 1, none⟩ = some (.slice A5 d2.length c5) := (blk_cell BK.out 1).trans rfl
          have H := HH.out
          clear HH
          by_cases g6 : ee = 0
          · rw [if_pos g6] at H
            subst g6
            obtain ⟨b, f4, H⟩ := Option.bind_eq_some_iff.mp H
            have HF4 := Aside0.mk f4
            clear f4
            cases b with
            | true =>
              rw [if_pos rfl] at H
              by_cases g7 : out.length < 100000
              · rw [if_pos g7] at H
                have HL := Aside0.mk g7
                have H' := Aside0.mk H
                clear g7 H
                go_wp2_with (first | ((with_reducible refine gate_callee (f := 65) rfl ?_); refine goesL_ (some 30) rfl rfl Try.func65 (by kernel_rfl) rfl #[.agg #[.int .i64 s2, .slice A5 d2.length c5]] rfl (by (try simp only [List.map_toArray, List.map_cons, List.map_nil]); first | done | rfl) ?_; (with_reducible refine (fitC k1 s2 d2 _ _ n 0 _ HD.out HC5.out HF3.out).mono ?_); rintro e_ w7 ⟨rfl, hb⟩; refine ⟨_, rfl, ?_⟩; have n_o := Aside0.mk (Kd.R_below HO.out hb); have n_HD := Aside0.mk (DT.below HD.out hb); have n_k := Aside0.mk (blk_below BK.out hb); have n_b := Aside0.mk (below_step HB.out hb); clear HO BK HB HD; have HO := n_o; have BK := n_k; have HB := n_b; have HD := n_HD; clear n_o n_k n_b hb n_HD) | ((with_reducible refine gate_dst (N := 38) rfl ?_); (refine gate_guard (by rfl) ?_; dsimp only); refine goesL_ (some 38) rfl rfl Try.func66 (by kernel_rfl) rfl #[.agg #[.int .i64 0, .int .i64 n]] rfl (by (try simp only [List.map_toArray, List.map_cons, List.map_nil]); first | done | rfl) ?_; (with_reducible refine (quitrentref21_may.calls 0 n true _ HF4.out).mono ?_); rintro e_ w8 ⟨rfl, hb⟩; refine ⟨_, rfl, ?_⟩; have n_o := Aside0.mk (Kd.R_below HO.out hb); have n_HD := Aside0.mk (DT.below HD.out hb); have n_k := Aside0.mk (blk_below BK.out hb); have n_b := Aside0.mk (below_step HB.out hb); clear HO BK HB HD; have HO := n_o; have BK := n_k; have HB := n_b; have HD := n_HD; clear n_o n_k n_b hb n_HD) | ((with_reducible refine gate_builtin (b := .append) (xs := #[.tmp 41, .tmp 45]) rfl ?_); at_builtin; refine Kd.R_append k41 (w0 := w) w.heap.size rfl (.tmp 41) (.tmp 45) 39 41 (.agg #[(.int .i64 0), (.int .i64 0)]) 16 rfl Try.underlying39 info41 rfl (by decide) (by omega) u4 (out) (⟨i, n⟩ : S41) [.int .i64 (i), .int .i64 (n)] (fun _ => True) (fun _ => False) rfl rfl ?aP (fun _ hk => hk.elim) (fun _ _ => trivial) ?aO ?aB ?aS ?aL ?_; (case aP => exact k41_mkM _ _ _ (⟨i, n⟩ : S41)); (case aB => exact (by repeat (first | (with_reducible first | exact HB.out | apply below_alloc | apply pw_below_drewN | apply below_drew1 | refine below_set ?_ GE.out) | exact HB.out))); (case aO => exact (by (with_reducible repeat (first | apply Kd.R_alloc | apply Kd.R_drewN | apply Kd.R_drew)); exact HO.out)); (case aS => exact (below_size (by repeat (first | (with_reducible first | exact HB.out | apply below_alloc | apply pw_below_drewN | apply below_drew1 | refine below_set ?_ GE.out) | exact HB.out)))); (case aL => have := HL.out; (try simp only [List.length_append, List.length_cons, List.length_nil]); omega); intro va wa ho hb hg hat; have n_BK := Aside0.mk (blk_grown (by (with_reducible repeat (first | refine blk_drewN ?_ _ | refine blk_drew ?_ | refine blk_alloc ?_ _)); exact BK.out) hg (Kd.R_ne HO.out BK.out (by decide))); have n_d := Aside0.mk (DT.grown (t := 41) HD.out hg (Kd.R_typed HO.out) (by decide)); have n_b := Aside0.mk hb; have n_o := Aside0.mk ho; clear BK HB HO HD; have BK := n_BK; have HB := n_b; have HO := n_o; have HD := n_d; clear n_BK n_b n_o n_d ho hb hg hat) | ((with_reducible refine gate_builtin (b := .append) (xs := #[.tmp 46, .tmp 51]) rfl ?_); at_builtin; refine Kd.R_append k41 (w0 := w) w.heap.size rfl (.tmp 46) (.tmp 51) 39 41 (.agg #[(.int .i64 0), (.int .i64 0)]) 16 rfl Try.underlying39 info41 rfl (by decide) (by omega) va (out ++ [⟨i, n⟩]) (⟨wrap64 (i + 1), n⟩ : S41) [.int .i64 (wrap64 (i + 1)), .int .i64 (n)] (fun _ => True) (fun _ => False) rfl rfl ?aP (fun _ hk => hk.elim) (fun _ _ => trivial) ?aO ?aB ?aS ?aL ?_; (case aP => exact k41_mkM _ _ _ (⟨wrap64 (i + 1), n⟩ : S41)); (case aB => exact (by repeat (first | (with_reducible first | exact HB.out | apply below_alloc | apply pw_below_drewN | apply below_drew1 | refine below_set ?_ GE.out) | exact HB.out))); (case aO => exact (by (with_reducible repeat (first | apply Kd.R_alloc | apply Kd.R_drewN | apply Kd.R_drew)); exact HO.out)); (case aS => exact (below_size (by repeat (first | (with_reducible first | exact HB.out | apply below_alloc | apply pw_below_drewN | apply below_drew1 | refine below_set ?_ GE.out) | exact HB.out)))); (case aL => have := HL.out; (try simp only [List.length_append, List.length_cons, List.length_nil]); omega); intro va wa ho hb hg hat; have n_BK := Aside0.mk (blk_grown (by (with_reducible repeat (first | refine blk_drewN ?_ _ | refine blk_drew ?_ | refine blk_alloc ?_ _)); exact BK.out) hg (Kd.R_ne HO.out BK.out (by decide))); have n_d := Aside0.mk (DT.grown (t := 41) HD.out hg (Kd.R_typed HO.out) (by decide)); have n_b := Aside0.mk hb; have n_o := Aside0.mk ho; clear BK HB HO HD; have BK := n_BK; have HB := n_b; have HO := n_o; have HD := n_d; clear n_BK n_b n_o n_d ho hb hg hat))
                go_roundg k1
                case measure => have := HK1.out; omega
                case rel => exact ⟨s2, d2, A5, c5, _, _, (by first | rfl | (simp; done) | (simp [*]; done)), H', ⟨by have := HK1.out; omega⟩, ⟨(by (with_reducible repeat (first | apply Kd.R_alloc | apply Kd.R_drewN | apply Kd.R_drew)); exact HO.out)⟩, ⟨(by (with_reducible repeat (first | refine blk_drewN ?_ _ | refine blk_drew ?_ | refine blk_alloc ?_ _)); exact BK.out)⟩, HC5, ⟨(by repeat (first | exact HD.out | refine DT.below ?_ (below_alloc (Below.refl _ _) _) | refine DT.below ?_ (pw_below_drewN (Below.refl _ _) _)))⟩, ⟨(by repeat (first | (with_reducible first | exact HB.out | apply below_alloc | apply pw_below_drewN | apply below_drew1 | refine below_set ?_ GE.out) | exact HB.out))⟩⟩
              · rw [if_neg g7] at H
                exact absurd H (by simp)
            | false =>
              rw [if_neg (by simp)] at H
              simp only [Option.some.injEq, Prod.mk.injEq] at H
              obtain ⟨rfl, rfl⟩ := H
              go_wp2_with (first | ((with_reducible refine gate_callee (f := 65) rfl ?_); refine goesL_ (some 30) rfl rfl Try.func65 (by kernel_rfl) rfl #[.agg #[.int .i64 s2, .slice A5 d2.length c5]] rfl (by (try simp only [List.map_toArray, List.map_cons, List.map_nil]); first | done | rfl) ?_; (with_reducible refine (fitC k1 s2 d2 _ _ n 0 _ HD.out HC5.out HF3.out).mono ?_); rintro e_ w7 ⟨rfl, hb⟩; refine ⟨_, rfl, ?_⟩; have n_o := Aside0.mk (Kd.R_below HO.out hb); have n_HD := Aside0.mk (DT.below HD.out hb); have n_k := Aside0.mk (blk_below BK.out hb); have n_b := Aside0.mk (below_step HB.out hb); clear HO BK HB HD; have HO := n_o; have BK := n_k; have HB := n_b; have HD := n_HD; clear n_o n_k n_b hb n_HD) | ((with_reducible refine gate_dst (N := 38) rfl ?_); (refine gate_guard (by rfl) ?_; dsimp only); refine goesL_ (some 38) rfl rfl Try.func66 (by kernel_rfl) rfl #[.agg #[.int .i64 0, .int .i64 n]] rfl (by (try simp only [List.map_toArray, List.map_cons, List.map_nil]); first | done | rfl) ?_; (with_reducible refine (quitrentref21_may.calls 0 n false _ HF4.out).mono ?_); rintro e_ w8 ⟨rfl, hb⟩; refine ⟨_, rfl, ?_⟩; have n_o := Aside0.mk (Kd.R_below HO.out hb); have n_HD := Aside0.mk (DT.below HD.out hb); have n_k := Aside0.mk (blk_below BK.out hb); have n_b := Aside0.mk (below_step HB.out hb); clear HO BK HB HD; have HO := n_o; have BK := n_k; have HB := n_b; have HD := n_HD; clear n_o n_k n_b hb n_HD))
              go_ret2
              exact ⟨none, 0, rfl, Nat.le_refl _, Kd.C_nil k41 _, (by repeat (first | (with_reducible first | exact HB.out | apply below_alloc | apply pw_below_drewN | apply below_drew1 | refine below_set ?_ GE.out) | exact HB.out))⟩
          · rw [if_neg g6] at H
            have g6b : (ee == 0) = false := beq_eq_false_iff_ne.mpr g6
            have g6c : (ee != 0) = true := bne_iff_ne.mpr g6
            simp only [Option.some.injEq, Prod.mk.injEq] at H
            obtain ⟨rfl, rfl⟩ := H
            clear g6
            go_wp2_with (first | ((with_reducible refine gate_callee (f := 65) rfl ?_); refine goesL_ (some 30) rfl rfl Try.func65 (by kernel_rfl) rfl #[.agg #[.int .i64 s2, .slice A5 d2.length c5]] rfl (by (try simp only [List.map_toArray, List.map_cons, List.map_nil]); first | done | rfl) ?_; (with_reducible refine (fitC k1 s2 d2 _ _ n ee _ HD.out HC5.out HF3.out).mono ?_); rintro e_ w7 ⟨rfl, hb⟩; refine ⟨_, rfl, ?_⟩; have n_o := Aside0.mk (Kd.R_below HO.out hb); have n_HD := Aside0.mk (DT.below HD.out hb); have n_k := Aside0.mk (blk_below BK.out hb); have n_b := Aside0.mk (below_step HB.out hb); clear HO BK HB HD; have HO := n_o; have BK := n_k; have HB := n_b; have HD := n_HD; clear n_o n_k n_b hb n_HD))
            go_ret2
            exact ⟨none, 0, rfl, Nat.le_refl _, Kd.C_nil k41 _, (by repeat (first | (with_reducible first | exact HB.out | apply below_alloc | apply pw_below_drewN | apply below_drew1 | refine below_set ?_ GE.out) | exact HB.out))⟩
        · rw [if_neg g5] at H
          exact absurd H (by simp)
      · rw [if_neg g4] at H
        have g4b : decide (i < (l.length : Int)) = false := decide_eq_false g4
        simp only [Option.some.injEq, Prod.mk.injEq] at H
        obtain ⟨rfl, rfl⟩ := H
        clear g4
        obtain ⟨Ao, co, eo, hco, hCo⟩ := Kd.R_reads HO.out
        subst eo
        have HCo := Aside0.mk hCo
        have HLo := Aside0.mk hco
        clear hCo hco
        go_wp2
        go_ret2
        exact ⟨Ao, co, rfl, HLo.out, HCo.out, (by repeat (first | (with_reducible first | exact HB.out | apply below_alloc | apply pw_below_drewN | apply below_drew1 | refine below_set ?_ GE.out) | exact HB.out))⟩
theorem stairsR (k : Nat) (l : List Int) (L : Option Addr) (cl : Nat) (ys : List S41) (e : Int) (w : World) (hC : Kd.C (Kd.int .i64) w L l.length l) (hc : l.length ≤ cl) (h : rst k l = some (ys, e)) :
    Calls Try.prog 30 #[.slice L l.length cl] w fun z w' => ∃ A c, z = .returned (.tuple #[.slice A ys.length c, .int .i64 e]) ∧ ys.length ≤ c ∧ Kd.C k41 w' A ys.length ys ∧ Below w.heap.size w w' := by
  unfold rst at h
  by_cases hl : 240 < l.length
  · rw [if_pos hl] at h
    simp only [Option.some.injEq, Prod.mk.injEq] at h
    obtain ⟨rfl, rfl⟩ := h
    exact (rst_long l L cl w hl).mono fun z w' ⟨hz, hb⟩ => ⟨none, 0, hz, Nat.le_refl _, Kd.C_nil k41 _, hb⟩
  · rw [if_neg hl] at h
    exact rst_loop k l L cl ys e w hC hc hl h
end Go.Proofs.Ytkfbmplhcigopaa.PPlo
