import Derived.Test.YtkfbmplhcigopaaPloT
/- PlotTurns, walked. -/
set_option linter.unusedSimpArgs false
set_option linter.unusedVariables false
namespace Go.Proofs.Ytkfbmplhcigopaa.PPlo
open Go.RowKit Go.Proofs.YtkfbmplhcigopaaW.PrintWords Go.Proofs.YtkfbmplhcigopaaW.PrintLast Go.Proofs.YtkfbmplhcigopaaW.PrintMore
attribute [local go_sem high] eqA41

theorem timesC (xs ys : List S38) (x y e : Int) (A : Option Addr) (c : Nat) (w : World) (hC : Kd.C k38 w A xs.length xs) (hc : xs.length ≤ c) (h : EACH (mulP ⟨x, y⟩) xs x y = (ys, e)) :
    Calls Try.prog 31 #[.slice A xs.length c, .agg #[.int .i64 x, .int .i64 y]] w fun z w' => ∃ A' c', z = .returned (.tuple #[.slice A' ys.length c', .int .i64 e]) ∧ ys.length ≤ c' ∧ Kd.C k38 w' A' ys.length ys ∧ Below w.heap.size w w' := by
  refine (plot_Times.calls 1001 A c xs x y ys e w hC hc (by rw [times_is _ _ _ _ (by omega), h])).mono ?_
  rintro z w' ⟨v, rfl, hR, hb⟩
  obtain ⟨A', c', rfl, h1, h2⟩ := Kd.R_reads hR
  exact ⟨A', c', rfl, h1, h2, hb⟩
theorem movedC (xs ys : List S38) (x y e : Int) (A : Option Addr) (c : Nat) (w : World) (hC : Kd.C k38 w A xs.length xs) (hc : xs.length ≤ c) (h : EACH (addP ⟨x, y⟩) xs x y = (ys, e)) :
    Calls Try.prog 33 #[.slice A xs.length c, .agg #[.int .i64 x, .int .i64 y]] w fun z w' => ∃ A' c', z = .returned (.tuple #[.slice A' ys.length c', .int .i64 e]) ∧ ys.length ≤ c' ∧ Kd.C k38 w' A' ys.length ys ∧ Below w.heap.size w w' := by
  refine (plot_Moved.calls 1001 A c xs x y ys e w hC hc (by rw [moved_is _ _ _ _ (by omega), h])).mono ?_
  rintro z w' ⟨v, rfl, hR, hb⟩
  obtain ⟨A', c', rfl, h1, h2⟩ := Kd.R_reads hR
  exact ⟨A', c', rfl, h1, h2, hb⟩
theorem mirrorC (xs ys : List S38) (e : Int) (A : Option Addr) (c : Nat) (w : World) (hC : Kd.C k38 w A xs.length xs) (hc : xs.length ≤ c) (h : EACH mirP xs 0 0 = (ys, e)) :
    Calls Try.prog 35 #[.slice A xs.length c] w fun z w' => ∃ A' c', z = .returned (.tuple #[.slice A' ys.length c', .int .i64 e]) ∧ ys.length ≤ c' ∧ Kd.C k38 w' A' ys.length ys ∧ Below w.heap.size w w' := by
  refine (plot_Mirror.calls 1001 A c xs ys e w hC hc (by rw [mirror_is _ _ (by omega), h])).mono ?_
  rintro z w' ⟨v, rfl, hR, hb⟩
  obtain ⟨A', c', rfl, h1, h2⟩ := Kd.R_reads hR
  exact ⟨A', c', rfl, h1, h2, hb⟩
theorem areaC (xs : List S38) (n e : Int) (A : Option Addr) (c : Nat) (w : World) (hC : Kd.C k38 w A xs.length xs) (hc : xs.length ≤ c) (h : AREA xs = (n, e)) :
    Calls Try.prog 37 #[.slice A xs.length c] w fun z w' => z = .returned (.tuple #[.int .i64 n, .int .i64 e]) ∧ Below w.heap.size w w' :=
  plot_Area.calls 1001 A c xs n e w hC hc (by rw [area_is _ _ (by omega), h])
theorem sameC (xs ys : List S38) (A : Option Addr) (c : Nat) (B : Option Addr) (d : Nat) (w : World) (hC : Kd.C k38 w A xs.length xs) (hc : xs.length ≤ c) (hD : Kd.C k38 w B ys.length ys) (hd : ys.length ≤ d) (h : xs = ys) (hl : ys.length ≤ 1000) :
    Calls Try.prog 40 #[.slice A xs.length c, .slice B ys.length d] w fun z w' => z = .returned (.bool true) ∧ Below w.heap.size w w' := by
  subst h
  exact quitrentlaw21_same.calls 1001 A c xs B d xs true w hC hc hD hd (same_refl xs (by omega) 1001 (by omega))

set_option maxHeartbeats 8000000 in
set_option maxRecDepth 100000 in
theorem turns_long (e0 : Int) (l : List S38) (x y n : Int) (A0 : Option Addr) (c0 : Nat) (w : World) (hC : Kd.C k38 w A0 l.length l) (hc : l.length ≤ c0) (hA : AREA l = (0, e0)) (hl : 1000 < l.length) :
    Calls Try.prog 9 #[.slice A0 l.length c0, .agg #[.int .i64 x, .int .i64 y]] w fun e w' => e = .returned (.bool true) ∧ Below w.heap.size w w' := by
  have hu38 := Try.underlying38
  have HR0 := Aside0.mk hC
  have HC0 := Aside0.mk hc
  clear hC hc
  have HA := Aside0.mk hA
  clear hA
  have HB := Aside0.mk (Below.refl w.heap.size w)
  have c2b0 : decide (1000 < (l.length : Int)) = true := decide_eq_true (by omega)
  have c2b1 : decide (1000 < l.length) = true := decide_eq_true hl
  clear hl
  go_enter Try.func9, Try.ntmps9
  go_wp2_with (first | ((with_reducible refine gate_dst (N := 3) rfl ?_); refine box_event ?hg (N := 3) ?hd (cs := #[.int .i64 x, .int .i64 y]) (t := 38) ?hr ?_; (case hd => rfl); (case hg => rfl); (case hr => first | (go_simp; done) | (go_simp; rfl)); intro gb1 hg w1 hbox hb; have n0_ := Aside0.mk (below_step (by repeat (first | (with_reducible first | exact HB.out | apply below_alloc | apply pw_below_drewN | apply below_drew1) | exact HB.out)) hb); have n1_ := Aside0.mk (hbox); have n2_ := Aside0.mk ((by rw [hg]; exact (below_size (by repeat (first | (with_reducible first | exact HB.out | apply below_alloc | apply pw_below_drewN | apply below_drew1) | exact HB.out))) : w.heap.size ≤ gb1)); have n3_ := Aside0.mk ((by rw [hg]; exact (below_size (by repeat (first | (with_reducible first | exact HB.out | apply below_alloc | apply pw_below_drewN | apply below_drew1) | exact HB.out))) : w.heap.size ≤ gb1)); clear HB; have HB := n0_; have BK1 := n1_; have GW1 := n2_; have GE1 := n3_; clear n0_ n1_ n2_ n3_; clear hb hbox hg; have hcz1_0 : w1.cell? ⟨gb1, 0, none⟩ = some (.int .i64 x) := (blk_cell BK1.out 0).trans rfl; have hcz1_1 : w1.cell? ⟨gb1, 1, none⟩ = some (.int .i64 y) := (blk_cell BK1.out 1).trans rfl) | (go_at_call 27; (with_reducible refine (quitrentlaw21_awake.calls 1001 true _ (awake_is 1001 (by omega))).mono ?_); rintro e w2 ⟨rfl, hb⟩; have n0_ := Aside0.mk (blk_below (g := gb1) (o := .cells #[.int .i64 x, .int .i64 y] 38 (0, 0)) (by (with_reducible repeat (first | refine blk_drewN ?_ _ | refine blk_drew ?_ | refine blk_alloc ?_ _)); exact BK1.out) hb); have n1_ := Aside0.mk (below_step (by repeat (first | (with_reducible first | exact HB.out | apply below_alloc | apply pw_below_drewN | apply below_drew1) | exact HB.out)) hb); clear BK1; clear HB; have BK1 := n0_; have HB := n1_; clear n0_ n1_) | (go_at_call 37; (with_reducible refine (areaC l 0 e0 A0 c0 _ ?s1 ?s2 HA.out).mono ?_); (case s1 => exact Kd.C_below HR0.out (by repeat (first | (with_reducible first | exact HB.out | apply below_alloc | apply pw_below_drewN | apply below_drew1) | exact HB.out))); (case s2 => exact HC0.out); rintro e w2 ⟨rfl, hb⟩; have n0_ := Aside0.mk (blk_below (g := gb1) (o := .cells #[.int .i64 x, .int .i64 y] 38 (0, 0)) (by (with_reducible repeat (first | refine blk_drewN ?_ _ | refine blk_drew ?_ | refine blk_alloc ?_ _)); exact BK1.out) hb); have n1_ := Aside0.mk (below_step (by repeat (first | (with_reducible first | exact HB.out | apply below_alloc | apply pw_below_drewN | apply below_drew1) | exact HB.out)) hb); clear BK1; clear HB; have BK1 := n0_; have HB := n1_; clear n0_ n1_))
  go_ret
  exact ⟨by first | rfl | (simp; done) | (simp [*]; done), (by repeat (first | (with_reducible first | exact HB.out | apply below_alloc | apply pw_below_drewN | apply below_drew1) | exact HB.out))⟩
set_option maxHeartbeats 8000000 in
set_option maxRecDepth 100000 in
theorem turns_bad (e0 : Int) (l : List S38) (x y n : Int) (A0 : Option Addr) (c0 : Nat) (w : World) (hC : Kd.C k38 w A0 l.length l) (hc : l.length ≤ c0) (hA : AREA l = (0, e0)) (hl : l.length ≤ 1000) (he : e0 ≠ 0) :
    Calls Try.prog 9 #[.slice A0 l.length c0, .agg #[.int .i64 x, .int .i64 y]] w fun e w' => e = .returned (.bool true) ∧ Below w.heap.size w w' := by
  have hu38 := Try.underlying38
  have HR0 := Aside0.mk hC
  have HC0 := Aside0.mk hc
  clear hC hc
  have HA := Aside0.mk hA
  clear hA
  have HB := Aside0.mk (Below.refl w.heap.size w)
  have c2b0 : decide (1000 < (l.length : Int)) = false := decide_eq_false (by omega)
  have c2b1 : decide (1000 < l.length) = false := decide_eq_false (by omega)
  have c3b0 : (e0 == 0) = false := beq_eq_false_iff_ne.mpr he
  have c3b1 : (e0 != 0) = true := bne_iff_ne.mpr he
  clear hl
  go_enter Try.func9, Try.ntmps9
  go_wp2_with (first | ((with_reducible refine gate_dst (N := 3) rfl ?_); refine box_event ?hg (N := 3) ?hd (cs := #[.int .i64 x, .int .i64 y]) (t := 38) ?hr ?_; (case hd => rfl); (case hg => rfl); (case hr => first | (go_simp; done) | (go_simp; rfl)); intro gb1 hg w1 hbox hb; have n0_ := Aside0.mk (below_step (by repeat (first | (with_reducible first | exact HB.out | apply below_alloc | apply pw_below_drewN | apply below_drew1) | exact HB.out)) hb); have n1_ := Aside0.mk (hbox); have n2_ := Aside0.mk ((by rw [hg]; exact (below_size (by repeat (first | (with_reducible first | exact HB.out | apply below_alloc | apply pw_below_drewN | apply below_drew1) | exact HB.out))) : w.heap.size ≤ gb1)); have n3_ := Aside0.mk ((by rw [hg]; exact (below_size (by repeat (first | (with_reducible first | exact HB.out | apply below_alloc | apply pw_below_drewN | apply below_drew1) | exact HB.out))) : w.heap.size ≤ gb1)); clear HB; have HB := n0_; have BK1 := n1_; have GW1 := n2_; have GE1 := n3_; clear n0_ n1_ n2_ n3_; clear hb hbox hg; have hcz1_0 : w1.cell? ⟨gb1, 0, none⟩ = some (.int .i64 x) := (blk_cell BK1.out 0).trans rfl; have hcz1_1 : w1.cell? ⟨gb1, 1, none⟩ = some (.int .i64 y) := (blk_cell BK1.out 1).trans rfl) | (go_at_call 27; (with_reducible refine (quitrentlaw21_awake.calls 1001 true _ (awake_is 1001 (by omega))).mono ?_); rintro e w2 ⟨rfl, hb⟩; have n0_ := Aside0.mk (blk_below (g := gb1) (o := .cells #[.int .i64 x, .int .i64 y] 38 (0, 0)) (by (with_reducible repeat (first | refine blk_drewN ?_ _ | refine blk_drew ?_ | refine blk_alloc ?_ _)); exact BK1.out) hb); have n1_ := Aside0.mk (below_step (by repeat (first | (with_reducible first | exact HB.out | apply below_alloc | apply pw_below_drewN | apply below_drew1) | exact HB.out)) hb); clear BK1; clear HB; have BK1 := n0_; have HB := n1_; clear n0_ n1_) | (go_at_call 37; (with_reducible refine (areaC l 0 e0 A0 c0 _ ?s1 ?s2 HA.out).mono ?_); (case s1 => exact Kd.C_below HR0.out (by repeat (first | (with_reducible first | exact HB.out | apply below_alloc | apply pw_below_drewN | apply below_drew1) | exact HB.out))); (case s2 => exact HC0.out); rintro e w2 ⟨rfl, hb⟩; have n0_ := Aside0.mk (blk_below (g := gb1) (o := .cells #[.int .i64 x, .int .i64 y] 38 (0, 0)) (by (with_reducible repeat (first | refine blk_drewN ?_ _ | refine blk_drew ?_ | refine blk_alloc ?_ _)); exact BK1.out) hb); have n1_ := Aside0.mk (below_step (by repeat (first | (with_reducible first | exact HB.out | apply below_alloc | apply pw_below_drewN | apply below_drew1) | exact HB.out)) hb); clear BK1; clear HB; have BK1 := n0_; have HB := n1_; clear n0_ n1_))
  go_ret
  exact ⟨by first | rfl | (simp; done) | (simp [*]; done), (by repeat (first | (with_reducible first | exact HB.out | apply below_alloc | apply pw_below_drewN | apply below_drew1) | exact HB.out))⟩
/-- turned j times -/
def rotN : Nat → List S38 → List S38
  | 0, l => l
  | j + 1, l => (rotN j l).map (mulP ⟨0, 1⟩)
theorem timesM (m : Nat) (xs ys : List S38) (x y e : Int) (A : Option Addr) (c : Nat) (w : World) (h1 : xs.length = m) (h2 : ys.length = m) (hC : Kd.C k38 w A m xs) (hc : m ≤ c) (h : EACH (mulP ⟨x, y⟩) xs x y = (ys, e)) :
    Calls Try.prog 31 #[.slice A m c, .agg #[.int .i64 x, .int .i64 y]] w fun z w' => ∃ A' c', z = .returned (.tuple #[.slice A' m c', .int .i64 e]) ∧ m ≤ c' ∧ Kd.C k38 w' A' m ys ∧ Below w.heap.size w w' := by
  subst h1
  have := timesC xs ys x y e A c w hC hc h
  rw [h2] at this
  exact this
theorem mirrorM (m : Nat) (xs ys : List S38) (e : Int) (A : Option Addr) (c : Nat) (w : World) (h1 : xs.length = m) (h2 : ys.length = m) (hC : Kd.C k38 w A m xs) (hc : m ≤ c) (h : EACH mirP xs 0 0 = (ys, e)) :
    Calls Try.prog 35 #[.slice A m c] w fun z w' => ∃ A' c', z = .returned (.tuple #[.slice A' m c', .int .i64 e]) ∧ m ≤ c' ∧ Kd.C k38 w' A' m ys ∧ Below w.heap.size w w' := by
  subst h1
  have := mirrorC xs ys e A c w hC hc h
  rw [h2] at this
  exact this
theorem areaM (m : Nat) (xs : List S38) (n e : Int) (A : Option Addr) (c : Nat) (w : World) (h1 : xs.length = m) (hC : Kd.C k38 w A m xs) (hc : m ≤ c) (h : AREA xs = (n, e)) :
    Calls Try.prog 37 #[.slice A m c] w fun z w' => z = .returned (.tuple #[.int .i64 n, .int .i64 e]) ∧ Below w.heap.size w w' := by
  subst h1
  exact areaC xs n e A c w hC hc h
theorem sameM (m : Nat) (xs ys : List S38) (A : Option Addr) (c : Nat) (B : Option Addr) (d : Nat) (w : World) (h1 : xs.length = m) (hC : Kd.C k38 w A m xs) (hc : m ≤ c) (hD : Kd.C k38 w B m ys) (hd : m ≤ d) (h : xs = ys) (hl : m ≤ 1000) :
    Calls Try.prog 40 #[.slice A m c, .slice B m d] w fun z w' => z = .returned (.bool true) ∧ Below w.heap.size w w' := by
  subst h
  subst h1
  exact sameC xs xs A c B d w hC hc hD hd rfl hl

set_option maxHeartbeats 8000000 in
set_option maxRecDepth 100000 in
theorem turns_good (l : List S38) (x y n : Int) (A0 : Option Addr) (c0 : Nat) (w : World) (hC : Kd.C k38 w A0 l.length l) (hc : l.length ≤ c0) (hA : AREA l = (n, 0)) (hl : l.length ≤ 1000)
    (hT : ∀ j, EACH (mulP ⟨0, 1⟩) (rotN j l) 0 1 = (rotN (j + 1) l, 0)) (hR : ∀ j, AREA (rotN j l) = (n, 0)) (hL : ∀ j, (rotN j l).length = l.length) (h4 : rotN 4 l = l)
    (ml : List S38) (hM : EACH mirP l 0 0 = (ml, 0)) (hMl : ml.length = l.length) (hMA : AREA ml = (wrap64 (-n), 0))
    (fl : List S38) (fe : Int) (hF : EACH (addP ⟨x, y⟩) l x y = (fl, fe)) (hFa : fe = 0 → AREA fl = (n, 0)) (hFn : fe ≠ 0 → fl = []) :
    Calls Try.prog 9 #[.slice A0 l.length c0, .agg #[.int .i64 x, .int .i64 y]] w fun e w' => e = .returned (.bool true) ∧ Below w.heap.size w w' := by
  have hu38 := Try.underlying38
  have HR0 := Aside0.mk hC
  have HC0 := Aside0.mk hc
  clear hC hc
  have HA := Aside0.mk hA
  clear hA
  have HB := Aside0.mk (Below.refl w.heap.size w)
  have HT := Aside0.mk hT
  have HAr := Aside0.mk hR
  have HL := Aside0.mk hL
  have H4 := Aside0.mk h4
  have HM := Aside0.mk hM
  have HMl := Aside0.mk hMl
  have HMA := Aside0.mk hMA
  have HF := Aside0.mk hF
  have HFa := Aside0.mk hFa
  have HFn := Aside0.mk hFn
  have Hl := Aside0.mk hl
  clear hT hR hL h4 hM hMl hMA hF hFa hFn
  have c2b0 : decide (1000 < (l.length : Int)) = false := decide_eq_false (by omega)
  have c2b1 : decide (1000 < l.length) = false := decide_eq_false (by omega)
  clear hl
  obtain ⟨k, hk⟩ : ∃ k : Nat, k = 5 := ⟨5, rfl⟩
  have HK := Aside0.mk hk
  clear hk
  go_enter Try.func9, Try.ntmps9
  go_wp2_with (first | ((with_reducible refine gate_dst (N := 3) rfl ?_); refine box_event ?hg (N := 3) ?hd (cs := #[.int .i64 x, .int .i64 y]) (t := 38) ?hr ?_; (case hd => rfl); (case hg => rfl); (case hr => first | (go_simp; done) | (go_simp; rfl)); intro gb1 hg w1 hbox hb; have n0_ := Aside0.mk (below_step (by repeat (first | (with_reducible first | exact HB.out | apply below_alloc | apply pw_below_drewN | apply below_drew1) | exact HB.out)) hb); have n1_ := Aside0.mk (hbox); have n2_ := Aside0.mk ((by rw [hg]; exact (below_size (by repeat (first | (with_reducible first | exact HB.out | apply below_alloc | apply pw_below_drewN | apply below_drew1) | exact HB.out))) : w.heap.size ≤ gb1)); have n3_ := Aside0.mk ((by rw [hg]; exact (below_size (by repeat (first | (with_reducible first | exact HB.out | apply below_alloc | apply pw_below_drewN | apply below_drew1) | exact HB.out))) : w.heap.size ≤ gb1)); clear HB; have HB := n0_; have BK1 := n1_; have GW1 := n2_; have GE1 := n3_; clear n0_ n1_ n2_ n3_; clear hb hbox hg; have hcz1_0 : w1.cell? ⟨gb1, 0, none⟩ = some (.int .i64 x) := (blk_cell BK1.out 0).trans rfl; have hcz1_1 : w1.cell? ⟨gb1, 1, none⟩ = some (.int .i64 y) := (blk_cell BK1.out 1).trans rfl) | (go_at_call 27; (with_reducible refine (quitrentlaw21_awake.calls 1001 true _ (awake_is 1001 (by omega))).mono ?_); rintro e w2 ⟨rfl, hb⟩; have n0_ := Aside0.mk (blk_below (g := gb1) (o := .cells #[.int .i64 x, .int .i64 y] 38 (0, 0)) (by (with_reducible repeat (first | refine blk_drewN ?_ _ | refine blk_drew ?_ | refine blk_alloc ?_ _)); exact BK1.out) hb); have n1_ := Aside0.mk (below_step (by repeat (first | (with_reducible first | exact HB.out | apply below_alloc | apply pw_below_drewN | apply below_drew1) | exact HB.out)) hb); clear BK1; clear HB; have BK1 := n0_; have HB := n1_; clear n0_ n1_) | (go_at_call 37; (with_reducible refine (areaC l n 0 A0 c0 _ ?s1 ?s2 HA.out).mono ?_); (case s1 => exact Kd.C_below HR0.out (by repeat (first | (with_reducible first | exact HB.out | apply below_alloc | apply pw_below_drewN | apply below_drew1) | exact HB.out))); (case s2 => exact HC0.out); rintro e w2 ⟨rfl, hb⟩; have n0_ := Aside0.mk (blk_below (g := gb1) (o := .cells #[.int .i64 x, .int .i64 y] 38 (0, 0)) (by (with_reducible repeat (first | refine blk_drewN ?_ _ | refine blk_drew ?_ | refine blk_alloc ?_ _)); exact BK1.out) hb); have n1_ := Aside0.mk (below_step (by repeat (first | (with_reducible first | exact HB.out | apply below_alloc | apply pw_below_drewN | apply below_drew1) | exact HB.out)) hb); clear BK1; clear HB; have BK1 := n0_; have HB := n1_; clear n0_ n1_))
  go_loopg [7, 8] k (fun kq v7 v8 w' => ∃ (x8 : Int) (A : Option Addr) (c : Nat), v7 = .slice A l.length c ∧ v8 = .int .i64 x8 ∧ Aside0 (0 ≤ x8 ∧ x8 ≤ 4 ∧ 4 - x8 < kq) ∧ Aside0 (kq ≤ k) ∧ Aside0 (Kd.C k38 w' A l.length (rotN x8.toNat l)) ∧ Aside0 (l.length ≤ c) ∧ Aside0 (w'.heap[gb1]? = some (.cells #[.int .i64 x, .int .i64 y] 38 (0, 0))) ∧ Aside0 (Below w.heap.size w w'))
  case atStart => exact ⟨0, A0, c0, (by first | rfl | (simp; done) | (simp [*]; done)), (by first | rfl | (simp; done) | (simp [*]; done)), ⟨by have := HK.out; omega⟩, ⟨Nat.le_refl _⟩, ⟨Kd.C_below HR0.out (by repeat (first | (with_reducible first | exact HB.out | apply below_alloc | apply pw_below_drewN | apply below_drew1) | exact HB.out))⟩, ⟨HC0.out⟩, ⟨(by (with_reducible repeat (first | refine blk_drewN ?_ _ | refine blk_drew ?_ | refine blk_alloc ?_ _)); exact BK1.out)⟩, ⟨(by repeat (first | (with_reducible first | exact HB.out | apply below_alloc | apply pw_below_drewN | apply below_drew1) | exact HB.out))⟩⟩
  case round =>
    obtain ⟨x8, A, c, rfl, rfl, HX, HK1, HN, HNc, BK1, HB⟩ := hrel
    cases gk with
    | zero => exact absurd HX.out (by omega)
    | succ k1 =>
      by_cases c9 : x8 < 4
      · have c9b0 : decide (x8 < 4) = true := decide_eq_true c9
        have HX2 := Aside0.mk c9
        clear c9
        go_wp2_with (first | (go_at_call 31; (with_reducible refine (timesM l.length (rotN x8.toNat l) (rotN (x8.toNat + 1) l) 0 1 0 _ _ _ (HL.out _) (HL.out _) ?s1 HNc.out (HT.out _)).mono ?_); (case s1 => exact (by repeat (first | exact HN.out | (with_reducible refine Kd.C_alloc ?_ _) | (with_reducible refine Kd.C_drewN ?_ _) | (with_reducible refine Kd.C_drew ?_)))); rintro e w2 ⟨A1, c1, rfl, hc1, hC1, hb⟩; have n3_ := Aside0.mk hC1; have n4_ := Aside0.mk hc1; clear hC1 hc1 HN; have HN := n3_; have HNc1 := n4_; clear n3_ n4_; have n0_ := Aside0.mk (blk_below (g := gb1) (o := .cells #[.int .i64 x, .int .i64 y] 38 (0, 0)) (by (with_reducible repeat (first | refine blk_drewN ?_ _ | refine blk_drew ?_ | refine blk_alloc ?_ _)); exact BK1.out) hb); have n1_ := Aside0.mk (below_step (by repeat (first | (with_reducible first | exact HB.out | apply below_alloc | apply pw_below_drewN | apply below_drew1) | exact HB.out)) hb); clear BK1; clear HB; have BK1 := n0_; have HB := n1_; clear n0_ n1_) | (go_at_call 37; (with_reducible refine (areaM l.length (rotN (x8.toNat + 1) l) n 0 _ _ _ (HL.out _) ?s1 HNc1.out (HAr.out _)).mono ?_); (case s1 => exact (by repeat (first | exact HN.out | (with_reducible refine Kd.C_alloc ?_ _) | (with_reducible refine Kd.C_drewN ?_ _) | (with_reducible refine Kd.C_drew ?_)))); rintro e w2 ⟨rfl, hb⟩; have n2_ := Aside0.mk (Kd.C_below HN.out hb); clear HN; have HN := n2_; clear n2_; have n0_ := Aside0.mk (blk_below (g := gb1) (o := .cells #[.int .i64 x, .int .i64 y] 38 (0, 0)) (by (with_reducible repeat (first | refine blk_drewN ?_ _ | refine blk_drew ?_ | refine blk_alloc ?_ _)); exact BK1.out) hb); have n1_ := Aside0.mk (below_step (by repeat (first | (with_reducible first | exact HB.out | apply below_alloc | apply pw_below_drewN | apply below_drew1) | exact HB.out)) hb); clear BK1; clear HB; have BK1 := n0_; have HB := n1_; clear n0_ n1_))
        go_roundg k1
        case measure => have := HK1.out; omega
        case rel => exact ⟨wrap64 (x8 + 1), A1, c1, (by first | rfl | (simp; done) | (simp [*]; done)), (by first | rfl | (simp; done) | (simp [*]; done)), ⟨by have := HX.out; have := HX2.out; rw [w64 (by omega) (by omega)]; omega⟩, ⟨by have := HK1.out; omega⟩, ⟨by have h1 := HX.out; have h2 := HX2.out; rw [w64 (by omega) (by omega), show (x8 + 1).toNat = x8.toNat + 1 by omega]; exact (by repeat (first | exact HN.out | (with_reducible refine Kd.C_alloc ?_ _) | (with_reducible refine Kd.C_drewN ?_ _) | (with_reducible refine Kd.C_drew ?_)))⟩, ⟨HNc1.out⟩, ⟨(by (with_reducible repeat (first | refine blk_drewN ?_ _ | refine blk_drew ?_ | refine blk_alloc ?_ _)); exact BK1.out)⟩, ⟨(by repeat (first | (with_reducible first | exact HB.out | apply below_alloc | apply pw_below_drewN | apply below_drew1) | exact HB.out))⟩⟩
      · have hx4 : x8 = 4 := by have := HX.out; omega
        subst hx4
        clear c9
        have n5_ : Aside0 (Kd.C k38 wr A l.length (rotN 4 l)) := ⟨HN.out⟩
        rw [H4.out] at n5_
        clear HN
        have HN := n5_
        clear n5_
        by_cases hfe : fe = 0
        · subst hfe
          have HFA := Aside0.mk (HFa.out rfl)
          go_wp2_with (first | (go_at_call 35; (with_reducible refine (mirrorM l.length l ml 0 _ _ _ rfl HMl.out ?s1 HC0.out HM.out).mono ?_); (case s1 => exact Kd.C_below HR0.out (by repeat (first | (with_reducible first | exact HB.out | apply below_alloc | apply pw_below_drewN | apply below_drew1) | exact HB.out))); rintro e w2 ⟨A2, c2, rfl, hc2, hC2, hb⟩; have n3_ := Aside0.mk hC2; have n4_ := Aside0.mk hc2; clear hC2 hc2; have HMC := n3_; have HMc := n4_; clear n3_ n4_; have n2_ := Aside0.mk (Kd.C_below (by repeat (first | exact HN.out | (with_reducible refine Kd.C_alloc ?_ _) | (with_reducible refine Kd.C_drewN ?_ _) | (with_reducible refine Kd.C_drew ?_))) hb); clear HN; have HN := n2_; clear n2_; have n0_ := Aside0.mk (blk_below (g := gb1) (o := .cells #[.int .i64 x, .int .i64 y] 38 (0, 0)) (by (with_reducible repeat (first | refine blk_drewN ?_ _ | refine blk_drew ?_ | refine blk_alloc ?_ _)); exact BK1.out) hb); have n1_ := Aside0.mk (below_step (by repeat (first | (with_reducible first | exact HB.out | apply below_alloc | apply pw_below_drewN | apply below_drew1) | exact HB.out)) hb); clear BK1; clear HB; have BK1 := n0_; have HB := n1_; clear n0_ n1_) | (go_at_call 40; (with_reducible refine (sameM l.length l l _ _ _ _ _ rfl ?s1 HNc.out ?s2 HC0.out rfl Hl.out).mono ?_); (case s1 => exact (by repeat (first | exact HN.out | (with_reducible refine Kd.C_alloc ?_ _) | (with_reducible refine Kd.C_drewN ?_ _) | (with_reducible refine Kd.C_drew ?_)))); (case s2 => exact Kd.C_below HR0.out (by repeat (first | (with_reducible first | exact HB.out | apply below_alloc | apply pw_below_drewN | apply below_drew1) | exact HB.out))); rintro e w2 ⟨rfl, hb⟩; have n0_ := Aside0.mk (blk_below (g := gb1) (o := .cells #[.int .i64 x, .int .i64 y] 38 (0, 0)) (by (with_reducible repeat (first | refine blk_drewN ?_ _ | refine blk_drew ?_ | refine blk_alloc ?_ _)); exact BK1.out) hb); have n1_ := Aside0.mk (below_step (by repeat (first | (with_reducible first | exact HB.out | apply below_alloc | apply pw_below_drewN | apply below_drew1) | exact HB.out)) hb); clear BK1; clear HB; have BK1 := n0_; have HB := n1_; clear n0_ n1_; have hcz1_0 : w2.cell? ⟨gb1, 0, none⟩ = some (.int .i64 x) := (blk_cell BK1.out 0).trans rfl; have hcz1_1 : w2.cell? ⟨gb1, 1, none⟩ = some (.int .i64 y) := (blk_cell BK1.out 1).trans rfl) | (go_at_call 33; (with_reducible refine (movedC l fl x y 0 _ _ _ ?s1 HC0.out HF.out).mono ?_); (case s1 => exact Kd.C_below HR0.out (by repeat (first | (with_reducible first | exact HB.out | apply below_alloc | apply pw_below_drewN | apply below_drew1) | exact HB.out))); rintro e w2 ⟨A3, c3, rfl, hc3, hC3, hb⟩; have n3_ := Aside0.mk hC3; have n4_ := Aside0.mk hc3; clear hC3 hc3; have HFC := n3_; have HFc := n4_; clear n3_ n4_; have n0_ := Aside0.mk (blk_below (g := gb1) (o := .cells #[.int .i64 x, .int .i64 y] 38 (0, 0)) (by (with_reducible repeat (first | refine blk_drewN ?_ _ | refine blk_drew ?_ | refine blk_alloc ?_ _)); exact BK1.out) hb); have n1_ := Aside0.mk (below_step (by repeat (first | (with_reducible first | exact HB.out | apply below_alloc | apply pw_below_drewN | apply below_drew1) | exact HB.out)) hb); clear BK1; clear HB; have BK1 := n0_; have HB := n1_; clear n0_ n1_) | (go_at_call 37; first | ((with_reducible refine (areaM l.length ml (wrap64 (-n)) 0 _ _ _ HMl.out ?s1 HMc.out HMA.out).mono ?_); (case s1 => exact (by repeat (first | exact HMC.out | (with_reducible refine Kd.C_alloc ?_ _) | (with_reducible refine Kd.C_drewN ?_ _) | (with_reducible refine Kd.C_drew ?_)))); rintro e w2 ⟨rfl, hb⟩; have n2_ := Aside0.mk (Kd.C_below (by repeat (first | exact HN.out | (with_reducible refine Kd.C_alloc ?_ _) | (with_reducible refine Kd.C_drewN ?_ _) | (with_reducible refine Kd.C_drew ?_))) hb); clear HN; have HN := n2_; clear n2_; clear HMC; have n0_ := Aside0.mk (blk_below (g := gb1) (o := .cells #[.int .i64 x, .int .i64 y] 38 (0, 0)) (by (with_reducible repeat (first | refine blk_drewN ?_ _ | refine blk_drew ?_ | refine blk_alloc ?_ _)); exact BK1.out) hb); have n1_ := Aside0.mk (below_step (by repeat (first | (with_reducible first | exact HB.out | apply below_alloc | apply pw_below_drewN | apply below_drew1) | exact HB.out)) hb); clear BK1; clear HB; have BK1 := n0_; have HB := n1_; clear n0_ n1_) | ((with_reducible refine (areaC fl n 0 _ _ _ ?s1 HFc.out HFA.out).mono ?_); (case s1 => exact (by repeat (first | exact HFC.out | (with_reducible refine Kd.C_alloc ?_ _) | (with_reducible refine Kd.C_drewN ?_ _) | (with_reducible refine Kd.C_drew ?_)))); rintro e w2 ⟨rfl, hb⟩; have n0_ := Aside0.mk (blk_below (g := gb1) (o := .cells #[.int .i64 x, .int .i64 y] 38 (0, 0)) (by (with_reducible repeat (first | refine blk_drewN ?_ _ | refine blk_drew ?_ | refine blk_alloc ?_ _)); exact BK1.out) hb); have n1_ := Aside0.mk (below_step (by repeat (first | (with_reducible first | exact HB.out | apply below_alloc | apply pw_below_drewN | apply below_drew1) | exact HB.out)) hb); clear BK1; clear HB; have BK1 := n0_; have HB := n1_; clear n0_ n1_)))
          go_ret
          exact ⟨by first | rfl | (simp; done) | (simp [*]; done), (by repeat (first | (with_reducible first | exact HB.out | apply below_alloc | apply pw_below_drewN | apply below_drew1) | exact HB.out))⟩
        · have hnil := HFn.out hfe
          subst hnil
          have c3b0 : (fe == 0) = false := beq_eq_false_iff_ne.mpr hfe
          have c3b1 : (fe != 0) = true := bne_iff_ne.mpr hfe
          clear hfe
          go_wp2_with (first | (go_at_call 35; (with_reducible refine (mirrorM l.length l ml 0 _ _ _ rfl HMl.out ?s1 HC0.out HM.out).mono ?_); (case s1 => exact Kd.C_below HR0.out (by repeat (first | (with_reducible first | exact HB.out | apply below_alloc | apply pw_below_drewN | apply below_drew1) | exact HB.out))); rintro e w2 ⟨A2, c2, rfl, hc2, hC2, hb⟩; have n3_ := Aside0.mk hC2; have n4_ := Aside0.mk hc2; clear hC2 hc2; have HMC := n3_; have HMc := n4_; clear n3_ n4_; have n2_ := Aside0.mk (Kd.C_below (by repeat (first | exact HN.out | (with_reducible refine Kd.C_alloc ?_ _) | (with_reducible refine Kd.C_drewN ?_ _) | (with_reducible refine Kd.C_drew ?_))) hb); clear HN; have HN := n2_; clear n2_; have n0_ := Aside0.mk (blk_below (g := gb1) (o := .cells #[.int .i64 x, .int .i64 y] 38 (0, 0)) (by (with_reducible repeat (first | refine blk_drewN ?_ _ | refine blk_drew ?_ | refine blk_alloc ?_ _)); exact BK1.out) hb); have n1_ := Aside0.mk (below_step (by repeat (first | (with_reducible first | exact HB.out | apply below_alloc | apply pw_below_drewN | apply below_drew1) | exact HB.out)) hb); clear BK1; clear HB; have BK1 := n0_; have HB := n1_; clear n0_ n1_) | (go_at_call 40; (with_reducible refine (sameM l.length l l _ _ _ _ _ rfl ?s1 HNc.out ?s2 HC0.out rfl Hl.out).mono ?_); (case s1 => exact (by repeat (first | exact HN.out | (with_reducible refine Kd.C_alloc ?_ _) | (with_reducible refine Kd.C_drewN ?_ _) | (with_reducible refine Kd.C_drew ?_)))); (case s2 => exact Kd.C_below HR0.out (by repeat (first | (with_reducible first | exact HB.out | apply below_alloc | apply pw_below_drewN | apply below_drew1) | exact HB.out))); rintro e w2 ⟨rfl, hb⟩; have n0_ := Aside0.mk (blk_below (g := gb1) (o := .cells #[.int .i64 x, .int .i64 y] 38 (0, 0)) (by (with_reducible repeat (first | refine blk_drewN ?_ _ | refine blk_drew ?_ | refine blk_alloc ?_ _)); exact BK1.out) hb); have n1_ := Aside0.mk (below_step (by repeat (first | (with_reducible first | exact HB.out | apply below_alloc | apply pw_below_drewN | apply below_drew1) | exact HB.out)) hb); clear BK1; clear HB; have BK1 := n0_; have HB := n1_; clear n0_ n1_; have hcz1_0 : w2.cell? ⟨gb1, 0, none⟩ = some (.int .i64 x) := (blk_cell BK1.out 0).trans rfl; have hcz1_1 : w2.cell? ⟨gb1, 1, none⟩ = some (.int .i64 y) := (blk_cell BK1.out 1).trans rfl) | (go_at_call 33; (with_reducible refine (movedC l [] x y fe _ _ _ ?s1 HC0.out HF.out).mono ?_); (case s1 => exact Kd.C_below HR0.out (by repeat (first | (with_reducible first | exact HB.out | apply below_alloc | apply pw_below_drewN | apply below_drew1) | exact HB.out))); rintro e w2 ⟨A3, c3, rfl, hc3, hC3, hb⟩; clear hC3 hc3; have n0_ := Aside0.mk (blk_below (g := gb1) (o := .cells #[.int .i64 x, .int .i64 y] 38 (0, 0)) (by (with_reducible repeat (first | refine blk_drewN ?_ _ | refine blk_drew ?_ | refine blk_alloc ?_ _)); exact BK1.out) hb); have n1_ := Aside0.mk (below_step (by repeat (first | (with_reducible first | exact HB.out | apply below_alloc | apply pw_below_drewN | apply below_drew1) | exact HB.out)) hb); clear BK1; clear HB; have BK1 := n0_; have HB := n1_; clear n0_ n1_) | (go_at_call 37; ((with_reducible refine (areaM l.length ml (wrap64 (-n)) 0 _ _ _ HMl.out ?s1 HMc.out HMA.out).mono ?_); (case s1 => exact (by repeat (first | exact HMC.out | (with_reducible refine Kd.C_alloc ?_ _) | (with_reducible refine Kd.C_drewN ?_ _) | (with_reducible refine Kd.C_drew ?_)))); rintro e w2 ⟨rfl, hb⟩; have n2_ := Aside0.mk (Kd.C_below (by repeat (first | exact HN.out | (with_reducible refine Kd.C_alloc ?_ _) | (with_reducible refine Kd.C_drewN ?_ _) | (with_reducible refine Kd.C_drew ?_))) hb); clear HN; have HN := n2_; clear n2_; clear HMC; have n0_ := Aside0.mk (blk_below (g := gb1) (o := .cells #[.int .i64 x, .int .i64 y] 38 (0, 0)) (by (with_reducible repeat (first | refine blk_drewN ?_ _ | refine blk_drew ?_ | refine blk_alloc ?_ _)); exact BK1.out) hb); have n1_ := Aside0.mk (below_step (by repeat (first | (with_reducible first | exact HB.out | apply below_alloc | apply pw_below_drewN | apply below_drew1) | exact HB.out)) hb); clear BK1; clear HB; have BK1 := n0_; have HB := n1_; clear n0_ n1_)))
          go_ret
          exact ⟨by first | rfl | (simp; done) | (simp [*]; done), (by repeat (first | (with_reducible first | exact HB.out | apply below_alloc | apply pw_below_drewN | apply below_drew1) | exact HB.out))⟩
end Go.Proofs.Ytkfbmplhcigopaa.PPlo
