/- PlotTells answers true, of any columns that are amounts and any points. No other condition. -/
import Derived.Test.YtkfbmplhcigopaaRone
import Derived.Test.YtkfbmplhcigopaaDig
set_option linter.unusedSimpArgs false
set_option linter.unusedVariables false
namespace Go.Proofs.Ytkfbmplhcigopaa.PPlo
open Go.RowKit Go.Proofs.YtkfbmplhcigopaaW.PrintWords Go.Proofs.YtkfbmplhcigopaaW.PrintLast Go.Proofs.YtkfbmplhcigopaaW.PrintMore
attribute [local go_sem high] eqA41
theorem ownC (k : Nat) (l : List S38) (m : List S41) (A : Option Addr) (c : Nat) (w : World) (hC : Kd.C k38 w A l.length l) (hc : l.length ≤ c) (h : quitrentlaw21_own.f k l = some m) :
    Calls Try.prog 28 #[.slice A l.length c] w fun z w' => ∃ A' c', z = .returned (.slice A' m.length c') ∧ m.length ≤ c' ∧ Kd.C k41 w' A' m.length m ∧ Below w.heap.size w w' := by
  refine (quitrentlaw21_own.calls k A c l m w hC hc h).mono ?_
  rintro z w' ⟨v, rfl, hR, hb⟩
  obtain ⟨A', c', rfl, h1, h2⟩ := Kd.R_reads hR
  exact ⟨A', c', rfl, h1, h2, hb⟩
theorem stC (k : Nat) (l : List Int) (m : List S38) (e : Int) (A : Option Addr) (c : Nat) (w : World) (hC : Kd.C (Kd.int .i64) w A l.length l) (hc : l.length ≤ c) (h : plot_Stairs.f k l = some (m, e)) :
    Calls Try.prog 29 #[.slice A l.length c] w fun z w' => ∃ A' c', z = .returned (.tuple #[.slice A' m.length c', .int .i64 e]) ∧ m.length ≤ c' ∧ Kd.C k38 w' A' m.length m ∧ Below w.heap.size w w' := by
  refine (plot_Stairs.calls k A c l m e w hC hc h).mono ?_
  rintro z w' ⟨v, rfl, hR, hb⟩
  obtain ⟨A', c', rfl, h1, h2⟩ := Kd.R_reads hR
  exact ⟨A', c', rfl, h1, h2, hb⟩
theorem tmC (k : Nat) (l : List S38) (x y : Int) (m : List S38) (e : Int) (A : Option Addr) (c : Nat) (w : World) (hC : Kd.C k38 w A l.length l) (hc : l.length ≤ c) (h : plot_Times.f k l x y = some (m, e)) :
    Calls Try.prog 31 #[.slice A l.length c, .agg #[.int .i64 x, .int .i64 y]] w fun z w' => ∃ A' c', z = .returned (.tuple #[.slice A' m.length c', .int .i64 e]) ∧ m.length ≤ c' ∧ Kd.C k38 w' A' m.length m ∧ Below w.heap.size w w' := by
  refine (plot_Times.calls k A c l x y m e w hC hc h).mono ?_
  rintro z w' ⟨v, rfl, hR, hb⟩
  obtain ⟨A', c', rfl, h1, h2⟩ := Kd.R_reads hR
  exact ⟨A', c', rfl, h1, h2, hb⟩
theorem rtmC (k : Nat) (l : List S41) (x y : Int) (m : List S41) (e : Int) (A : Option Addr) (c : Nat) (w : World) (hC : Kd.C k41 w A l.length l) (hc : l.length ≤ c) (h : quitrentref21_Times.f k l x y = some (m, e)) :
    Calls Try.prog 32 #[.slice A l.length c, .agg #[.int .i64 x, .int .i64 y]] w fun z w' => ∃ A' c', z = .returned (.tuple #[.slice A' m.length c', .int .i64 e]) ∧ m.length ≤ c' ∧ Kd.C k41 w' A' m.length m ∧ Below w.heap.size w w' := by
  refine (quitrentref21_Times.calls k A c l x y m e w hC hc h).mono ?_
  rintro z w' ⟨v, rfl, hR, hb⟩
  obtain ⟨A', c', rfl, h1, h2⟩ := Kd.R_reads hR
  exact ⟨A', c', rfl, h1, h2, hb⟩
theorem mvC (k : Nat) (l : List S38) (x y : Int) (m : List S38) (e : Int) (A : Option Addr) (c : Nat) (w : World) (hC : Kd.C k38 w A l.length l) (hc : l.length ≤ c) (h : plot_Moved.f k l x y = some (m, e)) :
    Calls Try.prog 33 #[.slice A l.length c, .agg #[.int .i64 x, .int .i64 y]] w fun z w' => ∃ A' c', z = .returned (.tuple #[.slice A' m.length c', .int .i64 e]) ∧ m.length ≤ c' ∧ Kd.C k38 w' A' m.length m ∧ Below w.heap.size w w' := by
  refine (plot_Moved.calls k A c l x y m e w hC hc h).mono ?_
  rintro z w' ⟨v, rfl, hR, hb⟩
  obtain ⟨A', c', rfl, h1, h2⟩ := Kd.R_reads hR
  exact ⟨A', c', rfl, h1, h2, hb⟩
theorem rmvC (k : Nat) (l : List S41) (x y : Int) (m : List S41) (e : Int) (A : Option Addr) (c : Nat) (w : World) (hC : Kd.C k41 w A l.length l) (hc : l.length ≤ c) (h : quitrentref21_Moved.f k l x y = some (m, e)) :
    Calls Try.prog 34 #[.slice A l.length c, .agg #[.int .i64 x, .int .i64 y]] w fun z w' => ∃ A' c', z = .returned (.tuple #[.slice A' m.length c', .int .i64 e]) ∧ m.length ≤ c' ∧ Kd.C k41 w' A' m.length m ∧ Below w.heap.size w w' := by
  refine (quitrentref21_Moved.calls k A c l x y m e w hC hc h).mono ?_
  rintro z w' ⟨v, rfl, hR, hb⟩
  obtain ⟨A', c', rfl, h1, h2⟩ := Kd.R_reads hR
  exact ⟨A', c', rfl, h1, h2, hb⟩
theorem miC (k : Nat) (l : List S38) (m : List S38) (e : Int) (A : Option Addr) (c : Nat) (w : World) (hC : Kd.C k38 w A l.length l) (hc : l.length ≤ c) (h : plot_Mirror.f k l = some (m, e)) :
    Calls Try.prog 35 #[.slice A l.length c] w fun z w' => ∃ A' c', z = .returned (.tuple #[.slice A' m.length c', .int .i64 e]) ∧ m.length ≤ c' ∧ Kd.C k38 w' A' m.length m ∧ Below w.heap.size w w' := by
  refine (plot_Mirror.calls k A c l m e w hC hc h).mono ?_
  rintro z w' ⟨v, rfl, hR, hb⟩
  obtain ⟨A', c', rfl, h1, h2⟩ := Kd.R_reads hR
  exact ⟨A', c', rfl, h1, h2, hb⟩
theorem rmiC (k : Nat) (l : List S41) (m : List S41) (e : Int) (A : Option Addr) (c : Nat) (w : World) (hC : Kd.C k41 w A l.length l) (hc : l.length ≤ c) (h : quitrentref21_Mirror.f k l = some (m, e)) :
    Calls Try.prog 36 #[.slice A l.length c] w fun z w' => ∃ A' c', z = .returned (.tuple #[.slice A' m.length c', .int .i64 e]) ∧ m.length ≤ c' ∧ Kd.C k41 w' A' m.length m ∧ Below w.heap.size w w' := by
  refine (quitrentref21_Mirror.calls k A c l m e w hC hc h).mono ?_
  rintro z w' ⟨v, rfl, hR, hb⟩
  obtain ⟨A', c', rfl, h1, h2⟩ := Kd.R_reads hR
  exact ⟨A', c', rfl, h1, h2, hb⟩
theorem arC (k : Nat) (l : List S38) (n e : Int) (A : Option Addr) (c : Nat) (w : World) (hC : Kd.C k38 w A l.length l) (hc : l.length ≤ c) (h : plot_Area.f k l = some (n, e)) :
    Calls Try.prog 37 #[.slice A l.length c] w fun z w' => z = .returned (.tuple #[.int .i64 n, .int .i64 e]) ∧ Below w.heap.size w w' := plot_Area.calls k A c l n e w hC hc h
theorem rarC (k : Nat) (l : List S41) (n e : Int) (A : Option Addr) (c : Nat) (w : World) (hC : Kd.C k41 w A l.length l) (hc : l.length ≤ c) (h : quitrentref21_Area.f k l = some (n, e)) :
    Calls Try.prog 38 #[.slice A l.length c] w fun z w' => z = .returned (.tuple #[.int .i64 n, .int .i64 e]) ∧ Below w.heap.size w w' := quitrentref21_Area.calls k A c l n e w hC hc h
theorem sameRC (l : List S41) (A : Option Addr) (c : Nat) (B : Option Addr) (d : Nat) (w : World) (hC : Kd.C k41 w A l.length l) (hc : l.length ≤ c) (hD : Kd.C k41 w B l.length l) (hd : l.length ≤ d) (hl : l.length ≤ 100000) :
    Calls Try.prog 39 #[.slice A l.length c, .slice B l.length d] w fun z w' => z = .returned (.bool true) ∧ Below w.heap.size w w' := by
  refine (quitrentref21_Same.calls 100001 A c l B d l true w hC hc hD hd (Same_refl l (by omega) 100001 (by omega))).mono ?_
  rintro z w' ⟨hz, hd⟩
  exact ⟨hz, hd.below⟩
theorem alloc_event (W : World) (o : Obj) : ∃ g w1, g = W.heap.size ∧ w1 = W.alloc o ∧ w1.heap[g]? = some o ∧ Below W.heap.size W w1 :=
  ⟨_, _, rfl, rfl, by unfold World.alloc; exact Array.getElem?_push_size, below_alloc (Below.refl _ _) o⟩
set_option maxHeartbeats 8000000 in
set_option maxRecDepth 100000 in
theorem tells_big1 (col : List Int) (l : List S38) (x y : Int) (A0 : Option Addr) (c0 : Nat) (A1 : Option Addr) (c1 : Nat) (w : World) (hC : Kd.C (Kd.int .i64) w A0 col.length col) (hc : col.length ≤ c0) (hL : Kd.C k38 w A1 l.length l) (hlc : l.length ≤ c1) (h : 1010 < col.length) :
    Calls Try.prog 8 #[.slice A0 col.length c0, .slice A1 l.length c1, .agg #[.int .i64 x, .int .i64 y]] w fun z w' => z = .returned (.bool true) ∧ Below w.heap.size w w' := by
  have HR0 := Aside0.mk hC
  have HC0 := Aside0.mk hc
  have HR1 := Aside0.mk hL
  have HC1 := Aside0.mk hlc
  have HB := Aside0.mk (Below.refl w.heap.size w)
  have g0 : decide (1010 < (col.length : Int)) = true := decide_eq_true (by omega)
  have g1 : decide (1010 < col.length) = true := decide_eq_true h
  clear hC hc hL hlc h
  go_enter Try.func8, Try.ntmps8
  go_wp2_with (first | ((with_reducible refine gate_dst (N := 5) rfl ?_); refine box_event ?hg (N := 5) ?hd (cs := #[.int .i64 x, .int .i64 y]) (t := 38) ?hr ?_; (case hd => rfl); (case hg => rfl); (case hr => first | (go_simp; done) | (go_simp; rfl)); intro gb hg wb hbox hb; have n_e := Aside0.mk ((by rw [hg]; exact (below_size (by repeat (first | (with_reducible first | exact HB.out | apply below_alloc | apply pw_below_drewN | apply below_drew1) | exact HB.out)))) : w.heap.size ≤ gb); have n_b := Aside0.mk (below_step (by repeat (first | (with_reducible first | exact HB.out | apply below_alloc | apply pw_below_drewN | apply below_drew1) | exact HB.out)) hb); have n_k := Aside0.mk hbox; clear HB; have HB := n_b; have GEb := n_e; have BKb := n_k; clear n_e n_b n_k hb hbox hg) | (go_at_call 27; (with_reducible refine (quitrentlaw21_awake.calls 1001 true _ (awake_is 1001 (by omega))).mono ?_); rintro e_ w2 ⟨rfl, hb⟩; have n_BKb := Aside0.mk (blk_below BKb.out hb); have n_b := Aside0.mk (below_step (by repeat (first | (with_reducible first | exact HB.out | apply below_alloc | apply pw_below_drewN | apply below_drew1) | exact HB.out)) hb); clear HB BKb; have BKb := n_BKb; have HB := n_b; clear hb n_b n_BKb; (try clear hczBKb0 hczBKb1); have hczBKb0 : w2.cell? ⟨gb, 0, none⟩ = some (.int .i64 x) := (blk_cell BKb.out 0).trans rfl; have hczBKb1 : w2.cell? ⟨gb, 1, none⟩ = some (.int .i64 y) := (blk_cell BKb.out 1).trans rfl))
  go_ret
  exact ⟨by first | rfl | (simp; done), (by repeat (first | (with_reducible first | exact HB.out | apply below_alloc | apply pw_below_drewN | apply below_drew1) | exact HB.out))⟩
set_option maxHeartbeats 8000000 in
set_option maxRecDepth 100000 in
theorem tells_big2 (col : List Int) (l : List S38) (x y : Int) (A0 : Option Addr) (c0 : Nat) (A1 : Option Addr) (c1 : Nat) (w : World) (hC : Kd.C (Kd.int .i64) w A0 col.length col) (hc : col.length ≤ c0) (hL : Kd.C k38 w A1 l.length l) (hlc : l.length ≤ c1) (h0 : ¬ 1010 < col.length) (h : 1010 < l.length) :
    Calls Try.prog 8 #[.slice A0 col.length c0, .slice A1 l.length c1, .agg #[.int .i64 x, .int .i64 y]] w fun z w' => z = .returned (.bool true) ∧ Below w.heap.size w w' := by
  have HR0 := Aside0.mk hC
  have HC0 := Aside0.mk hc
  have HR1 := Aside0.mk hL
  have HC1 := Aside0.mk hlc
  have HB := Aside0.mk (Below.refl w.heap.size w)
  have g0 : decide (1010 < (col.length : Int)) = false := decide_eq_false (by omega)
  have g1 : decide (1010 < col.length) = false := decide_eq_false h0
  have g2 : decide (1010 < (l.length : Int)) = true := decide_eq_true (by omega)
  have g3 : decide (1010 < l.length) = true := decide_eq_true h
  clear hC hc hL hlc h0 h
  go_enter Try.func8, Try.ntmps8
  go_wp2_with (first | ((with_reducible refine gate_dst (N := 5) rfl ?_); refine box_event ?hg (N := 5) ?hd (cs := #[.int .i64 x, .int .i64 y]) (t := 38) ?hr ?_; (case hd => rfl); (case hg => rfl); (case hr => first | (go_simp; done) | (go_simp; rfl)); intro gb hg wb hbox hb; have n_e := Aside0.mk ((by rw [hg]; exact (below_size (by repeat (first | (with_reducible first | exact HB.out | apply below_alloc | apply pw_below_drewN | apply below_drew1) | exact HB.out)))) : w.heap.size ≤ gb); have n_b := Aside0.mk (below_step (by repeat (first | (with_reducible first | exact HB.out | apply below_alloc | apply pw_below_drewN | apply below_drew1) | exact HB.out)) hb); have n_k := Aside0.mk hbox; clear HB; have HB := n_b; have GEb := n_e; have BKb := n_k; clear n_e n_b n_k hb hbox hg) | (go_at_call 27; (with_reducible refine (quitrentlaw21_awake.calls 1001 true _ (awake_is 1001 (by omega))).mono ?_); rintro e_ w2 ⟨rfl, hb⟩; have n_BKb := Aside0.mk (blk_below BKb.out hb); have n_b := Aside0.mk (below_step (by repeat (first | (with_reducible first | exact HB.out | apply below_alloc | apply pw_below_drewN | apply below_drew1) | exact HB.out)) hb); clear HB BKb; have BKb := n_BKb; have HB := n_b; clear hb n_b n_BKb; (try clear hczBKb0 hczBKb1); have hczBKb0 : w2.cell? ⟨gb, 0, none⟩ = some (.int .i64 x) := (blk_cell BKb.out 0).trans rfl; have hczBKb1 : w2.cell? ⟨gb, 1, none⟩ = some (.int .i64 y) := (blk_cell BKb.out 1).trans rfl))
  go_ret
  exact ⟨by first | rfl | (simp; done), (by repeat (first | (with_reducible first | exact HB.out | apply below_alloc | apply pw_below_drewN | apply below_drew1) | exact HB.out))⟩
set_option maxHeartbeats 8000000 in
set_option maxRecDepth 100000 in
theorem tells_walk (k : Nat) (col : List Int) (l : List S38) (x y : Int) (A0 : Option Addr) (c0 : Nat) (A1 : Option Addr) (c1 : Nat) (w : World) (hC : Kd.C (Kd.int .i64) w A0 col.length col) (hc : col.length ≤ c0) (hL : Kd.C k38 w A1 l.length l) (hlc : l.length ≤ c1) (h0 : ¬ 1010 < col.length) (h : ¬ 1010 < l.length) (m : List S41) (al : List S38) (bs : List S41) (e : Int) (cs : List S38) (ds : List S41) (g : Int) (ps : List S38) (qs : List S41) (i : Int) (us : List S38) (vs : List S41) (j n t : Int) (hH1 : quitrentlaw21_own.f k l = some m) (hH2 : plot_Stairs.f k col = some (al, e)) (hH3 : rst k col = some (bs, e)) (hH4 : plot_Times.f k l x y = some (cs, g)) (hH5 : quitrentref21_Times.f k m x y = some (ds, g)) (hH6 : plot_Moved.f k l x y = some (ps, i)) (hH7 : quitrentref21_Moved.f k m x y = some (qs, i)) (hH8 : plot_Mirror.f k l = some (us, j)) (hH9 : quitrentref21_Mirror.f k m = some (vs, j)) (hH10 : plot_Area.f k l = some (n, t)) (hH11 : quitrentref21_Area.f k m = some (n, t)) (hH12 : quitrentlaw21_own.f k al = some bs) (hH13 : quitrentlaw21_own.f k cs = some ds) (hH14 : quitrentlaw21_own.f k ps = some qs) (hH15 : quitrentlaw21_own.f k us = some vs) (hL1 : bs.length ≤ 100000) (hL2 : ds.length ≤ 100000) (hL3 : qs.length ≤ 100000) (hL4 : vs.length ≤ 100000) :
    Calls Try.prog 8 #[.slice A0 col.length c0, .slice A1 l.length c1, .agg #[.int .i64 x, .int .i64 y]] w fun z w' => z = .returned (.bool true) ∧ Below w.heap.size w w' := by
  have HR0 := Aside0.mk hC
  have HC0 := Aside0.mk hc
  have HR1 := Aside0.mk hL
  have HC1 := Aside0.mk hlc
  have HB := Aside0.mk (Below.refl w.heap.size w)
  have g0 : decide (1010 < (col.length : Int)) = false := decide_eq_false (by omega)
  have g1 : decide (1010 < col.length) = false := decide_eq_false h0
  have g2 : decide (1010 < (l.length : Int)) = false := decide_eq_false (by omega)
  have g3 : decide (1010 < l.length) = false := decide_eq_false h
  have H1 := Aside0.mk hH1
  have H2 := Aside0.mk hH2
  have H3 := Aside0.mk hH3
  have H4 := Aside0.mk hH4
  have H5 := Aside0.mk hH5
  have H6 := Aside0.mk hH6
  have H7 := Aside0.mk hH7
  have H8 := Aside0.mk hH8
  have H9 := Aside0.mk hH9
  have H10 := Aside0.mk hH10
  have H11 := Aside0.mk hH11
  have H12 := Aside0.mk hH12
  have H13 := Aside0.mk hH13
  have H14 := Aside0.mk hH14
  have H15 := Aside0.mk hH15
  have L1 := Aside0.mk hL1
  have L2 := Aside0.mk hL2
  have L3 := Aside0.mk hL3
  have L4 := Aside0.mk hL4
  clear hC hc hL hlc h0 h hH1 hH2 hH3 hH4 hH5 hH6 hH7 hH8 hH9 hH10 hH11 hH12 hH13 hH14 hH15 hL1 hL2 hL3 hL4
  go_enter Try.func8, Try.ntmps8
  go_wp2_with (first | ((with_reducible refine gate_dst (N := 5) rfl ?_); refine box_event ?hg (N := 5) ?hd (cs := #[.int .i64 x, .int .i64 y]) (t := 38) ?hr ?_; (case hd => rfl); (case hg => rfl); (case hr => first | (go_simp; done) | (go_simp; rfl)); intro gb hg wb hbox hb; have n_e := Aside0.mk ((by rw [hg]; exact (below_size (by repeat (first | (with_reducible first | exact HB.out | apply below_alloc | apply pw_below_drewN | apply below_drew1) | exact HB.out)))) : w.heap.size ≤ gb); have n_b := Aside0.mk (below_step (by repeat (first | (with_reducible first | exact HB.out | apply below_alloc | apply pw_below_drewN | apply below_drew1) | exact HB.out)) hb); have n_k := Aside0.mk hbox; clear HB; have HB := n_b; have GEb := n_e; have BKb := n_k; clear n_e n_b n_k hb hbox hg) | (go_at_call 27; (with_reducible refine (quitrentlaw21_awake.calls 1001 true _ (awake_is 1001 (by omega))).mono ?_); rintro e_ w2 ⟨rfl, hb⟩; have n_BKb := Aside0.mk (blk_below BKb.out hb); have n_b := Aside0.mk (below_step (by repeat (first | (with_reducible first | exact HB.out | apply below_alloc | apply pw_below_drewN | apply below_drew1) | exact HB.out)) hb); clear HB BKb; have BKb := n_BKb; have HB := n_b; clear hb n_b n_BKb; (try clear hczBKb0 hczBKb1); have hczBKb0 : w2.cell? ⟨gb, 0, none⟩ = some (.int .i64 x) := (blk_cell BKb.out 0).trans rfl; have hczBKb1 : w2.cell? ⟨gb, 1, none⟩ = some (.int .i64 y) := (blk_cell BKb.out 1).trans rfl))
  clear hczBKb0 hczBKb1
  have n_BKb := Aside0.mk (blk_drew BKb.out)
  have n_HB := Aside0.mk (below_drew1 HB.out)
  clear BKb HB
  have BKb := n_BKb
  have HB := n_HB
  clear n_BKb n_HB
  refine start_ (n := 6) (S := fun w' => w'.cell? ⟨gb, 0, none⟩ = some (.int .i64 x) ∧ w'.cell? ⟨gb, 1, none⟩ = some (.int .i64 y)) (ds := [5]) #[false, false, false, false, false, false] (by kernel_rfl) rfl rfl ⟨(blk_cell BKb.out 0).trans rfl, (blk_cell BKb.out 1).trans rfl⟩ (fun hHeld => ?_)
  generalize w2.drew = wd at BKb HB hHeld ⊢
  refine pure_ (i := 0) (N := some 39) (v := ?_) (a' := ?_) #[true, false, false, false, false, false] rfl rfl (by kernel_rfl) (fun _ _ _ h => h) (Or.inl ⟨by rfl, ?_⟩) ?_ ?_
  rotate_left
  · intro w'
    go_simp
    with_reducible rfl
  rotate_left
  · simp only [Act.put, List.setIfInBounds_toArray, List.set_cons_zero, List.set_cons_succ, i64_w, i32_w]
    rfl
  refine take_ (i := 2) (N := some 41) (v := ?_) (a' := ?_) #[true, false, true, false, false, false] rfl rfl (by kernel_rfl) (fun _ _ _ h => h) (Or.inl ⟨by rfl, ?_⟩) hHeld ?_ ?_
  rotate_left
  · rintro w' ⟨s0, s1⟩
    go_simp
    with_reducible rfl
  rotate_left
  · simp only [Act.put, List.setIfInBounds_toArray, List.set_cons_zero, List.set_cons_succ, i64_w, i32_w]
    rfl
  refine join_ (σ := Value × Nat) 2 #[true, true, true, true, false, false] (fun s_ => [(40, s_.1), (8, .pointer (some ⟨s_.2, 0, none⟩))]) (fun s_ w' => Kd.R k41 41 w' w.heap.size (fun k_ => k_ ≠ s_.2) s_.1 m ∧ w'.heap[s_.2]? = some (.cells #[.int .i64 0, .int .i64 0] 41 (0, 0)) ∧ w'.heap[gb]? = some (.cells #[.int .i64 x, .int .i64 y] 38 (0, 0)) ∧ Below w.heap.size w w' ∧ w.heap.size ≤ s_.2) ?_ ?_
  rotate_left
  · intro hCont
    refine two_ (i := 1) (j := 3) (Ni := some 40) (Nj := some 8) #[true, true, true, false, false, false] #[true, false, true, true, false, false] rfl rfl rfl rfl (by kernel_rfl) (by decide) (by decide) (fun K hK => ?_) (fun K hK => ?_)
    · skip
      refine goes_ Try.func28 (by kernel_rfl) rfl #[.slice A1 l.length c1] (by rfl) rfl rfl (by simp only [List.map_toArray, List.map_cons, List.map_nil]; rfl) ?_
      with_reducible refine (quitrentlaw21_own.calls k A1 c1 l m _ ?sd1 HC1.out H1.out).mono ?_
      (case sd1 => exact Kd.C_below HR1.out HB.out)
      rintro e_ w3 ⟨v, rfl, ho, hb⟩
      refine ⟨_, rfl, ?_⟩
      have n_k := Aside0.mk (blk_below BKb.out hb)
      have n_o : Aside0 (Kd.R k41 41 w3 w.heap.size (fun _ => True) v m) := ⟨Kd.R_lower ho (below_size HB.out)⟩
      have n_b := Aside0.mk (below_step HB.out hb)
      clear BKb HB ho hb
      have BKb := n_k
      have HB := n_b
      have HO := n_o
      clear n_k n_b n_o
      refine hK.out _ _ ⟨(blk_cell BKb.out 0).trans rfl, (blk_cell BKb.out 1).trans rfl⟩ (fun hHeld => ?_)
      clear hK K
      refine norm_ (a' := ?_) ?_ ?_
      rotate_left
      · show Act.put _ (some 40) _ = _
        simp only [Act.put, List.setIfInBounds_toArray, List.set_cons_zero, List.set_cons_succ, i64_w, i32_w]
        rfl
      refine one_ (i := 3) (N := some 8) #[true, true, true, true, false, false] rfl rfl (by kernel_rfl) (by decide) (fun K hK => ?_)
      refine value_ (w1 := ?_) (v := ?_) (by rfl) rfl ?_ ?_
      rotate_left 2
      · go_simp
        constructor
        · rfl
        · rfl
      obtain ⟨gm, w6, hg, hw, hm, hb⟩ := alloc_event w3 (.cells #[.int .i64 0, .int .i64 0] 41 (0, 0))
      rw [← hg, ← hw]
      have GEm : Aside0 (w.heap.size ≤ gm) := ⟨by rw [hg]; exact below_size HB.out⟩
      have BKm := Aside0.mk hm
      have n_k := Aside0.mk (blk_below BKb.out hb)
      have n_o : Aside0 (Kd.R k41 41 w6 w.heap.size (fun k_ => k_ ≠ gm) v m) := ⟨Kd.R_below (Kd.R_mono (Kd.R_bound HO.out) (fun k_ hk => by have h1 := hk.2.2.1; omega)) hb⟩
      have n_b := Aside0.mk (below_step HB.out hb)
      clear BKb HB hb hm hg hw HO
      have BKb := n_k
      have HB := n_b
      have HO := n_o
      clear n_k n_b n_o
      refine hK.out _ _ ⟨(blk_cell BKb.out 0).trans rfl, (blk_cell BKb.out 1).trans rfl⟩ (fun hHeld => ?_)
      clear hK K
      refine norm_ (a' := ?_) ?_ ?_
      rotate_left
      · show Act.put _ (some 8) _ = _
        simp only [Act.put, List.setIfInBounds_toArray, List.set_cons_zero, List.set_cons_succ, i64_w, i32_w]
        rfl
      exact norm_ (by simp only [putAll, Act.put, List.setIfInBounds_toArray, List.set_cons_zero, List.set_cons_succ]) (hCont (v, gm) _ ⟨HO.out, BKm.out, BKb.out, HB.out, GEm.out⟩)
    · skip
      refine value_ (w1 := ?_) (v := ?_) (by rfl) rfl ?_ ?_
      rotate_left 2
      · go_simp
        constructor
        · rfl
        · rfl
      obtain ⟨gm, w4, hg, hw, hm, hb⟩ := alloc_event wd (.cells #[.int .i64 0, .int .i64 0] 41 (0, 0))
      rw [← hg, ← hw]
      have GEm : Aside0 (w.heap.size ≤ gm) := ⟨by rw [hg]; exact below_size HB.out⟩
      have BKm := Aside0.mk hm
      have n_k := Aside0.mk (blk_below BKb.out hb)
      have n_b := Aside0.mk (below_step HB.out hb)
      clear BKb HB hb hm hg hw
      have BKb := n_k
      have HB := n_b
      clear n_k n_b
      refine hK.out _ _ ⟨(blk_cell BKb.out 0).trans rfl, (blk_cell BKb.out 1).trans rfl⟩ (fun hHeld => ?_)
      clear hK K
      refine norm_ (a' := ?_) ?_ ?_
      rotate_left
      · show Act.put _ (some 8) _ = _
        simp only [Act.put, List.setIfInBounds_toArray, List.set_cons_zero, List.set_cons_succ, i64_w, i32_w]
        rfl
      refine one_ (i := 1) (N := some 40) #[true, true, true, true, false, false] rfl rfl (by kernel_rfl) (by decide) (fun K hK => ?_)
      refine goes_ Try.func28 (by kernel_rfl) rfl #[.slice A1 l.length c1] (by rfl) rfl rfl (by simp only [List.map_toArray, List.map_cons, List.map_nil]; rfl) ?_
      with_reducible refine (quitrentlaw21_own.calls k A1 c1 l m _ ?sd1 HC1.out H1.out).mono ?_
      (case sd1 => exact Kd.C_below HR1.out HB.out)
      rintro e_ w5 ⟨v, rfl, ho, hb⟩
      refine ⟨_, rfl, ?_⟩
      have n_k := Aside0.mk (blk_below BKb.out hb)
      have n_o : Aside0 (Kd.R k41 41 w5 w.heap.size (fun k_ => k_ ≠ gm) v m) := ⟨Kd.R_lower (Kd.R_mono (Kd.R_bound ho) (fun k_ hk => by have h1 := hk.2.1; have h2 := blk_lt BKm.out; omega)) (below_size HB.out)⟩
      have n_m := Aside0.mk (blk_below BKm.out hb)
      have n_b := Aside0.mk (below_step HB.out hb)
      clear BKb HB ho hb BKm
      have BKb := n_k
      have HB := n_b
      have HO := n_o
      have BKm := n_m
      clear n_k n_b n_o n_m
      refine hK.out _ _ ⟨(blk_cell BKb.out 0).trans rfl, (blk_cell BKb.out 1).trans rfl⟩ (fun hHeld => ?_)
      clear hK K
      refine norm_ (a' := ?_) ?_ ?_
      rotate_left
      · show Act.put _ (some 40) _ = _
        simp only [Act.put, List.setIfInBounds_toArray, List.set_cons_zero, List.set_cons_succ, i64_w, i32_w]
        rfl
      exact norm_ (by simp only [putAll, Act.put, List.setIfInBounds_toArray, List.set_cons_zero, List.set_cons_succ]) (hCont (v, gm) _ ⟨HO.out, BKm.out, BKb.out, HB.out, GEm.out⟩)
  clear BKb HB
  rintro ⟨v, gm⟩ w7 ⟨q1, q2, q3, q4, q5⟩
  have HO := Aside0.mk q1
  have BKm := Aside0.mk q2
  have BKb := Aside0.mk q3
  have HB := Aside0.mk q4
  have GEm := Aside0.mk q5
  clear q1 q2 q3 q4 q5
  have hHeld : w7.cell? ⟨gb, 0, none⟩ = some (.int .i64 x) ∧ w7.cell? ⟨gb, 1, none⟩ = some (.int .i64 y) := ⟨(blk_cell BKb.out 0).trans rfl, (blk_cell BKb.out 1).trans rfl⟩
  refine norm_ (a' := ?_) ?_ ?_
  rotate_left
  · simp only [putAll, Act.put, List.setIfInBounds_toArray, List.set_cons_zero, List.set_cons_succ]
    rfl
  refine pure_ (i := 4) (N := some 7) (v := ?_) (a' := ?_) #[true, true, true, true, true, false] rfl rfl (by kernel_rfl) (fun _ _ _ h => h) (Or.inl ⟨by rfl, ?_⟩) ?_ ?_
  rotate_left
  · intro w'
    go_simp
    with_reducible rfl
  rotate_left
  · simp only [Act.put, List.setIfInBounds_toArray, List.set_cons_zero, List.set_cons_succ, i64_w, i32_w]
    rfl
  refine last_ (i := 5) (N := none) #[true, true, true, true, true, true] rfl rfl (by kernel_rfl) (by decide) (fun K hK => ?_)
  have hs0 : w7.cell? ⟨gm, 0, none⟩ = some (.int .i64 0) := (blk_cell BKm.out 0).trans rfl
  have hf0 := blk_frozen BKm.out 0
  have hs1 : w7.cell? ⟨gm, 1, none⟩ = some (.int .i64 0) := (blk_cell BKm.out 1).trans rfl
  have hf1 := blk_frozen BKm.out 1
  refine skip_ (w1 := ?_) (by rfl) rfl ?_ ?_
  rotate_left
  · go_simp
    rfl
  refine hK.out _ _ ?_
  clear hK K
  refine done_ (by kernel_rfl) ?_
  have n_o := Aside0.mk (Kd.R_far (p := ⟨gm, 1, none⟩) (Kd.R_far (p := ⟨gm, 0, none⟩) HO.out (fun _ hk => hk) (.int .i64 x)) (fun _ hk => hk) (.int .i64 y))
  have n_m := Aside0.mk (blk_put (cs := #[.int .i64 x, .int .i64 0]) (blk_put BKm.out 0 (.int .i64 x) rfl) 1 (.int .i64 y) (cs' := #[.int .i64 x, .int .i64 y]) rfl)
  have n_k := Aside0.mk (blk_far (p := ⟨gm, 1, none⟩) (blk_far (p := ⟨gm, 0, none⟩) BKb.out (blk_ne BKb.out BKm.out (by decide)) (.int .i64 x)) (blk_ne BKb.out BKm.out (by decide)) (.int .i64 y))
  have n_b : Aside0 (Below w.heap.size w ((w7.setCell ⟨gm, 0, none⟩ (.int .i64 x)).setCell ⟨gm, 1, none⟩ (.int .i64 y))) := ⟨below_set (below_set HB.out GEm.out) GEm.out⟩
  clear HO BKm BKb HB hs0 hs1 hf0 hf1
  have BKm := n_m
  have BKb := n_k
  have HB := n_b
  obtain ⟨Am, cm, em, hcm, hCm⟩ := Kd.R_reads n_o.out
  subst em
  have HM := Aside0.mk hCm
  have HMc := Aside0.mk hcm
  clear n_o n_m n_k n_b hcm hCm
  generalize (w7.setCell ⟨gm, 0, none⟩ (.int .i64 x)).setCell ⟨gm, 1, none⟩ (.int .i64 y) = w8 at HM BKm BKb HB ⊢
  (try clear hczBKb0 hczBKb1)
  have hczBKb0 : w8.cell? ⟨gb, 0, none⟩ = some (.int .i64 x) := (blk_cell BKb.out 0).trans rfl
  have hczBKb1 : w8.cell? ⟨gb, 1, none⟩ = some (.int .i64 y) := (blk_cell BKb.out 1).trans rfl
  (try clear hczBKm0 hczBKm1)
  have hczBKm0 : w8.cell? ⟨gm, 0, none⟩ = some (.int .i64 x) := (blk_cell BKm.out 0).trans rfl
  have hczBKm1 : w8.cell? ⟨gm, 1, none⟩ = some (.int .i64 y) := (blk_cell BKm.out 1).trans rfl
  go_wp2_with (first | ((with_reducible refine gate_callee (f := 29) rfl ?_); (with_reducible refine gate_dst (N := 44) rfl ?_); refine goesL_ (some 44) rfl rfl Try.func29 (by kernel_rfl) rfl #[.slice A0 col.length c0] rfl (by (try simp only [List.map_toArray, List.map_cons, List.map_nil]); first | done | rfl) ?_; (with_reducible refine (stC k col al e _ _ _ ?s1 HC0.out H2.out).mono ?_); (case s1 => exact Kd.C_below HR0.out (by repeat (first | (with_reducible first | exact HB.out | apply below_alloc | apply pw_below_drewN | apply below_drew1) | exact HB.out))); rintro e_ w_al ⟨Aal, cal, rfl, hcl, hCl, hb⟩; refine ⟨_, rfl, ?_⟩; have n_BKb := Aside0.mk (blk_below BKb.out hb); have n_BKm := Aside0.mk (blk_below BKm.out hb); have n_HM := Aside0.mk (Kd.C_below HM.out hb); have n_b := Aside0.mk (below_step (by repeat (first | (with_reducible first | exact HB.out | apply below_alloc | apply pw_below_drewN | apply below_drew1) | exact HB.out)) hb); clear HB BKb BKm HM; have BKb := n_BKb; have BKm := n_BKm; have HM := n_HM; have HB := n_b; clear hb n_b n_BKb n_BKm n_HM; (try clear hczBKb0 hczBKb1); have hczBKb0 : w_al.cell? ⟨gb, 0, none⟩ = some (.int .i64 x) := (blk_cell BKb.out 0).trans rfl; have hczBKb1 : w_al.cell? ⟨gb, 1, none⟩ = some (.int .i64 y) := (blk_cell BKb.out 1).trans rfl; (try clear hczBKm0 hczBKm1); have hczBKm0 : w_al.cell? ⟨gm, 0, none⟩ = some (.int .i64 x) := (blk_cell BKm.out 0).trans rfl; have hczBKm1 : w_al.cell? ⟨gm, 1, none⟩ = some (.int .i64 y) := (blk_cell BKm.out 1).trans rfl; have Hal := Aside0.mk hCl; clear hCl; have Halc := Aside0.mk hcl; clear hcl) | ((with_reducible refine gate_callee (f := 30) rfl ?_); (with_reducible refine gate_dst (N := 49) rfl ?_); refine goesL_ (some 49) rfl rfl Try.func30 (by kernel_rfl) rfl #[.slice A0 col.length c0] rfl (by (try simp only [List.map_toArray, List.map_cons, List.map_nil]); first | done | rfl) ?_; (with_reducible refine (stairsR k col _ _ bs e _ ?s1 HC0.out H3.out).mono ?_); (case s1 => exact Kd.C_below HR0.out (by repeat (first | (with_reducible first | exact HB.out | apply below_alloc | apply pw_below_drewN | apply below_drew1) | exact HB.out))); rintro e_ w_bs ⟨Abs, cbs, rfl, hcl, hCl, hb⟩; refine ⟨_, rfl, ?_⟩; have n_BKb := Aside0.mk (blk_below BKb.out hb); have n_BKm := Aside0.mk (blk_below BKm.out hb); have n_HM := Aside0.mk (Kd.C_below HM.out hb); have n_Hal := Aside0.mk (Kd.C_below Hal.out hb); have n_b := Aside0.mk (below_step (by repeat (first | (with_reducible first | exact HB.out | apply below_alloc | apply pw_below_drewN | apply below_drew1) | exact HB.out)) hb); clear HB BKb BKm HM Hal; have BKb := n_BKb; have BKm := n_BKm; have HM := n_HM; have Hal := n_Hal; have HB := n_b; clear hb n_b n_BKb n_BKm n_HM n_Hal; (try clear hczBKb0 hczBKb1); have hczBKb0 : w_bs.cell? ⟨gb, 0, none⟩ = some (.int .i64 x) := (blk_cell BKb.out 0).trans rfl; have hczBKb1 : w_bs.cell? ⟨gb, 1, none⟩ = some (.int .i64 y) := (blk_cell BKb.out 1).trans rfl; (try clear hczBKm0 hczBKm1); have hczBKm0 : w_bs.cell? ⟨gm, 0, none⟩ = some (.int .i64 x) := (blk_cell BKm.out 0).trans rfl; have hczBKm1 : w_bs.cell? ⟨gm, 1, none⟩ = some (.int .i64 y) := (blk_cell BKm.out 1).trans rfl; have Hbs := Aside0.mk hCl; clear hCl; have Hbsc := Aside0.mk hcl; clear hcl) | ((with_reducible refine gate_callee (f := 31) rfl ?_); (with_reducible refine gate_dst (N := 55) rfl ?_); refine goesL_ (some 55) rfl rfl Try.func31 (by kernel_rfl) rfl #[.slice A1 l.length c1, .agg #[.int .i64 x, .int .i64 y]] rfl (by (try simp only [List.map_toArray, List.map_cons, List.map_nil]); first | done | rfl) ?_; (with_reducible refine (tmC k l x y cs g _ _ _ ?s1 HC1.out H4.out).mono ?_); (case s1 => exact Kd.C_below HR1.out (by repeat (first | (with_reducible first | exact HB.out | apply below_alloc | apply pw_below_drewN | apply below_drew1) | exact HB.out))); rintro e_ w_cs ⟨Acs, ccs, rfl, hcl, hCl, hb⟩; refine ⟨_, rfl, ?_⟩; have n_BKb := Aside0.mk (blk_below BKb.out hb); have n_BKm := Aside0.mk (blk_below BKm.out hb); have n_HM := Aside0.mk (Kd.C_below HM.out hb); have n_Hal := Aside0.mk (Kd.C_below Hal.out hb); have n_Hbs := Aside0.mk (Kd.C_below Hbs.out hb); have n_b := Aside0.mk (below_step (by repeat (first | (with_reducible first | exact HB.out | apply below_alloc | apply pw_below_drewN | apply below_drew1) | exact HB.out)) hb); clear HB BKb BKm HM Hal Hbs; have BKb := n_BKb; have BKm := n_BKm; have HM := n_HM; have Hal := n_Hal; have Hbs := n_Hbs; have HB := n_b; clear hb n_b n_BKb n_BKm n_HM n_Hal n_Hbs; (try clear hczBKb0 hczBKb1); have hczBKb0 : w_cs.cell? ⟨gb, 0, none⟩ = some (.int .i64 x) := (blk_cell BKb.out 0).trans rfl; have hczBKb1 : w_cs.cell? ⟨gb, 1, none⟩ = some (.int .i64 y) := (blk_cell BKb.out 1).trans rfl; (try clear hczBKm0 hczBKm1); have hczBKm0 : w_cs.cell? ⟨gm, 0, none⟩ = some (.int .i64 x) := (blk_cell BKm.out 0).trans rfl; have hczBKm1 : w_cs.cell? ⟨gm, 1, none⟩ = some (.int .i64 y) := (blk_cell BKm.out 1).trans rfl; have Hcs := Aside0.mk hCl; clear hCl; have Hcsc := Aside0.mk hcl; clear hcl) | ((with_reducible refine gate_callee (f := 32) rfl ?_); (with_reducible refine gate_dst (N := 61) rfl ?_); refine goesL_ (some 61) rfl rfl Try.func32 (by kernel_rfl) rfl #[.slice Am m.length cm, .agg #[.int .i64 x, .int .i64 y]] rfl (by (try simp only [List.map_toArray, List.map_cons, List.map_nil]); first | done | rfl) ?_; (with_reducible refine (rtmC k m x y ds g _ _ _ ?s1 HMc.out H5.out).mono ?_); (case s1 => exact HM.out); rintro e_ w_ds ⟨Ads, cds, rfl, hcl, hCl, hb⟩; refine ⟨_, rfl, ?_⟩; have n_BKb := Aside0.mk (blk_below BKb.out hb); have n_BKm := Aside0.mk (blk_below BKm.out hb); have n_HM := Aside0.mk (Kd.C_below HM.out hb); have n_Hal := Aside0.mk (Kd.C_below Hal.out hb); have n_Hbs := Aside0.mk (Kd.C_below Hbs.out hb); have n_Hcs := Aside0.mk (Kd.C_below Hcs.out hb); have n_b := Aside0.mk (below_step (by repeat (first | (with_reducible first | exact HB.out | apply below_alloc | apply pw_below_drewN | apply below_drew1) | exact HB.out)) hb); clear HB BKb BKm HM Hal Hbs Hcs; have BKb := n_BKb; have BKm := n_BKm; have HM := n_HM; have Hal := n_Hal; have Hbs := n_Hbs; have Hcs := n_Hcs; have HB := n_b; clear hb n_b n_BKb n_BKm n_HM n_Hal n_Hbs n_Hcs; (try clear hczBKb0 hczBKb1); have hczBKb0 : w_ds.cell? ⟨gb, 0, none⟩ = some (.int .i64 x) := (blk_cell BKb.out 0).trans rfl; have hczBKb1 : w_ds.cell? ⟨gb, 1, none⟩ = some (.int .i64 y) := (blk_cell BKb.out 1).trans rfl; (try clear hczBKm0 hczBKm1); have hczBKm0 : w_ds.cell? ⟨gm, 0, none⟩ = some (.int .i64 x) := (blk_cell BKm.out 0).trans rfl; have hczBKm1 : w_ds.cell? ⟨gm, 1, none⟩ = some (.int .i64 y) := (blk_cell BKm.out 1).trans rfl; have Hds := Aside0.mk hCl; clear hCl; have Hdsc := Aside0.mk hcl; clear hcl) | ((with_reducible refine gate_callee (f := 33) rfl ?_); (with_reducible refine gate_dst (N := 67) rfl ?_); refine goesL_ (some 67) rfl rfl Try.func33 (by kernel_rfl) rfl #[.slice A1 l.length c1, .agg #[.int .i64 x, .int .i64 y]] rfl (by (try simp only [List.map_toArray, List.map_cons, List.map_nil]); first | done | rfl) ?_; (with_reducible refine (mvC k l x y ps i _ _ _ ?s1 HC1.out H6.out).mono ?_); (case s1 => exact Kd.C_below HR1.out (by repeat (first | (with_reducible first | exact HB.out | apply below_alloc | apply pw_below_drewN | apply below_drew1) | exact HB.out))); rintro e_ w_ps ⟨Aps, cps, rfl, hcl, hCl, hb⟩; refine ⟨_, rfl, ?_⟩; have n_BKb := Aside0.mk (blk_below BKb.out hb); have n_BKm := Aside0.mk (blk_below BKm.out hb); have n_HM := Aside0.mk (Kd.C_below HM.out hb); have n_Hal := Aside0.mk (Kd.C_below Hal.out hb); have n_Hbs := Aside0.mk (Kd.C_below Hbs.out hb); have n_Hcs := Aside0.mk (Kd.C_below Hcs.out hb); have n_Hds := Aside0.mk (Kd.C_below Hds.out hb); have n_b := Aside0.mk (below_step (by repeat (first | (with_reducible first | exact HB.out | apply below_alloc | apply pw_below_drewN | apply below_drew1) | exact HB.out)) hb); clear HB BKb BKm HM Hal Hbs Hcs Hds; have BKb := n_BKb; have BKm := n_BKm; have HM := n_HM; have Hal := n_Hal; have Hbs := n_Hbs; have Hcs := n_Hcs; have Hds := n_Hds; have HB := n_b; clear hb n_b n_BKb n_BKm n_HM n_Hal n_Hbs n_Hcs n_Hds; (try clear hczBKb0 hczBKb1); have hczBKb0 : w_ps.cell? ⟨gb, 0, none⟩ = some (.int .i64 x) := (blk_cell BKb.out 0).trans rfl; have hczBKb1 : w_ps.cell? ⟨gb, 1, none⟩ = some (.int .i64 y) := (blk_cell BKb.out 1).trans rfl; (try clear hczBKm0 hczBKm1); have hczBKm0 : w_ps.cell? ⟨gm, 0, none⟩ = some (.int .i64 x) := (blk_cell BKm.out 0).trans rfl; have hczBKm1 : w_ps.cell? ⟨gm, 1, none⟩ = some (.int .i64 y) := (blk_cell BKm.out 1).trans rfl; have Hps := Aside0.mk hCl; clear hCl; have Hpsc := Aside0.mk hcl; clear hcl) | ((with_reducible refine gate_callee (f := 34) rfl ?_); (with_reducible refine gate_dst (N := 73) rfl ?_); refine goesL_ (some 73) rfl rfl Try.func34 (by kernel_rfl) rfl #[.slice Am m.length cm, .agg #[.int .i64 x, .int .i64 y]] rfl (by (try simp only [List.map_toArray, List.map_cons, List.map_nil]); first | done | rfl) ?_; (with_reducible refine (rmvC k m x y qs i _ _ _ ?s1 HMc.out H7.out).mono ?_); (case s1 => exact HM.out); rintro e_ w_qs ⟨Aqs, cqs, rfl, hcl, hCl, hb⟩; refine ⟨_, rfl, ?_⟩; have n_BKb := Aside0.mk (blk_below BKb.out hb); have n_BKm := Aside0.mk (blk_below BKm.out hb); have n_HM := Aside0.mk (Kd.C_below HM.out hb); have n_Hal := Aside0.mk (Kd.C_below Hal.out hb); have n_Hbs := Aside0.mk (Kd.C_below Hbs.out hb); have n_Hcs := Aside0.mk (Kd.C_below Hcs.out hb); have n_Hds := Aside0.mk (Kd.C_below Hds.out hb); have n_Hps := Aside0.mk (Kd.C_below Hps.out hb); have n_b := Aside0.mk (below_step (by repeat (first | (with_reducible first | exact HB.out | apply below_alloc | apply pw_below_drewN | apply below_drew1) | exact HB.out)) hb); clear HB BKb BKm HM Hal Hbs Hcs Hds Hps; have BKb := n_BKb; have BKm := n_BKm; have HM := n_HM; have Hal := n_Hal; have Hbs := n_Hbs; have Hcs := n_Hcs; have Hds := n_Hds; have Hps := n_Hps; have HB := n_b; clear hb n_b n_BKb n_BKm n_HM n_Hal n_Hbs n_Hcs n_Hds n_Hps; (try clear hczBKb0 hczBKb1); have hczBKb0 : w_qs.cell? ⟨gb, 0, none⟩ = some (.int .i64 x) := (blk_cell BKb.out 0).trans rfl; have hczBKb1 : w_qs.cell? ⟨gb, 1, none⟩ = some (.int .i64 y) := (blk_cell BKb.out 1).trans rfl; (try clear hczBKm0 hczBKm1); have hczBKm0 : w_qs.cell? ⟨gm, 0, none⟩ = some (.int .i64 x) := (blk_cell BKm.out 0).trans rfl; have hczBKm1 : w_qs.cell? ⟨gm, 1, none⟩ = some (.int .i64 y) := (blk_cell BKm.out 1).trans rfl; have Hqs := Aside0.mk hCl; clear hCl; have Hqsc := Aside0.mk hcl; clear hcl) | ((with_reducible refine gate_callee (f := 35) rfl ?_); (with_reducible refine gate_dst (N := 78) rfl ?_); refine goesL_ (some 78) rfl rfl Try.func35 (by kernel_rfl) rfl #[.slice A1 l.length c1] rfl (by (try simp only [List.map_toArray, List.map_cons, List.map_nil]); first | done | rfl) ?_; (with_reducible refine (miC k l us j _ _ _ ?s1 HC1.out H8.out).mono ?_); (case s1 => exact Kd.C_below HR1.out (by repeat (first | (with_reducible first | exact HB.out | apply below_alloc | apply pw_below_drewN | apply below_drew1) | exact HB.out))); rintro e_ w_us ⟨Aus, cus, rfl, hcl, hCl, hb⟩; refine ⟨_, rfl, ?_⟩; have n_BKb := Aside0.mk (blk_below BKb.out hb); have n_BKm := Aside0.mk (blk_below BKm.out hb); have n_HM := Aside0.mk (Kd.C_below HM.out hb); have n_Hal := Aside0.mk (Kd.C_below Hal.out hb); have n_Hbs := Aside0.mk (Kd.C_below Hbs.out hb); have n_Hcs := Aside0.mk (Kd.C_below Hcs.out hb); have n_Hds := Aside0.mk (Kd.C_below Hds.out hb); have n_Hps := Aside0.mk (Kd.C_below Hps.out hb); have n_Hqs := Aside0.mk (Kd.C_below Hqs.out hb); have n_b := Aside0.mk (below_step (by repeat (first | (with_reducible first | exact HB.out | apply below_alloc | apply pw_below_drewN | apply below_drew1) | exact HB.out)) hb); clear HB BKb BKm HM Hal Hbs Hcs Hds Hps Hqs; have BKb := n_BKb; have BKm := n_BKm; have HM := n_HM; have Hal := n_Hal; have Hbs := n_Hbs; have Hcs := n_Hcs; have Hds := n_Hds; have Hps := n_Hps; have Hqs := n_Hqs; have HB := n_b; clear hb n_b n_BKb n_BKm n_HM n_Hal n_Hbs n_Hcs n_Hds n_Hps n_Hqs; (try clear hczBKb0 hczBKb1); have hczBKb0 : w_us.cell? ⟨gb, 0, none⟩ = some (.int .i64 x) := (blk_cell BKb.out 0).trans rfl; have hczBKb1 : w_us.cell? ⟨gb, 1, none⟩ = some (.int .i64 y) := (blk_cell BKb.out 1).trans rfl; (try clear hczBKm0 hczBKm1); have hczBKm0 : w_us.cell? ⟨gm, 0, none⟩ = some (.int .i64 x) := (blk_cell BKm.out 0).trans rfl; have hczBKm1 : w_us.cell? ⟨gm, 1, none⟩ = some (.int .i64 y) := (blk_cell BKm.out 1).trans rfl; have Hus := Aside0.mk hCl; clear hCl; have Husc := Aside0.mk hcl; clear hcl) | ((with_reducible refine gate_callee (f := 36) rfl ?_); (with_reducible refine gate_dst (N := 83) rfl ?_); refine goesL_ (some 83) rfl rfl Try.func36 (by kernel_rfl) rfl #[.slice Am m.length cm] rfl (by (try simp only [List.map_toArray, List.map_cons, List.map_nil]); first | done | rfl) ?_; (with_reducible refine (rmiC k m vs j _ _ _ ?s1 HMc.out H9.out).mono ?_); (case s1 => exact HM.out); rintro e_ w_vs ⟨Avs, cvs, rfl, hcl, hCl, hb⟩; refine ⟨_, rfl, ?_⟩; have n_BKb := Aside0.mk (blk_below BKb.out hb); have n_BKm := Aside0.mk (blk_below BKm.out hb); have n_HM := Aside0.mk (Kd.C_below HM.out hb); have n_Hal := Aside0.mk (Kd.C_below Hal.out hb); have n_Hbs := Aside0.mk (Kd.C_below Hbs.out hb); have n_Hcs := Aside0.mk (Kd.C_below Hcs.out hb); have n_Hds := Aside0.mk (Kd.C_below Hds.out hb); have n_Hps := Aside0.mk (Kd.C_below Hps.out hb); have n_Hqs := Aside0.mk (Kd.C_below Hqs.out hb); have n_Hus := Aside0.mk (Kd.C_below Hus.out hb); have n_b := Aside0.mk (below_step (by repeat (first | (with_reducible first | exact HB.out | apply below_alloc | apply pw_below_drewN | apply below_drew1) | exact HB.out)) hb); clear HB BKb BKm HM Hal Hbs Hcs Hds Hps Hqs Hus; have BKb := n_BKb; have BKm := n_BKm; have HM := n_HM; have Hal := n_Hal; have Hbs := n_Hbs; have Hcs := n_Hcs; have Hds := n_Hds; have Hps := n_Hps; have Hqs := n_Hqs; have Hus := n_Hus; have HB := n_b; clear hb n_b n_BKb n_BKm n_HM n_Hal n_Hbs n_Hcs n_Hds n_Hps n_Hqs n_Hus; (try clear hczBKb0 hczBKb1); have hczBKb0 : w_vs.cell? ⟨gb, 0, none⟩ = some (.int .i64 x) := (blk_cell BKb.out 0).trans rfl; have hczBKb1 : w_vs.cell? ⟨gb, 1, none⟩ = some (.int .i64 y) := (blk_cell BKb.out 1).trans rfl; (try clear hczBKm0 hczBKm1); have hczBKm0 : w_vs.cell? ⟨gm, 0, none⟩ = some (.int .i64 x) := (blk_cell BKm.out 0).trans rfl; have hczBKm1 : w_vs.cell? ⟨gm, 1, none⟩ = some (.int .i64 y) := (blk_cell BKm.out 1).trans rfl; have Hvs := Aside0.mk hCl; clear hCl; have Hvsc := Aside0.mk hcl; clear hcl) | ((with_reducible refine gate_callee (f := 37) rfl ?_); (with_reducible refine gate_dst (N := 88) rfl ?_); refine goesL_ (some 88) rfl rfl Try.func37 (by kernel_rfl) rfl #[.slice A1 l.length c1] rfl (by (try simp only [List.map_toArray, List.map_cons, List.map_nil]); first | done | rfl) ?_; (with_reducible refine (arC k l n t _ _ _ ?s1 HC1.out H10.out).mono ?_); (case s1 => exact Kd.C_below HR1.out (by repeat (first | (with_reducible first | exact HB.out | apply below_alloc | apply pw_below_drewN | apply below_drew1) | exact HB.out))); rintro e_ w_ar ⟨rfl, hb⟩; refine ⟨_, rfl, ?_⟩; have n_BKb := Aside0.mk (blk_below BKb.out hb); have n_BKm := Aside0.mk (blk_below BKm.out hb); have n_HM := Aside0.mk (Kd.C_below HM.out hb); have n_Hal := Aside0.mk (Kd.C_below Hal.out hb); have n_Hbs := Aside0.mk (Kd.C_below Hbs.out hb); have n_Hcs := Aside0.mk (Kd.C_below Hcs.out hb); have n_Hds := Aside0.mk (Kd.C_below Hds.out hb); have n_Hps := Aside0.mk (Kd.C_below Hps.out hb); have n_Hqs := Aside0.mk (Kd.C_below Hqs.out hb); have n_Hus := Aside0.mk (Kd.C_below Hus.out hb); have n_Hvs := Aside0.mk (Kd.C_below Hvs.out hb); have n_b := Aside0.mk (below_step (by repeat (first | (with_reducible first | exact HB.out | apply below_alloc | apply pw_below_drewN | apply below_drew1) | exact HB.out)) hb); clear HB BKb BKm HM Hal Hbs Hcs Hds Hps Hqs Hus Hvs; have BKb := n_BKb; have BKm := n_BKm; have HM := n_HM; have Hal := n_Hal; have Hbs := n_Hbs; have Hcs := n_Hcs; have Hds := n_Hds; have Hps := n_Hps; have Hqs := n_Hqs; have Hus := n_Hus; have Hvs := n_Hvs; have HB := n_b; clear hb n_b n_BKb n_BKm n_HM n_Hal n_Hbs n_Hcs n_Hds n_Hps n_Hqs n_Hus n_Hvs; (try clear hczBKb0 hczBKb1); have hczBKb0 : w_ar.cell? ⟨gb, 0, none⟩ = some (.int .i64 x) := (blk_cell BKb.out 0).trans rfl; have hczBKb1 : w_ar.cell? ⟨gb, 1, none⟩ = some (.int .i64 y) := (blk_cell BKb.out 1).trans rfl; (try clear hczBKm0 hczBKm1); have hczBKm0 : w_ar.cell? ⟨gm, 0, none⟩ = some (.int .i64 x) := (blk_cell BKm.out 0).trans rfl; have hczBKm1 : w_ar.cell? ⟨gm, 1, none⟩ = some (.int .i64 y) := (blk_cell BKm.out 1).trans rfl) | ((with_reducible refine gate_callee (f := 38) rfl ?_); (with_reducible refine gate_dst (N := 93) rfl ?_); refine goesL_ (some 93) rfl rfl Try.func38 (by kernel_rfl) rfl #[.slice Am m.length cm] rfl (by (try simp only [List.map_toArray, List.map_cons, List.map_nil]); first | done | rfl) ?_; (with_reducible refine (rarC k m n t _ _ _ ?s1 HMc.out H11.out).mono ?_); (case s1 => exact HM.out); rintro e_ w_rar ⟨rfl, hb⟩; refine ⟨_, rfl, ?_⟩; have n_BKb := Aside0.mk (blk_below BKb.out hb); have n_BKm := Aside0.mk (blk_below BKm.out hb); have n_HM := Aside0.mk (Kd.C_below HM.out hb); have n_Hal := Aside0.mk (Kd.C_below Hal.out hb); have n_Hbs := Aside0.mk (Kd.C_below Hbs.out hb); have n_Hcs := Aside0.mk (Kd.C_below Hcs.out hb); have n_Hds := Aside0.mk (Kd.C_below Hds.out hb); have n_Hps := Aside0.mk (Kd.C_below Hps.out hb); have n_Hqs := Aside0.mk (Kd.C_below Hqs.out hb); have n_Hus := Aside0.mk (Kd.C_below Hus.out hb); have n_Hvs := Aside0.mk (Kd.C_below Hvs.out hb); have n_b := Aside0.mk (below_step (by repeat (first | (with_reducible first | exact HB.out | apply below_alloc | apply pw_below_drewN | apply below_drew1) | exact HB.out)) hb); clear HB BKb BKm HM Hal Hbs Hcs Hds Hps Hqs Hus Hvs; have BKb := n_BKb; have BKm := n_BKm; have HM := n_HM; have Hal := n_Hal; have Hbs := n_Hbs; have Hcs := n_Hcs; have Hds := n_Hds; have Hps := n_Hps; have Hqs := n_Hqs; have Hus := n_Hus; have Hvs := n_Hvs; have HB := n_b; clear hb n_b n_BKb n_BKm n_HM n_Hal n_Hbs n_Hcs n_Hds n_Hps n_Hqs n_Hus n_Hvs; (try clear hczBKb0 hczBKb1); have hczBKb0 : w_rar.cell? ⟨gb, 0, none⟩ = some (.int .i64 x) := (blk_cell BKb.out 0).trans rfl; have hczBKb1 : w_rar.cell? ⟨gb, 1, none⟩ = some (.int .i64 y) := (blk_cell BKb.out 1).trans rfl; (try clear hczBKm0 hczBKm1); have hczBKm0 : w_rar.cell? ⟨gm, 0, none⟩ = some (.int .i64 x) := (blk_cell BKm.out 0).trans rfl; have hczBKm1 : w_rar.cell? ⟨gm, 1, none⟩ = some (.int .i64 y) := (blk_cell BKm.out 1).trans rfl) | ((with_reducible refine gate_callee (f := 28) rfl ?_); (with_reducible refine gate_dst (N := 97) rfl ?_); refine goesL_ (some 97) rfl rfl Try.func28 (by kernel_rfl) rfl #[.slice Aal al.length cal] rfl (by (try simp only [List.map_toArray, List.map_cons, List.map_nil]); first | done | rfl) ?_; (with_reducible refine (ownC k al bs _ _ _ ?s1 Halc.out H12.out).mono ?_); (case s1 => exact Hal.out); rintro e_ w_o0 ⟨Ao0, co0, rfl, hcl, hCl, hb⟩; refine ⟨_, rfl, ?_⟩; have n_BKb := Aside0.mk (blk_below BKb.out hb); have n_BKm := Aside0.mk (blk_below BKm.out hb); have n_HM := Aside0.mk (Kd.C_below HM.out hb); have n_Hal := Aside0.mk (Kd.C_below Hal.out hb); have n_Hbs := Aside0.mk (Kd.C_below Hbs.out hb); have n_Hcs := Aside0.mk (Kd.C_below Hcs.out hb); have n_Hds := Aside0.mk (Kd.C_below Hds.out hb); have n_Hps := Aside0.mk (Kd.C_below Hps.out hb); have n_Hqs := Aside0.mk (Kd.C_below Hqs.out hb); have n_Hus := Aside0.mk (Kd.C_below Hus.out hb); have n_Hvs := Aside0.mk (Kd.C_below Hvs.out hb); have n_b := Aside0.mk (below_step (by repeat (first | (with_reducible first | exact HB.out | apply below_alloc | apply pw_below_drewN | apply below_drew1) | exact HB.out)) hb); clear HB BKb BKm HM Hal Hbs Hcs Hds Hps Hqs Hus Hvs; have BKb := n_BKb; have BKm := n_BKm; have HM := n_HM; have Hal := n_Hal; have Hbs := n_Hbs; have Hcs := n_Hcs; have Hds := n_Hds; have Hps := n_Hps; have Hqs := n_Hqs; have Hus := n_Hus; have Hvs := n_Hvs; have HB := n_b; clear hb n_b n_BKb n_BKm n_HM n_Hal n_Hbs n_Hcs n_Hds n_Hps n_Hqs n_Hus n_Hvs; (try clear hczBKb0 hczBKb1); have hczBKb0 : w_o0.cell? ⟨gb, 0, none⟩ = some (.int .i64 x) := (blk_cell BKb.out 0).trans rfl; have hczBKb1 : w_o0.cell? ⟨gb, 1, none⟩ = some (.int .i64 y) := (blk_cell BKb.out 1).trans rfl; (try clear hczBKm0 hczBKm1); have hczBKm0 : w_o0.cell? ⟨gm, 0, none⟩ = some (.int .i64 x) := (blk_cell BKm.out 0).trans rfl; have hczBKm1 : w_o0.cell? ⟨gm, 1, none⟩ = some (.int .i64 y) := (blk_cell BKm.out 1).trans rfl; have Ho0 := Aside0.mk hCl; clear hCl; have Ho0c := Aside0.mk hcl; clear hcl) | ((with_reducible refine gate_callee (f := 39) rfl ?_); (with_reducible refine gate_dst (N := 99) rfl ?_); refine goesL_ (some 99) rfl rfl Try.func39 (by kernel_rfl) rfl #[.slice Ao0 bs.length co0, .slice Abs bs.length cbs] rfl (by (try simp only [List.map_toArray, List.map_cons, List.map_nil]); first | done | rfl) ?_; (with_reducible refine (sameRC bs _ _ _ _ _ ?s1 Ho0c.out ?s2 Hbsc.out L1.out).mono ?_); (case s1 => exact Ho0.out); (case s2 => exact Hbs.out); rintro e_ w_s0 ⟨rfl, hb⟩; refine ⟨_, rfl, ?_⟩; have n_BKb := Aside0.mk (blk_below BKb.out hb); have n_BKm := Aside0.mk (blk_below BKm.out hb); have n_HM := Aside0.mk (Kd.C_below HM.out hb); have n_Hal := Aside0.mk (Kd.C_below Hal.out hb); have n_Hbs := Aside0.mk (Kd.C_below Hbs.out hb); have n_Hcs := Aside0.mk (Kd.C_below Hcs.out hb); have n_Hds := Aside0.mk (Kd.C_below Hds.out hb); have n_Hps := Aside0.mk (Kd.C_below Hps.out hb); have n_Hqs := Aside0.mk (Kd.C_below Hqs.out hb); have n_Hus := Aside0.mk (Kd.C_below Hus.out hb); have n_Hvs := Aside0.mk (Kd.C_below Hvs.out hb); have n_Ho0 := Aside0.mk (Kd.C_below Ho0.out hb); have n_b := Aside0.mk (below_step (by repeat (first | (with_reducible first | exact HB.out | apply below_alloc | apply pw_below_drewN | apply below_drew1) | exact HB.out)) hb); clear HB BKb BKm HM Hal Hbs Hcs Hds Hps Hqs Hus Hvs Ho0; have BKb := n_BKb; have BKm := n_BKm; have HM := n_HM; have Hal := n_Hal; have Hbs := n_Hbs; have Hcs := n_Hcs; have Hds := n_Hds; have Hps := n_Hps; have Hqs := n_Hqs; have Hus := n_Hus; have Hvs := n_Hvs; have Ho0 := n_Ho0; have HB := n_b; clear hb n_b n_BKb n_BKm n_HM n_Hal n_Hbs n_Hcs n_Hds n_Hps n_Hqs n_Hus n_Hvs n_Ho0; (try clear hczBKb0 hczBKb1); have hczBKb0 : w_s0.cell? ⟨gb, 0, none⟩ = some (.int .i64 x) := (blk_cell BKb.out 0).trans rfl; have hczBKb1 : w_s0.cell? ⟨gb, 1, none⟩ = some (.int .i64 y) := (blk_cell BKb.out 1).trans rfl; (try clear hczBKm0 hczBKm1); have hczBKm0 : w_s0.cell? ⟨gm, 0, none⟩ = some (.int .i64 x) := (blk_cell BKm.out 0).trans rfl; have hczBKm1 : w_s0.cell? ⟨gm, 1, none⟩ = some (.int .i64 y) := (blk_cell BKm.out 1).trans rfl) | ((with_reducible refine gate_callee (f := 28) rfl ?_); (with_reducible refine gate_dst (N := 107) rfl ?_); (refine gate_guard (by rfl) ?_; dsimp only); refine goesL_ (some 107) rfl rfl Try.func28 (by kernel_rfl) rfl #[.slice Acs cs.length ccs] rfl (by (try simp only [List.map_toArray, List.map_cons, List.map_nil]); first | done | rfl) ?_; (with_reducible refine (ownC k cs ds _ _ _ ?s1 Hcsc.out H13.out).mono ?_); (case s1 => exact Hcs.out); rintro e_ w_o1 ⟨Ao1, co1, rfl, hcl, hCl, hb⟩; refine ⟨_, rfl, ?_⟩; have n_BKb := Aside0.mk (blk_below BKb.out hb); have n_BKm := Aside0.mk (blk_below BKm.out hb); have n_HM := Aside0.mk (Kd.C_below HM.out hb); have n_Hal := Aside0.mk (Kd.C_below Hal.out hb); have n_Hbs := Aside0.mk (Kd.C_below Hbs.out hb); have n_Hcs := Aside0.mk (Kd.C_below Hcs.out hb); have n_Hds := Aside0.mk (Kd.C_below Hds.out hb); have n_Hps := Aside0.mk (Kd.C_below Hps.out hb); have n_Hqs := Aside0.mk (Kd.C_below Hqs.out hb); have n_Hus := Aside0.mk (Kd.C_below Hus.out hb); have n_Hvs := Aside0.mk (Kd.C_below Hvs.out hb); have n_Ho0 := Aside0.mk (Kd.C_below Ho0.out hb); have n_b := Aside0.mk (below_step (by repeat (first | (with_reducible first | exact HB.out | apply below_alloc | apply pw_below_drewN | apply below_drew1) | exact HB.out)) hb); clear HB BKb BKm HM Hal Hbs Hcs Hds Hps Hqs Hus Hvs Ho0; have BKb := n_BKb; have BKm := n_BKm; have HM := n_HM; have Hal := n_Hal; have Hbs := n_Hbs; have Hcs := n_Hcs; have Hds := n_Hds; have Hps := n_Hps; have Hqs := n_Hqs; have Hus := n_Hus; have Hvs := n_Hvs; have Ho0 := n_Ho0; have HB := n_b; clear hb n_b n_BKb n_BKm n_HM n_Hal n_Hbs n_Hcs n_Hds n_Hps n_Hqs n_Hus n_Hvs n_Ho0; (try clear hczBKb0 hczBKb1); have hczBKb0 : w_o1.cell? ⟨gb, 0, none⟩ = some (.int .i64 x) := (blk_cell BKb.out 0).trans rfl; have hczBKb1 : w_o1.cell? ⟨gb, 1, none⟩ = some (.int .i64 y) := (blk_cell BKb.out 1).trans rfl; (try clear hczBKm0 hczBKm1); have hczBKm0 : w_o1.cell? ⟨gm, 0, none⟩ = some (.int .i64 x) := (blk_cell BKm.out 0).trans rfl; have hczBKm1 : w_o1.cell? ⟨gm, 1, none⟩ = some (.int .i64 y) := (blk_cell BKm.out 1).trans rfl; have Ho1 := Aside0.mk hCl; clear hCl; have Ho1c := Aside0.mk hcl; clear hcl) | ((with_reducible refine gate_callee (f := 39) rfl ?_); (with_reducible refine gate_dst (N := 109) rfl ?_); (refine gate_guard (by rfl) ?_; dsimp only); refine goesL_ (some 109) rfl rfl Try.func39 (by kernel_rfl) rfl #[.slice Ao1 ds.length co1, .slice Ads ds.length cds] rfl (by (try simp only [List.map_toArray, List.map_cons, List.map_nil]); first | done | rfl) ?_; (with_reducible refine (sameRC ds _ _ _ _ _ ?s1 Ho1c.out ?s2 Hdsc.out L2.out).mono ?_); (case s1 => exact Ho1.out); (case s2 => exact Hds.out); rintro e_ w_s1 ⟨rfl, hb⟩; refine ⟨_, rfl, ?_⟩; have n_BKb := Aside0.mk (blk_below BKb.out hb); have n_BKm := Aside0.mk (blk_below BKm.out hb); have n_HM := Aside0.mk (Kd.C_below HM.out hb); have n_Hal := Aside0.mk (Kd.C_below Hal.out hb); have n_Hbs := Aside0.mk (Kd.C_below Hbs.out hb); have n_Hcs := Aside0.mk (Kd.C_below Hcs.out hb); have n_Hds := Aside0.mk (Kd.C_below Hds.out hb); have n_Hps := Aside0.mk (Kd.C_below Hps.out hb); have n_Hqs := Aside0.mk (Kd.C_below Hqs.out hb); have n_Hus := Aside0.mk (Kd.C_below Hus.out hb); have n_Hvs := Aside0.mk (Kd.C_below Hvs.out hb); have n_Ho0 := Aside0.mk (Kd.C_below Ho0.out hb); have n_Ho1 := Aside0.mk (Kd.C_below Ho1.out hb); have n_b := Aside0.mk (below_step (by repeat (first | (with_reducible first | exact HB.out | apply below_alloc | apply pw_below_drewN | apply below_drew1) | exact HB.out)) hb); clear HB BKb BKm HM Hal Hbs Hcs Hds Hps Hqs Hus Hvs Ho0 Ho1; have BKb := n_BKb; have BKm := n_BKm; have HM := n_HM; have Hal := n_Hal; have Hbs := n_Hbs; have Hcs := n_Hcs; have Hds := n_Hds; have Hps := n_Hps; have Hqs := n_Hqs; have Hus := n_Hus; have Hvs := n_Hvs; have Ho0 := n_Ho0; have Ho1 := n_Ho1; have HB := n_b; clear hb n_b n_BKb n_BKm n_HM n_Hal n_Hbs n_Hcs n_Hds n_Hps n_Hqs n_Hus n_Hvs n_Ho0 n_Ho1; (try clear hczBKb0 hczBKb1); have hczBKb0 : w_s1.cell? ⟨gb, 0, none⟩ = some (.int .i64 x) := (blk_cell BKb.out 0).trans rfl; have hczBKb1 : w_s1.cell? ⟨gb, 1, none⟩ = some (.int .i64 y) := (blk_cell BKb.out 1).trans rfl; (try clear hczBKm0 hczBKm1); have hczBKm0 : w_s1.cell? ⟨gm, 0, none⟩ = some (.int .i64 x) := (blk_cell BKm.out 0).trans rfl; have hczBKm1 : w_s1.cell? ⟨gm, 1, none⟩ = some (.int .i64 y) := (blk_cell BKm.out 1).trans rfl) | ((with_reducible refine gate_callee (f := 28) rfl ?_); (with_reducible refine gate_dst (N := 118) rfl ?_); (refine gate_guard (by rfl) ?_; dsimp only); refine goesL_ (some 118) rfl rfl Try.func28 (by kernel_rfl) rfl #[.slice Aps ps.length cps] rfl (by (try simp only [List.map_toArray, List.map_cons, List.map_nil]); first | done | rfl) ?_; (with_reducible refine (ownC k ps qs _ _ _ ?s1 Hpsc.out H14.out).mono ?_); (case s1 => exact Hps.out); rintro e_ w_o2 ⟨Ao2, co2, rfl, hcl, hCl, hb⟩; refine ⟨_, rfl, ?_⟩; have n_BKb := Aside0.mk (blk_below BKb.out hb); have n_BKm := Aside0.mk (blk_below BKm.out hb); have n_HM := Aside0.mk (Kd.C_below HM.out hb); have n_Hal := Aside0.mk (Kd.C_below Hal.out hb); have n_Hbs := Aside0.mk (Kd.C_below Hbs.out hb); have n_Hcs := Aside0.mk (Kd.C_below Hcs.out hb); have n_Hds := Aside0.mk (Kd.C_below Hds.out hb); have n_Hps := Aside0.mk (Kd.C_below Hps.out hb); have n_Hqs := Aside0.mk (Kd.C_below Hqs.out hb); have n_Hus := Aside0.mk (Kd.C_below Hus.out hb); have n_Hvs := Aside0.mk (Kd.C_below Hvs.out hb); have n_Ho0 := Aside0.mk (Kd.C_below Ho0.out hb); have n_Ho1 := Aside0.mk (Kd.C_below Ho1.out hb); have n_b := Aside0.mk (below_step (by repeat (first | (with_reducible first | exact HB.out | apply below_alloc | apply pw_below_drewN | apply below_drew1) | exact HB.out)) hb); clear HB BKb BKm HM Hal Hbs Hcs Hds Hps Hqs Hus Hvs Ho0 Ho1; have BKb := n_BKb; have BKm := n_BKm; have HM := n_HM; have Hal := n_Hal; have Hbs := n_Hbs; have Hcs := n_Hcs; have Hds := n_Hds; have Hps := n_Hps; have Hqs := n_Hqs; have Hus := n_Hus; have Hvs := n_Hvs; have Ho0 := n_Ho0; have Ho1 := n_Ho1; have HB := n_b; clear hb n_b n_BKb n_BKm n_HM n_Hal n_Hbs n_Hcs n_Hds n_Hps n_Hqs n_Hus n_Hvs n_Ho0 n_Ho1; (try clear hczBKb0 hczBKb1); have hczBKb0 : w_o2.cell? ⟨gb, 0, none⟩ = some (.int .i64 x) := (blk_cell BKb.out 0).trans rfl; have hczBKb1 : w_o2.cell? ⟨gb, 1, none⟩ = some (.int .i64 y) := (blk_cell BKb.out 1).trans rfl; (try clear hczBKm0 hczBKm1); have hczBKm0 : w_o2.cell? ⟨gm, 0, none⟩ = some (.int .i64 x) := (blk_cell BKm.out 0).trans rfl; have hczBKm1 : w_o2.cell? ⟨gm, 1, none⟩ = some (.int .i64 y) := (blk_cell BKm.out 1).trans rfl; have Ho2 := Aside0.mk hCl; clear hCl; have Ho2c := Aside0.mk hcl; clear hcl) | ((with_reducible refine gate_callee (f := 39) rfl ?_); (with_reducible refine gate_dst (N := 120) rfl ?_); (refine gate_guard (by rfl) ?_; dsimp only); refine goesL_ (some 120) rfl rfl Try.func39 (by kernel_rfl) rfl #[.slice Ao2 qs.length co2, .slice Aqs qs.length cqs] rfl (by (try simp only [List.map_toArray, List.map_cons, List.map_nil]); first | done | rfl) ?_; (with_reducible refine (sameRC qs _ _ _ _ _ ?s1 Ho2c.out ?s2 Hqsc.out L3.out).mono ?_); (case s1 => exact Ho2.out); (case s2 => exact Hqs.out); rintro e_ w_s2 ⟨rfl, hb⟩; refine ⟨_, rfl, ?_⟩; have n_BKb := Aside0.mk (blk_below BKb.out hb); have n_BKm := Aside0.mk (blk_below BKm.out hb); have n_HM := Aside0.mk (Kd.C_below HM.out hb); have n_Hal := Aside0.mk (Kd.C_below Hal.out hb); have n_Hbs := Aside0.mk (Kd.C_below Hbs.out hb); have n_Hcs := Aside0.mk (Kd.C_below Hcs.out hb); have n_Hds := Aside0.mk (Kd.C_below Hds.out hb); have n_Hps := Aside0.mk (Kd.C_below Hps.out hb); have n_Hqs := Aside0.mk (Kd.C_below Hqs.out hb); have n_Hus := Aside0.mk (Kd.C_below Hus.out hb); have n_Hvs := Aside0.mk (Kd.C_below Hvs.out hb); have n_Ho0 := Aside0.mk (Kd.C_below Ho0.out hb); have n_Ho1 := Aside0.mk (Kd.C_below Ho1.out hb); have n_Ho2 := Aside0.mk (Kd.C_below Ho2.out hb); have n_b := Aside0.mk (below_step (by repeat (first | (with_reducible first | exact HB.out | apply below_alloc | apply pw_below_drewN | apply below_drew1) | exact HB.out)) hb); clear HB BKb BKm HM Hal Hbs Hcs Hds Hps Hqs Hus Hvs Ho0 Ho1 Ho2; have BKb := n_BKb; have BKm := n_BKm; have HM := n_HM; have Hal := n_Hal; have Hbs := n_Hbs; have Hcs := n_Hcs; have Hds := n_Hds; have Hps := n_Hps; have Hqs := n_Hqs; have Hus := n_Hus; have Hvs := n_Hvs; have Ho0 := n_Ho0; have Ho1 := n_Ho1; have Ho2 := n_Ho2; have HB := n_b; clear hb n_b n_BKb n_BKm n_HM n_Hal n_Hbs n_Hcs n_Hds n_Hps n_Hqs n_Hus n_Hvs n_Ho0 n_Ho1 n_Ho2; (try clear hczBKb0 hczBKb1); have hczBKb0 : w_s2.cell? ⟨gb, 0, none⟩ = some (.int .i64 x) := (blk_cell BKb.out 0).trans rfl; have hczBKb1 : w_s2.cell? ⟨gb, 1, none⟩ = some (.int .i64 y) := (blk_cell BKb.out 1).trans rfl; (try clear hczBKm0 hczBKm1); have hczBKm0 : w_s2.cell? ⟨gm, 0, none⟩ = some (.int .i64 x) := (blk_cell BKm.out 0).trans rfl; have hczBKm1 : w_s2.cell? ⟨gm, 1, none⟩ = some (.int .i64 y) := (blk_cell BKm.out 1).trans rfl) | ((with_reducible refine gate_callee (f := 28) rfl ?_); (with_reducible refine gate_dst (N := 129) rfl ?_); (refine gate_guard (by rfl) ?_; dsimp only); refine goesL_ (some 129) rfl rfl Try.func28 (by kernel_rfl) rfl #[.slice Aus us.length cus] rfl (by (try simp only [List.map_toArray, List.map_cons, List.map_nil]); first | done | rfl) ?_; (with_reducible refine (ownC k us vs _ _ _ ?s1 Husc.out H15.out).mono ?_); (case s1 => exact Hus.out); rintro e_ w_o3 ⟨Ao3, co3, rfl, hcl, hCl, hb⟩; refine ⟨_, rfl, ?_⟩; have n_BKb := Aside0.mk (blk_below BKb.out hb); have n_BKm := Aside0.mk (blk_below BKm.out hb); have n_HM := Aside0.mk (Kd.C_below HM.out hb); have n_Hal := Aside0.mk (Kd.C_below Hal.out hb); have n_Hbs := Aside0.mk (Kd.C_below Hbs.out hb); have n_Hcs := Aside0.mk (Kd.C_below Hcs.out hb); have n_Hds := Aside0.mk (Kd.C_below Hds.out hb); have n_Hps := Aside0.mk (Kd.C_below Hps.out hb); have n_Hqs := Aside0.mk (Kd.C_below Hqs.out hb); have n_Hus := Aside0.mk (Kd.C_below Hus.out hb); have n_Hvs := Aside0.mk (Kd.C_below Hvs.out hb); have n_Ho0 := Aside0.mk (Kd.C_below Ho0.out hb); have n_Ho1 := Aside0.mk (Kd.C_below Ho1.out hb); have n_Ho2 := Aside0.mk (Kd.C_below Ho2.out hb); have n_b := Aside0.mk (below_step (by repeat (first | (with_reducible first | exact HB.out | apply below_alloc | apply pw_below_drewN | apply below_drew1) | exact HB.out)) hb); clear HB BKb BKm HM Hal Hbs Hcs Hds Hps Hqs Hus Hvs Ho0 Ho1 Ho2; have BKb := n_BKb; have BKm := n_BKm; have HM := n_HM; have Hal := n_Hal; have Hbs := n_Hbs; have Hcs := n_Hcs; have Hds := n_Hds; have Hps := n_Hps; have Hqs := n_Hqs; have Hus := n_Hus; have Hvs := n_Hvs; have Ho0 := n_Ho0; have Ho1 := n_Ho1; have Ho2 := n_Ho2; have HB := n_b; clear hb n_b n_BKb n_BKm n_HM n_Hal n_Hbs n_Hcs n_Hds n_Hps n_Hqs n_Hus n_Hvs n_Ho0 n_Ho1 n_Ho2; (try clear hczBKb0 hczBKb1); have hczBKb0 : w_o3.cell? ⟨gb, 0, none⟩ = some (.int .i64 x) := (blk_cell BKb.out 0).trans rfl; have hczBKb1 : w_o3.cell? ⟨gb, 1, none⟩ = some (.int .i64 y) := (blk_cell BKb.out 1).trans rfl; (try clear hczBKm0 hczBKm1); have hczBKm0 : w_o3.cell? ⟨gm, 0, none⟩ = some (.int .i64 x) := (blk_cell BKm.out 0).trans rfl; have hczBKm1 : w_o3.cell? ⟨gm, 1, none⟩ = some (.int .i64 y) := (blk_cell BKm.out 1).trans rfl; have Ho3 := Aside0.mk hCl; clear hCl; have Ho3c := Aside0.mk hcl; clear hcl) | ((with_reducible refine gate_callee (f := 39) rfl ?_); (with_reducible refine gate_dst (N := 131) rfl ?_); (refine gate_guard (by rfl) ?_; dsimp only); refine goesL_ (some 131) rfl rfl Try.func39 (by kernel_rfl) rfl #[.slice Ao3 vs.length co3, .slice Avs vs.length cvs] rfl (by (try simp only [List.map_toArray, List.map_cons, List.map_nil]); first | done | rfl) ?_; (with_reducible refine (sameRC vs _ _ _ _ _ ?s1 Ho3c.out ?s2 Hvsc.out L4.out).mono ?_); (case s1 => exact Ho3.out); (case s2 => exact Hvs.out); rintro e_ w_s3 ⟨rfl, hb⟩; refine ⟨_, rfl, ?_⟩; have n_BKb := Aside0.mk (blk_below BKb.out hb); have n_BKm := Aside0.mk (blk_below BKm.out hb); have n_HM := Aside0.mk (Kd.C_below HM.out hb); have n_Hal := Aside0.mk (Kd.C_below Hal.out hb); have n_Hbs := Aside0.mk (Kd.C_below Hbs.out hb); have n_Hcs := Aside0.mk (Kd.C_below Hcs.out hb); have n_Hds := Aside0.mk (Kd.C_below Hds.out hb); have n_Hps := Aside0.mk (Kd.C_below Hps.out hb); have n_Hqs := Aside0.mk (Kd.C_below Hqs.out hb); have n_Hus := Aside0.mk (Kd.C_below Hus.out hb); have n_Hvs := Aside0.mk (Kd.C_below Hvs.out hb); have n_Ho0 := Aside0.mk (Kd.C_below Ho0.out hb); have n_Ho1 := Aside0.mk (Kd.C_below Ho1.out hb); have n_Ho2 := Aside0.mk (Kd.C_below Ho2.out hb); have n_Ho3 := Aside0.mk (Kd.C_below Ho3.out hb); have n_b := Aside0.mk (below_step (by repeat (first | (with_reducible first | exact HB.out | apply below_alloc | apply pw_below_drewN | apply below_drew1) | exact HB.out)) hb); clear HB BKb BKm HM Hal Hbs Hcs Hds Hps Hqs Hus Hvs Ho0 Ho1 Ho2 Ho3; have BKb := n_BKb; have BKm := n_BKm; have HM := n_HM; have Hal := n_Hal; have Hbs := n_Hbs; have Hcs := n_Hcs; have Hds := n_Hds; have Hps := n_Hps; have Hqs := n_Hqs; have Hus := n_Hus; have Hvs := n_Hvs; have Ho0 := n_Ho0; have Ho1 := n_Ho1; have Ho2 := n_Ho2; have Ho3 := n_Ho3; have HB := n_b; clear hb n_b n_BKb n_BKm n_HM n_Hal n_Hbs n_Hcs n_Hds n_Hps n_Hqs n_Hus n_Hvs n_Ho0 n_Ho1 n_Ho2 n_Ho3; (try clear hczBKb0 hczBKb1); have hczBKb0 : w_s3.cell? ⟨gb, 0, none⟩ = some (.int .i64 x) := (blk_cell BKb.out 0).trans rfl; have hczBKb1 : w_s3.cell? ⟨gb, 1, none⟩ = some (.int .i64 y) := (blk_cell BKb.out 1).trans rfl; (try clear hczBKm0 hczBKm1); have hczBKm0 : w_s3.cell? ⟨gm, 0, none⟩ = some (.int .i64 x) := (blk_cell BKm.out 0).trans rfl; have hczBKm1 : w_s3.cell? ⟨gm, 1, none⟩ = some (.int .i64 y) := (blk_cell BKm.out 1).trans rfl))
  go_ret
  exact ⟨by first | rfl | (simp; done) | (simp [*]; done), (by repeat (first | (with_reducible first | exact HB.out | apply below_alloc | apply pw_below_drewN | apply below_drew1) | exact HB.out))⟩
end Go.Proofs.Ytkfbmplhcigopaa.PPlo
namespace Go.Proofs.Ytkfbmplhcigopaa.PPlo
open Go.RowKit Go.Proofs.YtkfbmplhcigopaaW.PrintWords Go.Proofs.YtkfbmplhcigopaaW.PrintLast Go.Proofs.YtkfbmplhcigopaaW.PrintMore
theorem wf_amount {n : Int} (h : (Lit.int .i64 n).wf = true) : -9223372036854775808 ≤ n ∧ n ≤ 9223372036854775807 := by
  simp [Lit.wf] at h; exact h
theorem STAIRS_len (l : List Int) : (STAIRS l).1.length ≤ 1000 := by
  unfold STAIRS
  split
  · simp
  · split
    · show (st 0 0 l).length + 1 ≤ 1000
      rw [Dig.st_len]; omega
    · simp
theorem EACH_len (g : S38 → S38) (l : List S38) (x y : Int) : (EACH g l x y).1.length ≤ l.length := by
  unfold EACH
  split
  · split
    · simp
    · simp
  · simp
/-- PlotTells, of every column and point. -/
theorem tells (col : List Int) (l : List S38) (x y : Int) (A0 : Option Addr) (c0 : Nat) (A1 : Option Addr) (c1 : Nat) (w : World) (hC : Kd.C (Kd.int .i64) w A0 col.length col) (hc : col.length ≤ c0) (hL : Kd.C k38 w A1 l.length l) (hlc : l.length ≤ c1)
    (hwf : ∀ n ∈ col, -9223372036854775808 ≤ n ∧ n ≤ 9223372036854775807) :
    Calls Try.prog 8 #[.slice A0 col.length c0, .slice A1 l.length c1, .agg #[.int .i64 x, .int .i64 y]] w fun z w' => z = .returned (.bool true) ∧ Below w.heap.size w w' := by
  by_cases h0 : 1010 < col.length
  · exact tells_big1 col l x y A0 c0 A1 c1 w hC hc hL hlc h0
  · by_cases h : 1010 < l.length
    · exact tells_big2 col l x y A0 c0 A1 c1 w hC hc hL hlc h0 h
    · have e1 := STAIRS_len col
      have e2 := EACH_len (mulP ⟨x, y⟩) l x y
      have e3 := EACH_len (addP ⟨x, y⟩) l x y
      have e4 := EACH_len mirP l 0 0
      refine tells_walk 5000 col l x y A0 c0 A1 c1 w hC hc hL hlc h0 h (l.map cv) (STAIRS col).1 ((STAIRS col).1.map cv) (STAIRS col).2 (EACH (mulP ⟨x, y⟩) l x y).1 ((EACH (mulP ⟨x, y⟩) l x y).1.map cv) (EACH (mulP ⟨x, y⟩) l x y).2
        (EACH (addP ⟨x, y⟩) l x y).1 ((EACH (addP ⟨x, y⟩) l x y).1.map cv) (EACH (addP ⟨x, y⟩) l x y).2 (EACH mirP l 0 0).1 ((EACH mirP l 0 0).1.map cv) (EACH mirP l 0 0).2 (AREA l).1 (AREA l).2 ?_ ?_ ?_ ?_ ?_ ?_ ?_ ?_ ?_ ?_ ?_ ?_ ?_ ?_ ?_ ?_ ?_ ?_ ?_
      · exact own_is l (by omega) 5000 (by omega)
      · exact stairs_is col hwf 5000 (by omega)
      · exact Dig.rst_is col hwf 5000 (by omega)
      · exact times_is l x y 5000 (by omega)
      · exact rtimes_is l x y 5000 (by omega)
      · exact moved_is l x y 5000 (by omega)
      · exact rmoved_is l x y 5000 (by omega)
      · exact mirror_is l 5000 (by omega)
      · exact rmirror_is l 5000 (by omega)
      · exact area_is l 5000 (by omega)
      · exact rarea_is l 5000 (by omega)
      · exact own_is _ (by omega) 5000 (by omega)
      · exact own_is _ (by omega) 5000 (by omega)
      · exact own_is _ (by omega) 5000 (by omega)
      · exact own_is _ (by omega) 5000 (by omega)
      · rw [List.length_map]; omega
      · rw [List.length_map]; omega
      · rw [List.length_map]; omega
      · rw [List.length_map]; omega
end Go.Proofs.Ytkfbmplhcigopaa.PPlo
