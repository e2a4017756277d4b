/- Points as complex numbers: what the small functions of plot compute, bit for bit. -/
import Derived.Test.YtkfbmplhcigopaaPPlox0
import Derived.Test.YtkfbmplhcigopaaPPlox1
import Derived.Test.YtkfbmplhcigopaaFlt
namespace Go.Proofs.Ytkfbmplhcigopaa.PPlo
open Go.RowKit Go.Proofs.YtkfbmplhcigopaaW.PrintWords Go.Proofs.YtkfbmplhcigopaaW.PrintLast Go.Proofs.YtkfbmplhcigopaaW.PrintMore
set_option linter.unusedVariables false
set_option linter.unusedSimpArgs false
attribute [local go_sem high] eqA41
theorem run_neg_float_ {P : Program} (k : FloatKind) (b : Nat) (w : World) : (Op.unary .neg (.float k b)).run P w = .ok (.float k (Op.negFloat k b)) w := rfl
attribute [local go_sem] run_neg_float_
/-! ### plot_Point_plane: function 69 -/
def plot_Point_plane.f (x y : Int) : Option (Nat × Nat) := some (floatOfInt .f64 x, floatOfInt .f64 y)
set_option maxHeartbeats 8000000 in
set_option maxRecDepth 100000 in
theorem plot_Point_plane.calls (a0_0 : Int) (a0_1 : Int) (c : Nat × Nat) (w : World) (h : plot_Point_plane.f a0_0 a0_1 = some c) :
    Calls Try.prog 69 #[.agg #[.int .i64 a0_0, .int .i64 a0_1]] w fun e w' => e = .returned (.complex .f64 c.1 c.2) ∧ Below w.heap.size w w' := by
  have hu38 := Try.underlying38
  have hu110 := Try.underlying110
  have hu2 : (Try.prog.underlying 2).isSome = true := by rw [Try.underlying2]; rfl
  have HB := Aside0.mk (Below.refl w.heap.size w)
  obtain rfl := Option.some.inj h
  clear h
  go_enter Try.func69, Try.ntmps69
  go_wp2_with (first | ((with_reducible refine gate_dst (N := 1) rfl ?_); refine box_event ?hg (N := 1) ?hd (cs := #[.int .i64 a0_0, .int .i64 a0_1]) (t := 38) ?hr ?_; (case hd => rfl); (case hg => rfl); (case hr => first | (go_simp; done) | (go_simp; rfl)); intro gb1 hg w1 hbox hb; have n0_ := Aside0.mk (below_step (by repeat (first | (with_reducible first | exact HB.out | apply below_alloc | apply pw_below_drewN | apply below_drew1) | exact HB.out)) hb); have n1_ := Aside0.mk (hbox); have n2_ := Aside0.mk ((by rw [hg]; exact (below_size (by repeat (first | (with_reducible first | exact HB.out | apply below_alloc | apply pw_below_drewN | apply below_drew1) | exact HB.out))) : w.heap.size ≤ gb1)); have n3_ := Aside0.mk ((by rw [hg]; exact (below_size (by repeat (first | (with_reducible first | exact HB.out | apply below_alloc | apply pw_below_drewN | apply below_drew1) | exact HB.out))) : w.heap.size ≤ gb1)); clear HB; have HB := n0_; have BK1 := n1_; have GW1 := n2_; have GE1 := n3_; clear n0_ n1_ n2_ n3_; clear hb hbox hg; have hcz1_0 : w1.cell? ⟨gb1, 0, none⟩ = some (.int .i64 a0_0) := (blk_cell BK1.out 0).trans rfl; have hcz1_1 : w1.cell? ⟨gb1, 1, none⟩ = some (.int .i64 a0_1) := (blk_cell BK1.out 1).trans rfl))
  go_ret
  exact ⟨rfl, by repeat (first | (with_reducible first | exact HB.out | apply below_alloc | apply pw_below_drewN | apply below_drew1 | refine below_set ?_ GE1.out) | exact HB.out)⟩

/-! ### plot_turned: function 73 -/
def plot_turned.f (c : Nat × Nat) : Option (Nat × Nat) := some (c.1, Op.negFloat .f64 c.2)
set_option maxHeartbeats 8000000 in
set_option maxRecDepth 100000 in
theorem plot_turned.callsB (c d : Nat × Nat) (w : World) (h : plot_turned.f c = some d) :
    Calls Try.prog 73 #[.complex .f64 c.1 c.2] w fun e w' => e = .returned (.complex .f64 d.1 d.2) ∧ Below w.heap.size w w' := by
  have HB := Aside0.mk (Below.refl w.heap.size w)
  obtain rfl := Option.some.inj h
  clear h
  go_enter Try.func73, Try.ntmps73
  go_wp2
  go_ret
  exact ⟨rfl, by repeat (first | (with_reducible first | exact HB.out | apply below_alloc | apply pw_below_drewN | apply below_drew1) | exact HB.out)⟩

set_option maxHeartbeats 8000000 in
set_option maxRecDepth 100000 in
theorem plot_turned.calls (c d : Nat × Nat) (w : World) (h : plot_turned.f c = some d) :
    Calls Try.prog 73 #[.complex .f64 c.1 c.2] w fun e w' => e = .returned (.complex .f64 d.1 d.2) ∧ Drawn0 w w' := by
  obtain rfl := Option.some.inj h
  clear h
  go_enter Try.func73, Try.ntmps73
  go_wp2
  go_ret
  exact ⟨rfl, by repeat (first | exact Drawn0.refl _ | apply Drawn0.step)⟩

end Go.Proofs.Ytkfbmplhcigopaa.PPlo
