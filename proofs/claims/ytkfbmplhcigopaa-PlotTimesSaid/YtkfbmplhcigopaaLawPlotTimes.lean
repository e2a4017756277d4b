/- Proved: times a point twice the area is as many times more as its X and Y by themselves, together; times two points it doesn't count which one is first. No condition of its own (the law asks for up to 50 points of numbers from -1000 to 1000, and two more, from -30 to 30). -/
import Derived.Test.YtkfbmplhcigopaaRows
import Derived.Test.YtkfbmplhcigopaaPPloF10
import Derived.Test.YtkfbmplhcigopaaPloT
import Derived.Test.YtkfbmplhcigopaaPts
import Derived.WalkKit
import Derived.ProofKit
import Derived.OpenShut
import Derived.ShutString
import Derived.ChangeOld
import Derived.Below
import Derived.SizedLaws
import Derived.Lib.SmallJoins
import Derived.SliceStrings
import Derived.Test.YtkfbmplhcigopaaWSized
namespace Go.Proofs.Ytkfbmplhcigopaa.plotTimes
open Go.ChangeShapes Go.WideShapes Go.ChangeAt Go.RowKit Go.Joins
open Go.ChangeMaps (open_string shut_string)
open Go.Proofs.YtkfbmplhcigopaaW.PrintWords Go.Proofs.YtkfbmplhcigopaaW.PrintLast Go.Proofs.YtkfbmplhcigopaaW.PrintMore
set_option linter.unusedVariables false
set_option linter.unusedSimpArgs false
theorem own : ownKnob Try.prog.godebug = none := by kernel_rfl
theorem laidOut : laidOutB Try.prog = true := by kernel_rfl
def IsRow (k : IntKind) (w : World) (a : Option Addr) (len cap : Nat) (zs : List Int) : Prop :=
  (a = none ∧ len = 0 ∧ cap = 0 ∧ zs = []) ∨
  ∃ x, a = some x ∧ len ≤ cap ∧ cap ≤ maxLen ∧ zs.length = cap ∧ (∀ i, i < zs.length → w.cell? (x.add i) = some (.int k (zs.getD i 0))) ∧ ∀ n ∈ zs, (Lit.int k n).wf = true
theorem cells38 : Try.prog.cellsOf 38 = 2 := by kernel_rfl
set_option maxRecDepth 100000 in
theorem lifted (os : Os) (started : os.Started) (H : Type) (enc : TypeId × Value → H) :
    ReturnsInHanded {} Try.checked os 10 .any (Rows.plotTimesSpec.pre6 enc Try.prog Try.f10 Rows.plotTimesRow.domain false) (Rows.plotTimesSpec.post enc Try.prog Try.f10 false true false false) := by
  refine returnsInHanded_of_change_sized (C := Try.checked) own started (by kernel_rfl) Try.func10
    (ChangeSpec.witness6 (enc := enc) (C := Try.checked) false ⟨#[], #[.slice none 0 0, .agg #[.int .i64 0, .int .i64 0], .agg #[.int .i64 0, .int .i64 0]], []⟩ 8 (by kernel_rfl) (by kernel_rfl) (by kernel_rfl) (by kernel_rfl)) ?_
  intro W base args ds gs before hval0 hW hcnd hsz0 _
  have hsz : (DataW.weightsEach Try.prog (Try.f10.params.toList ++ Rows.plotTimesSpec.plain.varTypes Try.prog) (ds ++ gs)).all (· ≤ reachBytes) = true := hsz0
  have hval : ∀ (j : Nat) t v, Try.f10.params[j]? = some t → args[j]? = some v → Value.okWide Try.prog W .any base t v := hval0
  have hW' := hW
  obtain ⟨p, q, hA0, hV, rfl, hfz, hnd⟩ := hW
  have hA : DataW.TrodAll enc Try.prog W 0 (fun _ => true) true Try.f10.params.toList args.toList ds p := hA0
  rw [Try.params10] at hA hval hsz
  obtain ⟨v0, vs0, d0, ds0, p0, q0, hargs, rfl, rfl, h0, r0⟩ := trodAll_cons hA
  obtain ⟨v1, vs1, d1, ds1, p1, q1, rfl, rfl, rfl, h1, r1⟩ := trodAll_cons r0
  obtain ⟨v2, vs2, d2, ds2, p2, q2, rfl, rfl, rfl, h2, r2⟩ := trodAll_cons r1
  obtain ⟨rfl, rfl, rfl⟩ := trodAll_nil r2
  obtain rfl : args = #[v0, v1, v2] := by cases args; simp_all
  obtain ⟨rfl, rfl⟩ := trodVars_none hV
  have k0 := h0
  have lt0 : ∀ x ∈ p0, x.block < W.heap.size := by obtain ⟨m, hm⟩ := k0; exact DataW.trod_lt m _ _ _ hm
  obtain ⟨a0, len0, cap0, rfl⟩ := okWide_slice Try.underlying36 (hval 0 36 v0 rfl rfl)
  obtain ⟨l0, hlen0, hK0, hc0, hw0⟩ : ∃ l : List PPlo.S38, len0 = l.length ∧ Kd.C PPlo.k38 W a0 l.length l ∧ l.length ≤ cap0 ∧ (l.length ≤ maxLen ∧ ∀ p ∈ l, (Lit.int .i64 p.f0).wf = true ∧ (Lit.int .i64 p.f1).wf = true) := by
    obtain ⟨fuel, hf⟩ := h0
    obtain ⟨A, c, l, hcs, hC, hl, hm, hw⟩ := PPlo.open_pts hf
    simp [Value.cells] at hcs
    obtain ⟨rfl, rfl, rfl⟩ := hcs
    exact ⟨l, rfl, hC, hl, hm, hw⟩
  subst hlen0
  have k1 := h1
  have lt1 : ∀ x ∈ p1, x.block < W.heap.size := by obtain ⟨m, hm⟩ := k1; exact DataW.trod_lt m _ _ _ hm
  obtain ⟨c1_0, c1_1, y1_0, y1_1, m1, e1, _, _, hy1_0, hy1_1⟩ := open_agg2 Try.underlying38 (by kernel_rfl) cells38 (hval 1 38 v1 rfl rfl) h1
  subst e1
  obtain ⟨a1_0, u1_0, _, w1_0⟩ := DataW.trod_int Try.underlying2 hy1_0
  simp at u1_0
  subst u1_0
  obtain ⟨a1_1, u1_1, _, w1_1⟩ := DataW.trod_int Try.underlying2 hy1_1
  simp at u1_1
  subst u1_1
  have k2 := h2
  have lt2 : ∀ x ∈ p2, x.block < W.heap.size := by obtain ⟨m, hm⟩ := k2; exact DataW.trod_lt m _ _ _ hm
  obtain ⟨c2_0, c2_1, y2_0, y2_1, m2, e2, _, _, hy2_0, hy2_1⟩ := open_agg2 Try.underlying38 (by kernel_rfl) cells38 (hval 2 38 v2 rfl rfl) h2
  subst e2
  obtain ⟨a2_0, u2_0, _, w2_0⟩ := DataW.trod_int Try.underlying2 hy2_0
  simp at u2_0
  subst u2_0
  obtain ⟨a2_1, u2_1, _, w2_1⟩ := DataW.trod_int Try.underlying2 hy2_1
  simp at u2_1
  subst u2_1
  clear hA0 hval0 hsz0 hsz
  refine (PPlo.quitrentlaw21_PlotTimes.calls 3000 a0 cap0 l0 a1_0 a1_1 a2_0 a2_1 true W hK0 hc0 (PPlo.plotTimes l0 a1_0 a1_1 a2_0 a2_1)).mono fun e W' ⟨he, bel⟩ => ?_
  subst he
  exact ⟨_, rfl, _, _, _, [], _, [], hW', trodAll_mk1 (shut_bool Try.underlying4 _), (trodAll_cons_mk (Below.trod laidOut (by kernel_rfl) (of_decide_eq_true (by kernel_rfl)) k0 bel lt0) (trodAll_cons_mk (Below.trod laidOut (by kernel_rfl) (of_decide_eq_true (by kernel_rfl)) k1 bel lt1) (trodAll_cons_mk (Below.trod laidOut (by kernel_rfl) (of_decide_eq_true (by kernel_rfl)) k2 bel lt2) trodAll_mk0))), rfl, bel.frame _, fun h => by cases h⟩
theorem over : Rows.plotTimesRow.holds Try.pinned (OpenSpec.ofChange Rows.plotTimesSpec) :=
  OpenClaim.holds_of_wide 10 Try.f10 rfl rfl rfl rfl rfl rfl rfl ⟨rfl, rfl, rfl, rfl, rfl⟩ rfl rfl rfl rfl rfl (by kernel_rfl) Try.func10 (by kernel_rfl)
    (of_decide_eq_true (by kernel_rfl)) (by unfold Func.isWrapper; first | (rw [if_pos (by decide +kernel)]; kernel_rfl) | (rw [if_neg (by decide +kernel)]; exact ⟨rfl, rfl⟩))
    (fun os started H enc _ => lifted os started H enc)
theorem proved : Rows.PlotTimesSaid := over
#print axioms proved
end Go.Proofs.Ytkfbmplhcigopaa.plotTimes
namespace Go.Proofs.Ytkfbmplhcigopaa
/-- The row, under a short name, for the claim. -/
theorem plotTimes_holds : Rows.PlotTimesSaid := plotTimes.proved
end Go.Proofs.Ytkfbmplhcigopaa
