import Derived.Deep.SlicePairs
import Derived.ChangeArms
import Derived.Test.YtkfbmplhcigopaaPPlox0
/- A slice of points among the arguments, opened as a list of points. -/
set_option linter.unusedVariables false
set_option linter.unusedSimpArgs false
namespace Go.Proofs.Ytkfbmplhcigopaa.PPlo
open Go.ChangeShapes Go.WideShapes Go.RowKit Go.Proofs.YtkfbmplhcigopaaW.PrintWords Go.Proofs.YtkfbmplhcigopaaW.PrintLast Go.Proofs.YtkfbmplhcigopaaW.PrintMore

def numOf : Value → Int
  | .int _ n => n
  | _ => 0

theorem open_pts {H : Type} {enc : TypeId × Value → H} {W : World} {base : Nat} {spare : Nat → Bool} {held : Bool} {fuel : Nat} {cs : List Value} {x : DataW H × List MemPlace}
    (h : DataW.trod enc Try.prog W base spare held fuel 36 cs = some x) :
    ∃ (A : Option Addr) (c : Nat) (l : List S38), cs = [.slice A l.length c] ∧ Kd.C k38 W A l.length l ∧ l.length ≤ c ∧ l.length ≤ maxLen ∧
      (∀ p ∈ l, (Lit.int .i64 p.f0).wf = true ∧ (Lit.int .i64 p.f1).wf = true) := by
  rcases Go.Deep.open_slice_pairs Try.underlying36 Try.underlying38 (by kernel_rfl) rfl rfl (by kernel_rfl) (by kernel_rfl) h with ⟨rfl, _⟩ | ⟨a, len, cap, m, n, V0, V1, D0, D1, P0, P1, rfl, _, hl, hm, hmm, _, hx⟩
  · exact ⟨none, 0, [], rfl, ⟨rfl, by simp, fun h => absurd h (by simp)⟩, by simp, by simp, fun p hp => by cases hp⟩
  · have hlm : len ≤ m := by rw [hmm]; split <;> omega
    have each : ∀ i, i < len → ∃ n0 n1, V0 i = .int .i64 n0 ∧ V1 i = .int .i64 n1 ∧ (Lit.int .i64 n0).wf = true ∧ (Lit.int .i64 n1).wf = true ∧ W.cell? (a.add (i * 2)) = some (.int .i64 n0) ∧ W.cell? (a.add (i * 2 + 1)) = some (.int .i64 n1) := by
      intro i hi
      obtain ⟨h0, h1, h2, h3⟩ := hx i (by omega)
      obtain ⟨n0, e0, _, w0⟩ := DataW.trod_int Try.underlying2 h2
      obtain ⟨n1, e1, _, w1⟩ := DataW.trod_int Try.underlying2 h3
      simp only [List.cons.injEq, and_true] at e0 e1
      rw [e0] at h0
      rw [e1] at h1
      exact ⟨n0, n1, e0, e1, w0, w1, h0, h1⟩
    have hlen : ((List.range len).map fun i => (⟨numOf (V0 i), numOf (V1 i)⟩ : S38)).length = len := by simp
    refine ⟨some a, cap, (List.range len).map fun i => ⟨numOf (V0 i), numOf (V1 i)⟩, by rw [hlen], ?_, by rw [hlen]; exact hl, by rw [hlen]; omega, ?_⟩
    · rw [hlen]
      refine ⟨hlen, ?_, fun _ => ⟨a, rfl, fun j p hp => ?_⟩⟩
      · have : maxLen ≤ 9223372036854775807 := by decide
        omega
      · have hj : j < len := by
          have := (List.getElem?_eq_some_iff.1 hp).1
          rw [hlen] at this; exact this
        obtain ⟨n0, n1, e0, e1, _, _, c0, c1⟩ := each j hj
        have hp' : p = ⟨n0, n1⟩ := by
          have : ((List.range len).map fun i => (⟨numOf (V0 i), numOf (V1 i)⟩ : S38))[j]? = some ⟨numOf (V0 j), numOf (V1 j)⟩ := by simp [hj]
          rw [this] at hp
          rw [← Option.some.inj hp, e0, e1]; rfl
        subst hp'
        refine ⟨[.int .i64 n0, .int .i64 n1], rfl, k38_mk W ⟨n0, n1⟩, fun i u hu => ?_⟩
        match i, hu with
        | 0, hu => cases hu; exact c0
        | 1, hu => cases hu; exact c1
        | i + 2, hu => simp at hu
    · intro p hp
      obtain ⟨i, hi, rfl⟩ := List.mem_map.1 hp
      obtain ⟨n0, n1, e0, e1, w0, w1, _, _⟩ := each i (by simpa using hi)
      rw [e0, e1]
      exact ⟨w0, w1⟩
end Go.Proofs.Ytkfbmplhcigopaa.PPlo
