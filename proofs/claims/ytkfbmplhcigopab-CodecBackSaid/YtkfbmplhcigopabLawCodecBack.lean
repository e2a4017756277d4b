/- Proved: there and back: numbers, commands and texts are those of their bytes; what bytes tell has these bytes. No condition of its own (the law asks for no more than 3000 bytes and 70 numbers). -/
import Derived.Test.YtkfbmplhcigopabRows
import Derived.Test.YtkfbmplhcigopabPCodF3
import Derived.Test.YtkfbmplhcigopabCodBack
import Derived.WalkKit
import Derived.ProofKit
import Derived.OpenShut
import Derived.ShutString
import Derived.ChangeOld
import Derived.Below
import Derived.SizedLaws
import Derived.Lib.SmallJoins
import Derived.SliceStrings
import Derived.Test.YtkfbmplhcigopabWSized
namespace Go.Proofs.Ytkfbmplhcigopab.codecBack
open Go.ChangeShapes Go.WideShapes Go.ChangeAt Go.RowKit Go.Joins
open Go.ChangeMaps (open_string shut_string)
open Go.Proofs.YtkfbmplhcigopabW.PrintWords Go.Proofs.YtkfbmplhcigopabW.PrintLast Go.Proofs.YtkfbmplhcigopabW.PrintMore
set_option linter.unusedVariables false
set_option linter.unusedSimpArgs false
theorem own : ownKnob Try.prog.godebug = none := by kernel_rfl
theorem laidOut : laidOutB Try.prog = true := by kernel_rfl
def IsRow (k : IntKind) (w : World) (a : Option Addr) (len cap : Nat) (zs : List Int) : Prop :=
  (a = none ∧ len = 0 ∧ cap = 0 ∧ zs = []) ∨
  ∃ x, a = some x ∧ len ≤ cap ∧ cap ≤ maxLen ∧ zs.length = cap ∧ (∀ i, i < zs.length → w.cell? (x.add i) = some (.int k (zs.getD i 0))) ∧ ∀ n ∈ zs, (Lit.int k n).wf = true
theorem cells24 : Try.prog.cellsOf 24 = 2 := by kernel_rfl
set_option maxRecDepth 100000 in
theorem lifted (os : Os) (started : os.Started) (H : Type) (enc : TypeId × Value → H) :
    ReturnsInHanded {} Try.checked os 3 .any (Rows.codecBackSpec.pre6 enc Try.prog Try.f3 Rows.codecBackRow.domain false) (Rows.codecBackSpec.post enc Try.prog Try.f3 false true false false) := by
  refine returnsInHanded_of_change_sized (C := Try.checked) own started (by kernel_rfl) Try.func3
    (ChangeSpec.witness6 (enc := enc) (C := Try.checked) false ⟨#[], #[.int .i64 0, .agg #[.int .i64 0, .slice none 0 0], .slice none 0 0, .string ByteArray.empty], []⟩ 8 (by kernel_rfl) (by kernel_rfl) (by kernel_rfl) (by kernel_rfl)) ?_
  intro W base args ds gs before hval0 hW hcnd hsz0 _
  have hsz : (DataW.weightsEach Try.prog (Try.f3.params.toList ++ Rows.codecBackSpec.plain.varTypes Try.prog) (ds ++ gs)).all (· ≤ reachBytes) = true := hsz0
  have hval : ∀ (j : Nat) t v, Try.f3.params[j]? = some t → args[j]? = some v → Value.okWide Try.prog W .any base t v := hval0
  have hW' := hW
  obtain ⟨p, q, hA0, hV, rfl, hfz, hnd⟩ := hW
  have hA : DataW.TrodAll enc Try.prog W 0 (fun _ => true) true Try.f3.params.toList args.toList ds p := hA0
  rw [Try.params3] at hA hval hsz
  obtain ⟨v0, vs0, d0, ds0, p0, q0, hargs, rfl, rfl, h0, r0⟩ := trodAll_cons hA
  obtain ⟨v1, vs1, d1, ds1, p1, q1, rfl, rfl, rfl, h1, r1⟩ := trodAll_cons r0
  obtain ⟨v2, vs2, d2, ds2, p2, q2, rfl, rfl, rfl, h2, r2⟩ := trodAll_cons r1
  obtain ⟨v3, vs3, d3, ds3, p3, q3, rfl, rfl, rfl, h3, r3⟩ := trodAll_cons r2
  obtain ⟨rfl, rfl, rfl⟩ := trodAll_nil r3
  obtain rfl : args = #[v0, v1, v2, v3] := by cases args; simp_all
  obtain ⟨rfl, rfl⟩ := trodVars_none hV
  obtain ⟨a0, rfl, rfl, rfl, w0⟩ := open_int Try.underlying2 (hval 0 2 v0 rfl rfl) h0
  have k1 := h1
  have lt1 : ∀ x ∈ p1, x.block < W.heap.size := by obtain ⟨m, hm⟩ := k1; exact DataW.trod_lt m _ _ _ hm
  obtain ⟨c1_0, c1_1, y1_0, y1_1, m1, e1, _, _, hy1_0, hy1_1⟩ := open_agg2 Try.underlying24 (by kernel_rfl) cells24 (hval 1 24 v1 rfl rfl) h1
  subst e1
  obtain ⟨a1_0, u1_0, _, w1_0⟩ := DataW.trod_int Try.underlying3 hy1_0
  simp at u1_0
  subst u1_0
  obtain ⟨a1, len1, cap1, z1, u1_1, w1⟩ : ∃ a len cap zs, c1_1 = .slice a len cap ∧ IsRow .i64 W a len cap zs := by
    rcases open_ints Try.underlying22 Try.underlying2 (by kernel_rfl) hy1_1 with ⟨hcs, _⟩ | ⟨x, l, c, zs, hcs, _, hl, hm, hz, _, hcell, hwz⟩
    · simp at hcs
      exact ⟨none, 0, 0, [], hcs, .inl ⟨rfl, rfl, rfl, rfl⟩⟩
    · simp at hcs
      exact ⟨some x, l, c, zs, hcs, .inr ⟨_, rfl, hl, hm, by simpa using hz, hcell, hwz⟩⟩
  subst u1_1
  obtain ⟨l1, hlen1, hr1, hm1, hw1, hc1⟩ := ReadsInt.ofRowC w1
  subst hlen1
  have hK1 := Kd.C_of_reads (enc := Value.int .i64) (d := (0 : Int)) (h1 := fun _ => rfl) hr1
  have k2 := h2
  have lt2 : ∀ x ∈ p2, x.block < W.heap.size := by obtain ⟨m, hm⟩ := k2; exact DataW.trod_lt m _ _ _ hm
  obtain ⟨a2, len2, cap2, rfl⟩ := okWide_slice Try.underlying25 (hval 2 25 v2 rfl rfl)
  obtain ⟨l2, hlen2, hr2, hsz2, hn2, hc2⟩ : ∃ l : List ByteArray, len2 = l.length ∧ ReadsOf Value.string ByteArray.empty W a2 l.length l ∧ (∀ s ∈ l, s.size ≤ 140737488355328) ∧ l.length ≤ 140737488355328 ∧ l.length ≤ cap2 := by
    obtain ⟨fuel, hf⟩ := h2
    rcases open_strings Try.underlying25 Try.underlying9 (by kernel_rfl) hf with ⟨hcs, _⟩ | ⟨x, l, c, ss, hcs, _, hl, hm, hz, hx, hcell, _⟩
    · simp [Value.cells] at hcs
      obtain ⟨rfl, rfl, rfl⟩ := hcs
      exact ⟨[], rfl, ⟨rfl, by simp, fun h => absurd h (by simp)⟩, (fun s hs => by cases hs), by simp, by simp⟩
    · simp [Value.cells] at hcs
      obtain ⟨rfl, rfl, rfl⟩ := hcs
      have hz2 : ss.length = cap2 := by simpa using hz
      have hlt : (ss.take len2).length = len2 := by rw [List.length_take]; omega
      obtain ⟨hx1, _⟩ := Prod.mk.inj hx
      have hwt : ∀ n ∈ DataW.weights Try.prog 25 d2, n ≤ reachBytes := fun n hn => by
        have := List.all_eq_true.1 hsz n (DataW.weights_mem_each (j := 2) (t := 25) rfl rfl n hn)
        simpa using this
      rw [hx1] at hwt
      have hbytes : Try.prog.bytesOf 9 = 16 := by kernel_rfl
      have hwl := hwt (((strs (H := H) (ss.take len2)).length + (strs (H := H) (ss.drop len2)).length) * Try.prog.bytesOf 9) (by simp [DataW.weights, Try.underlying25])
      rw [hbytes] at hwl
      have hsl : (strs (H := H) (ss.take len2)).length = (ss.take len2).length := by simp [strs]
      have hws : ∀ s ∈ ss.take len2, s.size ≤ 140737488355328 := by
        intro s hs
        have hmem : s.data.toList.length ∈ DataW.weightsAll Try.prog 9 (strs (H := H) (ss.take len2)) := by
          have : ∀ m : List ByteArray, s ∈ m → s.data.toList.length ∈ DataW.weightsAll Try.prog 9 (strs (H := H) m) := by
            intro m
            induction m with
            | nil => intro h; cases h
            | cons a m ih =>
              intro h
              rcases List.mem_cons.1 h with e | e
              · subst e; simp [strs, DataW.weightsAll, DataW.weights]
              · have := ih e; simp only [strs, List.map_cons, DataW.weightsAll, List.mem_append]; exact Or.inr this
          exact this _ hs
        have := hwt s.data.toList.length (by simp only [DataW.weights, Try.underlying25]; exact List.mem_cons_of_mem _ (List.mem_append_left _ hmem))
        rw [data_length] at this
        have h2 : reachBytes = 140737488351232 := rfl
        omega
      have h2 : reachBytes = 140737488351232 := rfl
      refine ⟨ss.take len2, hlt.symm, ⟨rfl, ?_, fun hp => ⟨x, rfl, fun j hj => ?_⟩⟩, hws, ?_, by omega⟩
      · omega
      · rw [hcell j (by omega)]; simp [List.getD_eq_getElem?_getD, show j < len2 by omega]
      · omega
  subst hlen2
  have hK2 := Kd.C_of_reads (enc := Value.string) (d := ByteArray.empty) (h1 := fun _ => rfl) hr2
  obtain ⟨a3, rfl, rfl, rfl, y3⟩ := open_string Try.underlying9 (hval 3 9 v3 rfl rfl) h3
  have w3 : a3.size ≤ 140737488351232 := by
    have z := sized_string hsz (j := 3) (t := 9) rfl rfl
    rw [Array.length_toList] at z
    exact z
  clear hA0 hval0 hsz0 hsz
  refine (PCod.quitrentlaw08_CodecBack.calls 6000 a0 a1_0 a1 cap1 l1 a2 cap2 l2 a3 true W hK1 hc1 hK2 hc2 (PCod.back a0 a1_0 l1 l2 a3 w0 (fun n hn => PCod.wf_bd (hw1 n hn)) hn2 hsz2 (by omega))).mono fun e W' ⟨he, bel⟩ => ?_
  subst he
  exact ⟨_, rfl, _, _, _, [], _, [], hW', trodAll_mk1 (shut_bool Try.underlying4 _), (trodAll_cons_mk (shut_int Try.underlying2 w0) (trodAll_cons_mk (Below.trod laidOut (by kernel_rfl) (of_decide_eq_true (by kernel_rfl)) k1 bel lt1) (trodAll_cons_mk (Below.trod laidOut (by kernel_rfl) (of_decide_eq_true (by kernel_rfl)) k2 bel lt2) (trodAll_cons_mk (shut_string Try.underlying9 y3) trodAll_mk0)))), rfl, bel.frame _, fun h => by cases h⟩
theorem over : Rows.codecBackRow.holds Try.pinned (OpenSpec.ofChange Rows.codecBackSpec) :=
  OpenClaim.holds_of_wide 3 Try.f3 rfl rfl rfl rfl rfl rfl rfl ⟨rfl, rfl, rfl, rfl, rfl⟩ rfl rfl rfl rfl rfl (by kernel_rfl) Try.func3 (by kernel_rfl)
    (of_decide_eq_true (by kernel_rfl)) (by unfold Func.isWrapper; first | (rw [if_pos (by decide +kernel)]; kernel_rfl) | (rw [if_neg (by decide +kernel)]; exact ⟨rfl, rfl⟩))
    (fun os started H enc _ => lifted os started H enc)
theorem proved : Rows.CodecBackSaid := over
#print axioms proved
end Go.Proofs.Ytkfbmplhcigopab.codecBack
namespace Go.Proofs.Ytkfbmplhcigopab
/-- The row, under a short name, for the claim. -/
theorem codecBack_holds : Rows.CodecBackSaid := codecBack.proved
end Go.Proofs.Ytkfbmplhcigopab
