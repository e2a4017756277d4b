/- Proved: texts as one, and the texts of any bytes, or that there are none, are as the document says. No condition of its own (the law asks for no more than 3000 bytes). -/
import Derived.Test.YtkfbmplhcigopaaRows
import Derived.Test.YtkfbmplhcigopaaPCodF13
import Derived.Test.YtkfbmplhcigopaaCodLists
import Derived.WalkKit
import Derived.ProofKit
import Derived.OpenShut
import Derived.ShutString
import Derived.ChangeOld
import Derived.Below
import Derived.SizedLaws
import Derived.Lib.SmallJoins
import Derived.SliceStrings
import Derived.Test.YtkfbmplhcigopaaWSized
namespace Go.Proofs.Ytkfbmplhcigopaa.codecLists
open Go.ChangeShapes Go.WideShapes Go.ChangeAt Go.RowKit Go.Joins
open Go.ChangeMaps (open_string shut_string)
open Go.Proofs.YtkfbmplhcigopaaW.PrintWords Go.Proofs.YtkfbmplhcigopaaW.PrintLast Go.Proofs.YtkfbmplhcigopaaW.PrintMore
set_option linter.unusedVariables false
set_option linter.unusedSimpArgs false
theorem own : ownKnob Try.prog.godebug = none := by kernel_rfl
theorem laidOut : laidOutB Try.prog = true := by kernel_rfl
def IsRow (k : IntKind) (w : World) (a : Option Addr) (len cap : Nat) (zs : List Int) : Prop :=
  (a = none ∧ len = 0 ∧ cap = 0 ∧ zs = []) ∨
  ∃ x, a = some x ∧ len ≤ cap ∧ cap ≤ maxLen ∧ zs.length = cap ∧ (∀ i, i < zs.length → w.cell? (x.add i) = some (.int k (zs.getD i 0))) ∧ ∀ n ∈ zs, (Lit.int k n).wf = true
set_option maxRecDepth 100000 in
theorem lifted (os : Os) (started : os.Started) (H : Type) (enc : TypeId × Value → H) :
    ReturnsInHanded {} Try.checked os 13 .any (Rows.codecListsSpec.pre6 enc Try.prog Try.f13 Rows.codecListsRow.domain false) (Rows.codecListsSpec.post enc Try.prog Try.f13 false true false false) := by
  refine returnsInHanded_of_change_sized (C := Try.checked) own started (by kernel_rfl) Try.func13
    (ChangeSpec.witness6 (enc := enc) (C := Try.checked) false ⟨#[], #[.slice none 0 0, .string ByteArray.empty], []⟩ 8 (by kernel_rfl) (by kernel_rfl) (by kernel_rfl) (by kernel_rfl)) ?_
  intro W base args ds gs before hval0 hW hcnd hsz0 _
  have hsz : (DataW.weightsEach Try.prog (Try.f13.params.toList ++ Rows.codecListsSpec.plain.varTypes Try.prog) (ds ++ gs)).all (· ≤ reachBytes) = true := hsz0
  have hval : ∀ (j : Nat) t v, Try.f13.params[j]? = some t → args[j]? = some v → Value.okWide Try.prog W .any base t v := hval0
  have hW' := hW
  obtain ⟨p, q, hA0, hV, rfl, hfz, hnd⟩ := hW
  have hA : DataW.TrodAll enc Try.prog W 0 (fun _ => true) true Try.f13.params.toList args.toList ds p := hA0
  rw [Try.params13] at hA hval hsz
  obtain ⟨v0, vs0, d0, ds0, p0, q0, hargs, rfl, rfl, h0, r0⟩ := trodAll_cons hA
  obtain ⟨v1, vs1, d1, ds1, p1, q1, rfl, rfl, rfl, h1, r1⟩ := trodAll_cons r0
  obtain ⟨rfl, rfl, rfl⟩ := trodAll_nil r1
  obtain rfl : args = #[v0, v1] := by cases args; simp_all
  obtain ⟨rfl, rfl⟩ := trodVars_none hV
  have k0 := h0
  have lt0 : ∀ x ∈ p0, x.block < W.heap.size := by obtain ⟨m, hm⟩ := k0; exact DataW.trod_lt m _ _ _ hm
  obtain ⟨a0, len0, cap0, rfl⟩ := okWide_slice Try.underlying74 (hval 0 74 v0 rfl rfl)
  obtain ⟨l0, hlen0, hr0, hsz0, hn0, hc0⟩ : ∃ l : List ByteArray, len0 = l.length ∧ ReadsOf Value.string ByteArray.empty W a0 l.length l ∧ (∀ s ∈ l, s.size ≤ 140737488355328) ∧ l.length ≤ 140737488355328 ∧ l.length ≤ cap0 := by
    obtain ⟨fuel, hf⟩ := h0
    rcases open_strings Try.underlying74 Try.underlying9 (by kernel_rfl) hf with ⟨hcs, _⟩ | ⟨x, l, c, ss, hcs, _, hl, hm, hz, hx, hcell, _⟩
    · simp [Value.cells] at hcs
      obtain ⟨rfl, rfl, rfl⟩ := hcs
      exact ⟨[], rfl, ⟨rfl, by simp, fun h => absurd h (by simp)⟩, (fun s hs => by cases hs), by simp, by simp⟩
    · simp [Value.cells] at hcs
      obtain ⟨rfl, rfl, rfl⟩ := hcs
      have hz2 : ss.length = cap0 := by simpa using hz
      have hlt : (ss.take len0).length = len0 := by rw [List.length_take]; omega
      obtain ⟨hx1, _⟩ := Prod.mk.inj hx
      have hwt : ∀ n ∈ DataW.weights Try.prog 74 d0, n ≤ reachBytes := fun n hn => by
        have := List.all_eq_true.1 hsz n (DataW.weights_mem_each (j := 0) (t := 74) rfl rfl n hn)
        simpa using this
      rw [hx1] at hwt
      have hbytes : Try.prog.bytesOf 9 = 16 := by kernel_rfl
      have hwl := hwt (((strs (H := H) (ss.take len0)).length + (strs (H := H) (ss.drop len0)).length) * Try.prog.bytesOf 9) (by simp [DataW.weights, Try.underlying74])
      rw [hbytes] at hwl
      have hsl : (strs (H := H) (ss.take len0)).length = (ss.take len0).length := by simp [strs]
      have hws : ∀ s ∈ ss.take len0, s.size ≤ 140737488355328 := by
        intro s hs
        have hmem : s.data.toList.length ∈ DataW.weightsAll Try.prog 9 (strs (H := H) (ss.take len0)) := by
          have : ∀ m : List ByteArray, s ∈ m → s.data.toList.length ∈ DataW.weightsAll Try.prog 9 (strs (H := H) m) := by
            intro m
            induction m with
            | nil => intro h; cases h
            | cons a m ih =>
              intro h
              rcases List.mem_cons.1 h with e | e
              · subst e; simp [strs, DataW.weightsAll, DataW.weights]
              · have := ih e; simp only [strs, List.map_cons, DataW.weightsAll, List.mem_append]; exact Or.inr this
          exact this _ hs
        have := hwt s.data.toList.length (by simp only [DataW.weights, Try.underlying74]; exact List.mem_cons_of_mem _ (List.mem_append_left _ hmem))
        rw [data_length] at this
        have h2 : reachBytes = 140737488351232 := rfl
        omega
      have h2 : reachBytes = 140737488351232 := rfl
      refine ⟨ss.take len0, hlt.symm, ⟨rfl, ?_, fun hp => ⟨x, rfl, fun j hj => ?_⟩⟩, hws, ?_, by omega⟩
      · omega
      · rw [hcell j (by omega)]; simp [List.getD_eq_getElem?_getD, show j < len0 by omega]
      · omega
  subst hlen0
  have hK0 := Kd.C_of_reads (enc := Value.string) (d := ByteArray.empty) (h1 := fun _ => rfl) hr0
  obtain ⟨a1, rfl, rfl, rfl, y1⟩ := open_string Try.underlying9 (hval 1 9 v1 rfl rfl) h1
  have w1 : a1.size ≤ 140737488351232 := by
    have z := sized_string hsz (j := 1) (t := 9) rfl rfl
    rw [Array.length_toList] at z
    exact z
  clear hA0 hval0 hsz0 hsz
  refine (PCod.quitrentlaw08_CodecLists.calls 5000 a0 cap0 l0 a1 true W hK0 hc0 (PCod.lists l0 a1 hn0 hsz0 (by omega))).mono fun e W' ⟨he, bel⟩ => ?_
  subst he
  exact ⟨_, rfl, _, _, _, [], _, [], hW', trodAll_mk1 (shut_bool Try.underlying4 _), (trodAll_cons_mk (Below.trod laidOut (by kernel_rfl) (of_decide_eq_true (by kernel_rfl)) k0 bel lt0) (trodAll_cons_mk (shut_string Try.underlying9 y1) trodAll_mk0)), rfl, bel.frame _, fun h => by cases h⟩
theorem over : Rows.codecListsRow.holds Try.pinned (OpenSpec.ofChange Rows.codecListsSpec) :=
  OpenClaim.holds_of_wide 13 Try.f13 rfl rfl rfl rfl rfl rfl rfl ⟨rfl, rfl, rfl, rfl, rfl⟩ rfl rfl rfl rfl rfl (by kernel_rfl) Try.func13 (by kernel_rfl)
    (of_decide_eq_true (by kernel_rfl)) (by unfold Func.isWrapper; first | (rw [if_pos (by decide +kernel)]; kernel_rfl) | (rw [if_neg (by decide +kernel)]; exact ⟨rfl, rfl⟩))
    (fun os started H enc _ => lifted os started H enc)
theorem proved : Rows.CodecListsSaid := over
#print axioms proved
end Go.Proofs.Ytkfbmplhcigopaa.codecLists
namespace Go.Proofs.Ytkfbmplhcigopaa
/-- The row, under a short name, for the claim. -/
theorem codecLists_holds : Rows.CodecListsSaid := codecLists.proved
end Go.Proofs.Ytkfbmplhcigopaa
