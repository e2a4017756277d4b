import Derived.Test.YtkfbmplhcigopaaTurn
/- PlotTurns: true of every input. -/
set_option linter.unusedSimpArgs false
set_option linter.unusedVariables false
namespace Go.Proofs.Ytkfbmplhcigopaa.PPlo
open Go.RowKit Go.Proofs.YtkfbmplhcigopaaW.PrintWords Go.Proofs.YtkfbmplhcigopaaW.PrintLast Go.Proofs.YtkfbmplhcigopaaW.PrintMore

def lastP : S38 → List S38 → S38
  | p, [] => p
  | _, q :: r => lastP q r
theorem lastP_append : ∀ (r : List S38) (p q : S38), lastP p (r ++ [q]) = q
  | [], _, _ => rfl
  | a :: r, _, q => lastP_append r a q
theorem ps_add (v : S38) : ∀ (r : List S38) (p : S38), ps (addP v p) (r.map (addP v)) = ps p r + v.f1 * (p.f0 - (lastP p r).f0) + v.f0 * ((lastP p r).f1 - p.f1)
  | [], p => by
    show (0 : Int) = 0 + v.f1 * (p.f0 - p.f0) + v.f0 * (p.f1 - p.f1)
    simp
  | q :: r, p => by
    have ih := ps_add v r q
    have e1 : ps (addP v p) ((q :: r).map (addP v)) = cr (addP v p) (addP v q) + ps (addP v q) (r.map (addP v)) := rfl
    have e2 : ps p (q :: r) = cr p q + ps q r := rfl
    have e3 : lastP p (q :: r) = lastP q r := rfl
    rw [e1, e2, e3, ih]
    generalize ps q r = Z
    generalize lastP q r = L
    unfold cr addP
    simp only
    grind
theorem AR_add (v : S38) (l : List S38) : AR (l.map (addP v)) = AR l := by
  cases l with
  | nil => rfl
  | cons p r =>
    show ps (addP v p) (r.map (addP v) ++ [addP v p]) = ps p (r ++ [p])
    have := ps_add v (r ++ [p]) p
    rw [lastP_append, List.map_append] at this
    rw [show r.map (addP v) ++ [addP v p] = r.map (addP v) ++ List.map (addP v) [p] from rfl, this]
    simp
theorem cr_mir (p q : S38) : cr (mirP p) (mirP q) = -1 * cr p q := by
  unfold cr mirP; simp only; grind
theorem cr_rot (p q : S38) : cr (mulP ⟨0, 1⟩ p) (mulP ⟨0, 1⟩ q) = 1 * cr p q := by
  rw [cr_mul]; rfl
theorem rot_is (p : S38) : mulP ⟨0, 1⟩ p = ⟨-p.f1, p.f0⟩ := by
  unfold mulP; simp
theorem rot_ok (p : S38) (h : okP p = true) : okP (mulP ⟨0, 1⟩ p) = true := by
  obtain ⟨a1, a2, a3, a4⟩ := okP_iff.1 h
  rw [rot_is, okP_iff]
  show -1048576 ≤ -p.f1 ∧ -p.f1 ≤ 1048576 ∧ -1048576 ≤ p.f0 ∧ p.f0 ≤ 1048576
  omega
theorem mir_ok (p : S38) (h : okP p = true) : okP (mirP p) = true := by
  obtain ⟨a1, a2, a3, a4⟩ := okP_iff.1 h
  rw [okP_iff]
  show -1048576 ≤ p.f0 ∧ p.f0 ≤ 1048576 ∧ -1048576 ≤ -p.f1 ∧ -p.f1 ≤ 1048576
  omega
theorem rotN_ok (l : List S38) (h : ∀ p ∈ l, okP p = true) : ∀ j, ∀ p ∈ rotN j l, okP p = true
  | 0 => h
  | j + 1 => fun p hp => by
    obtain ⟨q, hq, rfl⟩ := List.mem_map.1 hp
    exact rot_ok q (rotN_ok l h j q hq)
theorem rotN_length (l : List S38) : ∀ j, (rotN j l).length = l.length
  | 0 => rfl
  | j + 1 => by unfold rotN; rw [List.length_map, rotN_length l j]
theorem rotN_AR (l : List S38) : ∀ j, AR (rotN j l) = AR l
  | 0 => rfl
  | j + 1 => by
    unfold rotN
    rw [AR_map _ 1 cr_rot, rotN_AR l j, Int.one_mul]
theorem rotN_4 (l : List S38) : rotN 4 l = l := by
  show ((((l.map (mulP ⟨0, 1⟩)).map (mulP ⟨0, 1⟩)).map (mulP ⟨0, 1⟩)).map (mulP ⟨0, 1⟩)) = l
  rw [List.map_map, List.map_map, List.map_map]
  conv => rhs; rw [← List.map_id l]
  refine List.map_congr_left fun p _ => ?_
  simp only [Function.comp_apply, rot_is, id_eq, Int.neg_neg]
theorem ok_all {g : S38 → S38} (hg : ∀ p, okP p = true → okP (g p) = true) {l : List S38} (h : ∀ p ∈ l, okP p = true) : ∀ p ∈ l.map g, okP p = true := fun p hp => by
  obtain ⟨q, hq, rfl⟩ := List.mem_map.1 hp
  exact hg q (h q hq)

theorem turns (l : List S38) (x y : Int) (A0 : Option Addr) (c0 : Nat) (w : World) (hC : Kd.C k38 w A0 l.length l) (hc : l.length ≤ c0) :
    Calls Try.prog 9 #[.slice A0 l.length c0, .agg #[.int .i64 x, .int .i64 y]] w fun e w' => e = .returned (.bool true) ∧ Below w.heap.size w w' := by
  by_cases h : CHK l 0 0 = 0
  · obtain ⟨hl, h0, hok⟩ := CHK_0 h
    have okT : okP ⟨0, 1⟩ = true := by rfl
    have hsm := AR_small l hok
    refine turns_good l x y (AR l) A0 c0 w hC hc (by unfold AREA; rw [if_pos h]) hl ?_ ?_ (rotN_length l) (rotN_4 l) (l.map mirP) ?_ (by simp) ?_ (EACH (addP ⟨x, y⟩) l x y).1 (EACH (addP ⟨x, y⟩) l x y).2 rfl ?_ ?_
    · intro j
      have h1 := rotN_ok l hok j
      unfold EACH
      rw [if_pos (CHK_ok (by rw [rotN_length]; exact hl) okT h1), if_pos (List.all_eq_true.2 (ok_all rot_ok h1))]; rfl
    · intro j
      have h1 := rotN_ok l hok j
      unfold AREA
      rw [if_pos (CHK_ok (by rw [rotN_length]; exact hl) h0 h1), rotN_AR]
    · unfold EACH
      rw [if_pos h, if_pos (List.all_eq_true.2 (ok_all mir_ok hok))]
    · unfold AREA
      rw [if_pos (CHK_ok (by simpa using hl) h0 (ok_all mir_ok hok)), AR_map _ (-1) cr_mir, w64 (by omega) (by omega)]
      congr 1; omega
    · unfold EACH
      intro hz
      split
      · split
        · rename_i h1 h2
          unfold AREA
          rw [if_pos (CHK_ok (by simpa using hl) h0 (List.all_eq_true.1 h2)), AR_add]
        · rename_i h1 h2
          rw [if_pos h1, if_neg h2] at hz
          exact absurd hz (by decide)
      · rename_i h1
        rw [if_neg h1] at hz
        exact absurd hz h1
    · unfold EACH
      intro hz
      split
      · split
        · rename_i h1 h2
          rw [if_pos h1, if_pos h2] at hz
          exact absurd rfl hz
        · rfl
      · rfl
  · have hA : AREA l = (0, CHK l 0 0) := by unfold AREA; rw [if_neg h]
    by_cases hl : 1000 < l.length
    · exact turns_long (CHK l 0 0) l x y 0 A0 c0 w hC hc hA hl
    · exact turns_bad (CHK l 0 0) l x y 0 A0 c0 w hC hc hA (by omega) h
end Go.Proofs.Ytkfbmplhcigopaa.PPlo
