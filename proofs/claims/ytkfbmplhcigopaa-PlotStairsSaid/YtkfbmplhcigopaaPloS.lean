import Derived.Test.YtkfbmplhcigopaaPloA
import Derived.Test.YtkfbmplhcigopaaPPloF11
set_option linter.unusedSimpArgs false
set_option linter.unusedVariables false
namespace Go.Proofs.Ytkfbmplhcigopaa.PPlo
open Go.RowKit Go.Proofs.YtkfbmplhcigopaaW.PrintWords Go.Proofs.YtkfbmplhcigopaaW.PrintLast Go.Proofs.YtkfbmplhcigopaaW.PrintMore

/-- the sum of all, and of all sums on the way -/
def ac : Int → Int → List Int → Int × Int
  | s, a, [] => (s, a)
  | s, a, n :: r => ac (s + n) (a + (s + n)) r
def AA : Int → List Int → Int
  | _, [] => 0
  | s, n :: r => (s + n) + AA (s + n) r
def five (n : Int) : Prop := -5000 ≤ n ∧ n ≤ 5000

theorem wf_bd {n : Int} (h : (Lit.int .i64 n).wf = true) : -9223372036854775808 ≤ n ∧ n ≤ 9223372036854775807 := by
  simp [Lit.wf] at h; exact h
theorem ac_2 : ∀ (l : List Int) (s a : Int), (ac s a l).2 = a + AA s l
  | [], s, a => by simp [ac, AA]
  | n :: r, s, a => by
    unfold ac AA; rw [ac_2 r]; omega
theorem ac_1 : ∀ (l : List Int) (s a : Int), (∀ n ∈ l, five n) → s - 5000 * l.length ≤ (ac s a l).1 ∧ (ac s a l).1 ≤ s + 5000 * l.length
  | [], s, a, _ => by simp [ac]
  | n :: r, s, a, h => by
    have h1 := h n List.mem_cons_self
    have h2 := ac_1 r (s + n) (a + (s + n)) (fun x hx => h x (List.mem_cons_of_mem _ hx))
    unfold five at h1
    unfold ac
    rw [List.length_cons]
    omega
theorem AA_small : ∀ (l : List Int) (s B : Int), (∀ n ∈ l, five n) → -B ≤ s → s ≤ B → -((B + 5000 * l.length) * l.length) ≤ AA s l ∧ AA s l ≤ (B + 5000 * l.length) * l.length
  | [], s, B, _, _, _ => by simp [AA]
  | n :: r, s, B, h, h1, h2 => by
    have h3 := h n List.mem_cons_self
    unfold five at h3
    have h4 := AA_small r (s + n) (B + 5000) (fun x hx => h x (List.mem_cons_of_mem _ hx)) (by omega) (by omega)
    unfold AA
    rw [List.length_cons]
    have e1 : (B + 5000 + 5000 * (r.length : Int)) = B + 5000 * ((r.length + 1 : Nat) : Int) := by omega
    rw [e1] at h4
    obtain ⟨Q, hQ⟩ : ∃ Q, Q = B + 5000 * ((r.length + 1 : Nat) : Int) := ⟨_, rfl⟩
    rw [← hQ] at h4 ⊢
    have e2 : Q * ((r.length + 1 : Nat) : Int) = Q * (r.length : Int) + Q := by
      rw [show ((r.length + 1 : Nat) : Int) = (r.length : Int) + 1 by omega, Int.mul_add, Int.mul_one]
    rw [e2]
    omega

theorem okS_five (l : List Int) : ∀ (s : Int), (∀ n ∈ l, five n) → -1048576 + 5000 * l.length ≤ s → s ≤ 1048576 - 5000 * l.length → okS s l = true := by
  induction l with
  | nil => intro s _ _ _; rfl
  | cons n r ih =>
    intro s h h1 h2
    have h3 := h n List.mem_cons_self
    unfold five at h3
    rw [List.length_cons] at h1 h2
    have e : okS s (n :: r) = (decide (-1048576 ≤ s + n ∧ s + n ≤ 1048576) && okS (s + n) r) := rfl
    rw [e, ih (s + n) (fun x hx => h x (List.mem_cons_of_mem _ hx)) (by omega) (by omega), decide_eq_true (by omega)]; rfl

theorem st_length : ∀ (l : List Int) (i s : Int), (st i s l).length = 2 * l.length
  | [], _, _ => rfl
  | n :: r, i, s => by
    unfold st; rw [List.length_cons, List.length_cons, st_length r, List.length_cons]; omega
/-- the last point of the stairs -/
theorem st_last : ∀ (l : List Int) (i s a : Int) (d : S38), (⟨i, s⟩ :: st i s l).getD (2 * l.length) d = ⟨i + l.length, (ac s a l).1⟩
  | [], i, s, a, d => by simp [st, ac]
  | n :: r, i, s, a, d => by
    have := st_last r (i + 1) (s + n) (a + (s + n)) d
    unfold st ac
    rw [List.length_cons]
    have e : 2 * (r.length + 1) = 2 * r.length + 1 + 1 := by omega
    rw [e, List.getD_cons_succ, List.getD_cons_succ, this]
    congr 1; omega
theorem st_ok (l : List Int) : ∀ (i s : Int), (∀ n ∈ l, five n) → -1048576 + 5000 * l.length ≤ s → s ≤ 1048576 - 5000 * l.length → 0 ≤ i → i + l.length ≤ 1048576 → ∀ p ∈ st i s l, okP p = true := by
  induction l with
  | nil => intro i s _ _ _ _ _ p hp; cases hp
  | cons n r ih0 =>
    intro i s h h1 h2 h3 h4
    have h5 := h n List.mem_cons_self
    unfold five at h5
    rw [List.length_cons] at h1 h2 h4
    have ih := ih0 (i + 1) (s + n) (fun x hx => h x (List.mem_cons_of_mem _ hx)) (by omega) (by omega) (by omega) (by omega)
    intro p hp
    have e : st i s (n :: r) = ⟨i, s + n⟩ :: ⟨i + 1, s + n⟩ :: st (i + 1) (s + n) r := rfl
    rw [e] at hp
    rcases List.mem_cons.1 hp with e | hp
    · rw [e, okP_iff]; show -1048576 ≤ i ∧ i ≤ 1048576 ∧ -1048576 ≤ s + n ∧ s + n ≤ 1048576; omega
    rcases List.mem_cons.1 hp with e | hp
    · rw [e, okP_iff]; show -1048576 ≤ i + 1 ∧ i + 1 ≤ 1048576 ∧ -1048576 ≤ s + n ∧ s + n ≤ 1048576; omega
    exact ih p hp

theorem st_area : ∀ (l : List Int) (i s : Int), ps ⟨i, s⟩ (st i s l ++ [⟨i + l.length, 0⟩, ⟨0, 0⟩]) = -(i * s) - 2 * AA s l
  | [], i, s => by
    simp only [st, List.nil_append, ps, cr, AA, List.length_nil]
    rw [show i + ((0 : Nat) : Int) = i by omega]
    rw [Int.mul_comm s i]; simp
  | n :: r, i, s => by
    have ih := st_area r (i + 1) (s + n)
    have e : i + ((n :: r).length : Int) = i + 1 + (r.length : Int) := by rw [List.length_cons]; omega
    rw [e]
    show cr ⟨i, s⟩ ⟨i, s + n⟩ + (cr ⟨i, s + n⟩ ⟨i + 1, s + n⟩ + ps ⟨i + 1, s + n⟩ (st (i + 1) (s + n) r ++ [⟨i + 1 + r.length, 0⟩, ⟨0, 0⟩])) = _
    rw [ih]
    have e3 : AA s (n :: r) = (s + n) + AA (s + n) r := rfl
    rw [e3]
    generalize AA (s + n) r = Z
    unfold cr
    simp only
    grind

theorem stairs_l2 (l : List Int) (hl : l.length ≤ 200) (hwf : ∀ n ∈ l, -9223372036854775808 ≤ n ∧ n ≤ 9223372036854775807) :
    ∀ (m i k : Nat) (s a : Int), m = l.length - i → i ≤ l.length → m + 1003 < k → (∀ p ∈ l.take i, five p) → ac s a (l.drop i) = ac 0 0 l → -(5000 * (i : Int)) ≤ s → s ≤ 5000 * i → -(1000000 * (i : Int)) ≤ a → a ≤ 1000000 * i →
      quitrentlaw21_PlotStairs.l0 k l s a l (l.length : Int) (i : Int) = some true := by
  intro m
  induction m with
  | zero =>
    intro i k s a hm hi hk hn hac hs1 hs2 ha1 ha2
    obtain ⟨k, rfl⟩ : ∃ k', k = k' + 2 := ⟨k - 2, by omega⟩
    rw [quitrentlaw21_PlotStairs.l0]
    rw [if_neg (by omega)]
    have hf : ∀ p ∈ l, five p := fun p hp => hn p (by rw [List.take_of_length_le (by omega)]; exact hp)
    rw [List.drop_eq_nil_of_le (by omega)] at hac
    have hs : s = (ac 0 0 l).1 := by rw [← hac]; rfl
    have ha : a = AA 0 l := by
      have := ac_2 l 0 0
      rw [← hac] at this
      have h2 : (ac s a []).2 = a := rfl
      omega
    have e1 : STAIRS l = (⟨0, 0⟩ :: st 0 0 l, 0) := by
      unfold STAIRS
      rw [if_neg (by omega), if_pos (okS_five l 0 hf (by omega) (by omega))]
    rw [stairs_is l hwf _ (by omega), Option.bind_some, e1]
    have hlen : (⟨0, 0⟩ :: st 0 0 l : List S38).length = 2 * l.length + 1 := by rw [List.length_cons, st_length]
    simp only [hlen]
    rw [if_pos trivial]
    have w1 : wrap64 (wrap64 (2 * (l.length : Int)) + 1) = 2 * (l.length : Int) + 1 := by
      rw [w64 (n := 2 * (l.length : Int)) (by omega) (by omega), w64 (by omega) (by omega)]
    rw [w1, if_pos (by omega), if_pos (by omega)]
    have w2 : wrap64 (((2 * l.length + 1 : Nat) : Int) - 1) = ((2 * l.length : Nat) : Int) := by
      rw [w64 (by omega) (by omega)]; omega
    have hb : (!((rd_T38 (⟨0, 0⟩ :: st 0 0 l) 0).f0 == 0) || !((rd_T38 (⟨0, 0⟩ :: st 0 0 l) 0).f1 == 0)) = false := by rfl
    rw [hb, quitrentlaw21_PlotStairs.j1, if_neg (by simp)]
    simp only [hlen]
    rw [w2, if_pos (by omega), if_pos (by omega)]
    have hlast : rd_T38 (⟨0, 0⟩ :: st 0 0 l) ((2 * l.length : Nat) : Int) = ⟨0 + l.length, s⟩ := by
      unfold rd_T38
      rw [Int.toNat_natCast, st_last l 0 0 0 z38, hs]
    rw [hlast]
    have hb2 : (!(((⟨0 + (l.length : Int), s⟩ : S38)).f0 == (l.length : Int)) || !(((⟨0 + (l.length : Int), s⟩ : S38)).f1 == s)) = false := by
      simp
    rw [if_neg (by rw [hb2]; simp), Option.bind_some, List.length_nil, if_pos (by omega), Option.bind_some]
    rw [List.nil_append, if_pos (by rw [hlen]; omega)]
    have hok : ∀ p ∈ (⟨0, 0⟩ :: st 0 0 l ++ [⟨(l.length : Int), 0⟩] : List S38), okP p = true := by
      intro p hp
      rcases List.mem_append.1 hp with h | h
      · rcases List.mem_cons.1 h with e | h
        · rw [e]; rfl
        · exact st_ok l 0 0 hf (by omega) (by omega) (by omega) (by omega) p h
      · rw [List.mem_singleton.1 h, okP_iff]; show -1048576 ≤ (l.length : Int) ∧ (l.length : Int) ≤ 1048576 ∧ (-1048576 : Int) ≤ 0 ∧ (0 : Int) ≤ 1048576; omega
    have e2 : AREA (⟨0, 0⟩ :: st 0 0 l ++ [⟨(l.length : Int), 0⟩]) = (-2 * a, 0) := by
      unfold AREA CHK
      rw [if_neg (show ¬ (⟨0, 0⟩ :: st 0 0 l ++ [⟨(l.length : Int), 0⟩] : List S38).length > 1000 by rw [List.length_append, hlen]; simp; omega), List.all_eq_true.2 hok]
      rw [if_pos (show (if (okP ⟨0, 0⟩ && true) = true then (0 : Int) else 1) = 0 by rfl)]
      have := st_area l 0 0
      rw [show (0 : Int) + (l.length : Int) = l.length by omega] at this
      show (ps ⟨0, 0⟩ ((st 0 0 l ++ [⟨(l.length : Int), 0⟩]) ++ [⟨0, 0⟩]), (0 : Int)) = _
      rw [List.append_assoc]
      show (ps ⟨0, 0⟩ (st 0 0 l ++ [⟨(l.length : Int), 0⟩, ⟨0, 0⟩]), (0 : Int)) = _
      rw [this, ha]
      congr 1; omega
    rw [area_is _ _ (by omega), Option.bind_some, e2]
    simp only
    rw [if_pos trivial, w64 (by omega) (by omega)]
    simp
  | succ m ih =>
    intro i k s a hm hi hk hn hac hs1 hs2 ha1 ha2
    obtain ⟨k, rfl⟩ : ∃ k', k = k' + 1 := ⟨k - 1, by omega⟩
    have hlt : i < l.length := by omega
    rw [quitrentlaw21_PlotStairs.l0]
    rw [if_pos (show (i : Int) < l.length by omega), if_pos (show (0 : Int) ≤ i by omega), if_pos (show (i : Int) < l.length by omega)]
    by_cases h1 : rd l i < -5000
    · rw [if_pos h1]
    by_cases h2 : rd l i > 5000
    · rw [if_neg h1, if_pos h2]
    rw [if_neg h1, if_neg h2]
    have hr : rd l (i : Int) = l[i]'(by omega) := by
      unfold rd; simp [List.getD_eq_getElem?_getD, show i < l.length by omega]
    rw [w64 (n := s + rd l i) (by omega) (by omega), w64 (n := a + (s + rd l i)) (by omega) (by omega), w64 (n := (i : Int) + 1) (by omega) (by omega)]
    have := ih (i + 1) k (s + rd l i) (a + (s + rd l i)) (by omega) (by omega) (by omega) (fun p hp => by
      rw [List.take_succ_eq_append_getElem (by omega)] at hp
      rcases List.mem_append.1 hp with h | h
      · exact hn p h
      · rw [List.mem_singleton.1 h, ← hr]
        unfold five; omega) (by rw [← hac, rd_cons l i hlt]; rfl) (by omega) (by omega) (by omega) (by omega)
    rw [show ((i + 1 : Nat) : Int) = (i : Int) + 1 by omega] at this
    exact this

theorem plotStairs (l : List Int) (hwf : ∀ n ∈ l, -9223372036854775808 ≤ n ∧ n ≤ 9223372036854775807) : quitrentlaw21_PlotStairs.f 3000 l = some true := by
  unfold quitrentlaw21_PlotStairs.f
  rw [awake_is _ (by omega), Option.bind_some, if_pos rfl]
  by_cases h : l.length > 200
  · rw [if_pos (by omega)]
  · rw [if_neg (by omega)]
    exact stairs_l2 l (by omega) hwf l.length 0 3000 0 0 (by omega) (by omega) (by omega) (fun p hp => by simp at hp) rfl (by omega) (by omega) (by omega) (by omega)
end Go.Proofs.Ytkfbmplhcigopaa.PPlo
