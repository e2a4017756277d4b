import Derived.Test.YtkfbmplhcigopaaPloA
import Derived.Test.YtkfbmplhcigopaaPPloF10
set_option linter.unusedSimpArgs false
set_option linter.unusedVariables false
namespace Go.Proofs.Ytkfbmplhcigopaa.PPlo
open Go.RowKit Go.Proofs.YtkfbmplhcigopaaW.PrintWords Go.Proofs.YtkfbmplhcigopaaW.PrintLast Go.Proofs.YtkfbmplhcigopaaW.PrintMore

theorem cr_mul (b p q : S38) : cr (mulP b p) (mulP b q) = (b.f0 * b.f0 + b.f1 * b.f1) * cr p q := by
  unfold cr mulP
  simp only
  grind
theorem mul_comm_ (b c p : S38) : mulP c (mulP b p) = mulP b (mulP c p) := by
  unfold mulP
  simp only [S38.mk.injEq]
  constructor <;> grind
theorem ps_map (g : S38 → S38) (c : Int) (hg : ∀ p q, cr (g p) (g q) = c * cr p q) : ∀ (r : List S38) (p : S38), ps (g p) (r.map g) = c * ps p r
  | [], p => by simp [ps]
  | q :: r, p => by
    rw [List.map_cons]
    unfold ps
    rw [ps_map g c hg r q, hg, Int.mul_add]
theorem AR_map (g : S38 → S38) (c : Int) (hg : ∀ p q, cr (g p) (g q) = c * cr p q) (l : List S38) : AR (l.map g) = c * AR l := by
  cases l with
  | nil => simp [AR]
  | cons p r =>
    rw [List.map_cons]
    unfold AR
    rw [← ps_map g c hg (r ++ [p]) p, List.map_append]; rfl
theorem ps_small : ∀ (r : List S38) (p : S38), okP p = true → (∀ q ∈ r, okP q = true) → -(2199023255552 * (r.length : Int)) ≤ ps p r ∧ ps p r ≤ 2199023255552 * r.length
  | [], p, _, _ => by simp [ps]
  | q :: r, p, hp, hr => by
    have h1 := cr_small hp (hr q List.mem_cons_self)
    have h2 := ps_small r q (hr q List.mem_cons_self) (fun x hx => hr x (List.mem_cons_of_mem _ hx))
    unfold ps
    rw [List.length_cons]
    omega
theorem AR_small (l : List S38) (h : ∀ q ∈ l, okP q = true) : -(2199023255552 * (l.length : Int)) ≤ AR l ∧ AR l ≤ 2199023255552 * l.length := by
  cases l with
  | nil => simp [AR]
  | cons p r =>
    have := ps_small (r ++ [p]) p (h p List.mem_cons_self) (fun q hq => by
      rcases List.mem_append.1 hq with h1 | h1
      · exact h q (List.mem_cons_of_mem _ h1)
      · rw [List.mem_singleton.1 h1]; exact h p List.mem_cons_self)
    unfold AR
    simpa using this

theorem CHK_ok {l : List S38} {x y : Int} (h1 : l.length ≤ 1000) (h2 : okP ⟨x, y⟩ = true) (h3 : ∀ p ∈ l, okP p = true) : CHK l x y = 0 := by
  unfold CHK
  rw [if_neg (by omega), h2, List.all_eq_true.2 h3]; rfl

/-- at most a thousand each way -/
def near (p : S38) : Prop := -1000 ≤ p.f0 ∧ p.f0 ≤ 1000 ∧ -1000 ≤ p.f1 ∧ p.f1 ≤ 1000
theorem mul_near {b p : S38} (hb : -30 ≤ b.f0 ∧ b.f0 ≤ 30 ∧ -30 ≤ b.f1 ∧ b.f1 ≤ 30) (hp : near p) : okP (mulP b p) = true := by
  obtain ⟨a1, a2, a3, a4⟩ := hp
  obtain ⟨b1, b2, b3, b4⟩ := hb
  have key : ∀ x y : Int, -1000 ≤ x → x ≤ 1000 → -30 ≤ y → y ≤ 30 → -30000 ≤ x * y ∧ x * y ≤ 30000 := by
    intro x y h1 h2 h3 h4
    have h5 : x.natAbs ≤ 1000 := by omega
    have h6 : y.natAbs ≤ 30 := by omega
    have h7 : x.natAbs * y.natAbs ≤ 1000 * 30 := Nat.mul_le_mul h5 h6
    rw [← Int.natAbs_mul] at h7
    omega
  have k1 := key _ _ a1 a2 b1 b2
  have k2 := key _ _ a3 a4 b3 b4
  have k3 := key _ _ a1 a2 b3 b4
  have k4 := key _ _ a3 a4 b1 b2
  rw [okP_iff]
  unfold mulP
  simp only
  omega

theorem times_j (l : List S38) (b0 b1 c0 c1 : Int) (o : Bool) (hl : l.length ≤ 50) (hn : ∀ p ∈ l, near p)
    (ho : o = false → (-30 ≤ b0 ∧ b0 ≤ 30 ∧ -30 ≤ b1 ∧ b1 ≤ 30) ∧ (-30 ≤ c0 ∧ c0 ≤ 30 ∧ -30 ≤ c1 ∧ c1 ≤ 30)) (k : Nat) (hk : 1002 ≤ k) :
    quitrentlaw21_PlotTimes.j1 k l o b0 b1 c0 c1 = some true := by
  obtain ⟨k, rfl⟩ : ∃ k', k = k' + 1 := ⟨k - 1, by omega⟩
  rw [quitrentlaw21_PlotTimes.j1]
  cases o with
  | true => rw [if_pos rfl]
  | false =>
    obtain ⟨hb, hc⟩ := ho rfl
    have hok : ∀ p ∈ l, okP p = true := fun p hp => by
      obtain ⟨a1, a2, a3, a4⟩ := hn p hp
      rw [okP_iff]; omega
    have okb : okP ⟨b0, b1⟩ = true := by rw [okP_iff]; show -1048576 ≤ b0 ∧ b0 ≤ 1048576 ∧ -1048576 ≤ b1 ∧ b1 ≤ 1048576; omega
    have okc : okP ⟨c0, c1⟩ = true := by rw [okP_iff]; show -1048576 ≤ c0 ∧ c0 ≤ 1048576 ∧ -1048576 ≤ c1 ∧ c1 ≤ 1048576; omega
    have ok0 : okP ⟨0, 0⟩ = true := by rfl
    have okB : ∀ p ∈ l.map (mulP ⟨b0, b1⟩), okP p = true := fun p hp => by
      obtain ⟨q, hq, rfl⟩ := List.mem_map.1 hp
      exact mul_near hb (hn q hq)
    have okC : ∀ p ∈ l.map (mulP ⟨c0, c1⟩), okP p = true := fun p hp => by
      obtain ⟨q, hq, rfl⟩ := List.mem_map.1 hp
      exact mul_near hc (hn q hq)
    have e1 : AREA l = (AR l, 0) := by unfold AREA; rw [if_pos (CHK_ok (by omega) ok0 hok)]
    have e2 : EACH (mulP ⟨b0, b1⟩) l b0 b1 = (l.map (mulP ⟨b0, b1⟩), 0) := by
      unfold EACH; rw [if_pos (CHK_ok (by omega) okb hok), if_pos (List.all_eq_true.2 okB)]
    have e3 : EACH (mulP ⟨c0, c1⟩) l c0 c1 = (l.map (mulP ⟨c0, c1⟩), 0) := by
      unfold EACH; rw [if_pos (CHK_ok (by omega) okc hok), if_pos (List.all_eq_true.2 okC)]
    have e4 : AREA (l.map (mulP ⟨b0, b1⟩)) = ((b0 * b0 + b1 * b1) * AR l, 0) := by
      unfold AREA; rw [if_pos (CHK_ok (by simp; omega) ok0 okB), AR_map _ (b0 * b0 + b1 * b1) (fun p q => cr_mul _ p q)]
    have e5 : EACH (mulP ⟨c0, c1⟩) (l.map (mulP ⟨b0, b1⟩)) c0 c1 = EACH (mulP ⟨b0, b1⟩) (l.map (mulP ⟨c0, c1⟩)) b0 b1 := by
      have : (l.map (mulP ⟨b0, b1⟩)).map (mulP ⟨c0, c1⟩) = (l.map (mulP ⟨c0, c1⟩)).map (mulP ⟨b0, b1⟩) := by
        rw [List.map_map, List.map_map]
        exact List.map_congr_left fun p _ => mul_comm_ _ _ p
      unfold EACH
      rw [CHK_ok (by simp; omega) okc okB, CHK_ok (by simp; omega) okb okC, this]
    have hlen : (EACH (mulP ⟨b0, b1⟩) (l.map (mulP ⟨c0, c1⟩)) b0 b1).1.length ≤ 50 := by
      unfold EACH
      split
      · split
        · simp; omega
        · simp
      · simp
    rw [if_neg (by simp), area_is _ k (by omega), Option.bind_some, times_is _ _ _ k (by omega), Option.bind_some, e1, e2, area_is _ k (by omega), Option.bind_some, times_is _ _ _ k (by omega), Option.bind_some, e3,
      times_is _ _ _ k (by omega), Option.bind_some, times_is _ _ _ k (by omega), Option.bind_some, e4, e5]
    have key : ∀ y : Int, -30 ≤ y → y ≤ 30 → 0 ≤ y * y ∧ y * y ≤ 900 := by
      intro y h3 h4
      have h6 : y.natAbs ≤ 30 := by omega
      have h7 : y.natAbs * y.natAbs ≤ 30 * 30 := Nat.mul_le_mul h6 h6
      rw [← Int.natAbs_mul] at h7
      have h8 : 0 ≤ y * y := by
        rcases Int.le_total 0 y with h | h
        · exact Int.mul_nonneg h h
        · exact Int.mul_nonneg_of_nonpos_of_nonpos h h
      omega
    have k1 := key b0 hb.1 hb.2.1
    have k2 := key b1 hb.2.2.1 hb.2.2.2
    have hs := AR_small l hok
    have w1 : wrap64 (b0 * b0) = b0 * b0 := w64 (by omega) (by omega)
    have w2 : wrap64 (b1 * b1) = b1 * b1 := w64 (by omega) (by omega)
    obtain ⟨q, hq⟩ : ∃ q, q = b0 * b0 + b1 * b1 := ⟨_, rfl⟩
    have w3 : wrap64 (b0 * b0 + b1 * b1) = q := by rw [w64 (by omega) (by omega), hq]
    have hb2 : (AR l * q).natAbs ≤ 109951162777600 * 1800 := by
      rw [Int.natAbs_mul]
      exact Nat.mul_le_mul (by omega) (by omega)
    have w4 : wrap64 (AR l * q) = AR l * q := w64 (by omega) (by omega)
    rw [w1, w2, w3, w4, ← hq]
    rw [if_pos (show (0 : Int) = 0 from rfl), if_pos (show (0 : Int) = 0 from rfl), if_pos (show (0 : Int) = 0 from rfl), if_pos (show (0 : Int) = 0 from rfl), if_pos (Int.mul_comm q (AR l)), if_pos rfl,
      same_refl _ (by omega) k (by omega), Option.bind_some]

theorem times_l (l0 l : List S38) (b0 b1 c0 c1 : Int) (hl0 : l0.length ≤ 50) (hl : l.length ≤ 52) (hsub : ∀ p ∈ l0, p ∈ l) :
    ∀ (m i k : Nat), m = l.length - i → i ≤ l.length → m + 1002 < k → (∀ p ∈ l.take i, near p) →
      quitrentlaw21_PlotTimes.l0 k l0 l (l.length : Int) (i : Int) b0 b1 c0 c1 = some true := by
  intro m
  induction m with
  | zero =>
    intro i k hm hi hk hn
    obtain ⟨k, rfl⟩ : ∃ k', k = k' + 1 := ⟨k - 1, by omega⟩
    rw [quitrentlaw21_PlotTimes.l0]
    rw [if_neg (by omega)]
    have hn' : ∀ p ∈ l0, near p := fun p hp => hn p (by rw [List.take_of_length_le (by omega)]; exact hsub p hp)
    have go : ∀ o : Bool, (o = false → (-30 ≤ b0 ∧ b0 ≤ 30 ∧ -30 ≤ b1 ∧ b1 ≤ 30) ∧ (-30 ≤ c0 ∧ c0 ≤ 30 ∧ -30 ≤ c1 ∧ c1 ≤ 30)) → quitrentlaw21_PlotTimes.j1 k l0 o b0 b1 c0 c1 = some true :=
      fun o ho => times_j l0 b0 b1 c0 c1 o hl0 hn' ho k (by omega)
    have gt := go true (fun h => by cases h)
    repeat' split
    all_goals first | exact gt | skip
    refine go _ (fun h => ?_)
    have := of_decide_eq_false h
    omega
  | succ m ih =>
    intro i k hm hi hk hn
    obtain ⟨k, rfl⟩ : ∃ k', k = k' + 1 := ⟨k - 1, by omega⟩
    rw [quitrentlaw21_PlotTimes.l0]
    rw [if_pos (show (i : Int) < l.length by omega), if_pos (show (0 : Int) ≤ i by omega), if_pos (show (i : Int) < l.length by omega)]
    by_cases h1 : (rd_T38 l i).f0 < -1000
    · rw [if_pos h1]
    by_cases h2 : (rd_T38 l i).f0 > 1000
    · rw [if_neg h1, if_pos h2]
    by_cases h3 : (rd_T38 l i).f1 < -1000
    · rw [if_neg h1, if_neg h2, if_pos h3]
    by_cases h4 : (rd_T38 l i).f1 > 1000
    · rw [if_neg h1, if_neg h2, if_neg h3, if_pos h4]
    rw [if_neg h1, if_neg h2, if_neg h3, if_neg h4, w64 (by omega) (by omega)]
    have hr : rd_T38 l (i : Int) = l[i]'(by omega) := by
      unfold rd_T38; simp [List.getD_eq_getElem?_getD, show i < l.length by omega]
    have := ih (i + 1) k (by omega) (by omega) (by omega) (fun p hp => by
      rw [List.take_succ_eq_append_getElem (by omega)] at hp
      rcases List.mem_append.1 hp with h | h
      · exact hn p h
      · rw [List.mem_singleton.1 h, ← hr]
        unfold near; omega)
    rw [show ((i + 1 : Nat) : Int) = (i : Int) + 1 by omega] at this
    exact this

theorem plotTimes (l : List S38) (b0 b1 c0 c1 : Int) : quitrentlaw21_PlotTimes.f 3000 l b0 b1 c0 c1 = some true := by
  unfold quitrentlaw21_PlotTimes.f
  rw [awake_is _ (by omega), Option.bind_some, if_pos rfl]
  by_cases h : l.length > 50
  · rw [if_pos (by omega)]
  · rw [if_neg (by omega), Option.bind_some, if_pos (by simp; omega), Option.bind_some]
    have := times_l l ([⟨wrap64 (33 * b0), wrap64 (33 * b1)⟩, ⟨wrap64 (33 * c0), wrap64 (33 * c1)⟩] ++ l) b0 b1 c0 c1 (by omega) (by simp; omega) (fun p hp => List.mem_append_right _ hp) _ 0 3000 rfl (by omega) (by simp; omega) (fun p hp => by simp at hp)
    exact this
end Go.Proofs.Ytkfbmplhcigopaa.PPlo
