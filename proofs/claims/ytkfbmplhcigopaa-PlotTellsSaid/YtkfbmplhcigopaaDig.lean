/- Digits of thousands: of an amount they are its own, a sum's are the sum, Fit tells it back; so the document's stairs are the program's. Condition: columns are amounts. -/
import Derived.Test.YtkfbmplhcigopaaRone
import Derived.Test.YtkfbmplhcigopaaPloA
set_option linter.unusedSimpArgs false
set_option linter.unusedVariables false
namespace Go.Proofs.Ytkfbmplhcigopaa.PPlo
open Go.RowKit Go.Proofs.YtkfbmplhcigopaaW.PrintWords Go.Proofs.YtkfbmplhcigopaaW.PrintLast Go.Proofs.YtkfbmplhcigopaaW.PrintMore
namespace Dig
theorem w64 {n : Int} (h : -9223372036854775808 ≤ n) (h' : n ≤ 9223372036854775807) : wrap64 n = n := by unfold wrap64; omega
/-- The number of digits of thousands, the lowest first. -/
def val : List Int → Int
  | [] => 0
  | d :: r => d + 1000 * val r
def Dg (l : List Int) : Prop := ∀ x ∈ l, 0 ≤ x ∧ x ≤ 999
/-- The last digit is not 0. -/
def Top (l : List Int) : Prop := ∃ r x, l = r ++ [x] ∧ x ≠ 0
/-- Sign and digits of a whole number. -/
def Rep (s : Int) (l : List Int) (v : Int) : Prop := Dg l ∧ ((s = 0 ∧ l = [] ∧ v = 0) ∨ (s = 1 ∧ v = val l ∧ Top l) ∨ (s = -1 ∧ v = -val l ∧ Top l))
theorem Dg.nil : Dg [] := fun x hx => by cases hx
theorem Dg.cons {x : Int} {l : List Int} (h : Dg (x :: l)) : (0 ≤ x ∧ x ≤ 999) ∧ Dg l := ⟨h x List.mem_cons_self, fun y hy => h y (List.mem_cons_of_mem _ hy)⟩
theorem Dg.snoc {x : Int} {l : List Int} (h : Dg l) (hx : 0 ≤ x ∧ x ≤ 999) : Dg (l ++ [x]) := fun y hy => by
  rcases List.mem_append.1 hy with hy | hy
  · exact h y hy
  · rw [List.mem_singleton.1 hy]; exact hx
theorem Dg.left {a b : List Int} (h : Dg (a ++ b)) : Dg a := fun y hy => h y (List.mem_append_left _ hy)
theorem Dg.drop {l : List Int} (h : Dg l) (i : Nat) : Dg (l.drop i) := fun y hy => h y (List.mem_of_mem_drop hy)
theorem val_nonneg : ∀ {l : List Int}, Dg l → 0 ≤ val l
  | [], _ => Int.le_refl _
  | x :: l, h => by
    have h1 := h.cons
    have := val_nonneg h1.2
    unfold val; omega
theorem val_app : ∀ (a b : List Int), val (a ++ b) = val a + 1000 ^ a.length * val b
  | [], b => by simp [val]
  | x :: a, b => by
    show x + 1000 * val (a ++ b) = x + 1000 * val a + 1000 ^ (a.length + 1) * val b
    rw [val_app a b, Int.pow_succ, Int.mul_add, Int.mul_comm (1000 ^ a.length) 1000, Int.mul_assoc]; omega
theorem val_snoc (a : List Int) (x : Int) : val (a ++ [x]) = val a + 1000 ^ a.length * x := by
  rw [val_app]; simp [val]
theorem pow_pos : ∀ n : Nat, (1 : Int) ≤ 1000 ^ n
  | 0 => by decide
  | n + 1 => by have := pow_pos n; rw [Int.pow_succ]; omega
theorem top_val {l : List Int} (h : Dg l) (t : Top l) : (1000 : Int) ^ (l.length - 1) ≤ val l := by
  obtain ⟨r, x, rfl, hx⟩ := t
  have hx1 : 1 ≤ x := by have := h x (by simp); omega
  have h0 := val_nonneg h.left
  rw [val_snoc]
  have h1 : (1000 : Int) ^ r.length * 1 ≤ 1000 ^ r.length * x := Int.mul_le_mul_of_nonneg_left hx1 (by have := pow_pos r.length; omega)
  have : (r ++ [x]).length - 1 = r.length := by simp
  rw [this]; omega
theorem pow_mono {m n : Nat} (h : m ≤ n) : (1000 : Int) ^ m ≤ 1000 ^ n := by
  obtain ⟨d, rfl⟩ := Nat.exists_eq_add_of_le h
  rw [Int.pow_add]
  have h1 := pow_pos m
  have := Int.mul_le_mul_of_nonneg_left (pow_pos d) (show (0 : Int) ≤ 1000 ^ m by omega)
  omega
theorem len_le {l : List Int} {n : Nat} (h : Dg l) (t : Top l) (hv : val l < 1000 ^ n) : l.length ≤ n := by
  refine Nat.le_of_not_lt fun hn => ?_
  have h1 := top_val h t
  have := pow_mono (show n ≤ l.length - 1 by omega)
  omega
theorem val_pos {l : List Int} (h : Dg l) (t : Top l) : 1 ≤ val l := by
  have := top_val h t
  have := pow_pos (l.length - 1)
  omega
theorem val_drop : ∀ (l : List Int) (i : Nat), val (l.drop i) = l.getD i 0 + 1000 * val (l.drop (i + 1))
  | [], i => by simp [val]
  | x :: l, 0 => by simp [val]
  | x :: l, i + 1 => by
    have := val_drop l i
    simpa using this
theorem getD_bd {l : List Int} (h : Dg l) (i : Nat) : 0 ≤ l.getD i 0 ∧ l.getD i 0 ≤ 999 := by
  by_cases hi : i < l.length
  · have : l.getD i 0 = l[i] := by simp [List.getD_eq_getElem?_getD, hi]
    rw [this]; exact h _ (List.getElem_mem hi)
  · have : l.getD i 0 = 0 := by simp [List.getD_eq_getElem?_getD, Nat.le_of_not_lt hi]
    rw [this]; omega
theorem getD_out {l : List Int} {i : Nat} (h : l.length ≤ i) : l.getD i 0 = 0 := by simp [List.getD_eq_getElem?_getD, h]
theorem at_is (l : List Int) (i : Nat) : quitrentref01_at.f l (i : Int) = some (l.getD i 0) := by
  unfold quitrentref01_at.f
  by_cases h : i < l.length
  · rw [if_neg (by omega), if_pos (by omega), if_pos (by omega)]; rfl
  · rw [if_pos (by omega), getD_out (by omega)]

theorem made_ok : ∀ (k : Nat) (s : Int) (l : List Int), l.length < k → l.length ≤ 1000 → Dg l → ∃ s1 l1, quitrentref01_made.l0 k s l = some (s1, l1) ∧ Dg l1 ∧ val l1 = val l ∧ ((s1 = 0 ∧ l1 = []) ∨ (s1 = s ∧ Top l1))
  | 0, _, _, hk, _, _ => by omega
  | k + 1, s, l, hk, hl, h => by
    rcases List.eq_nil_or_concat l with rfl | ⟨r, x, rfl⟩
    · exact ⟨0, [], by simp [quitrentref01_made.l0], Dg.nil, rfl, .inl ⟨rfl, rfl⟩⟩
    · simp only [List.concat_eq_append] at *
      have hlen : (r ++ [x]).length = r.length + 1 := by simp
      have hr : rd (r ++ [x]) (r.length : Int) = x := by
        unfold rd; simp [List.getD_eq_getElem?_getD]
      have ht : (r ++ [x]).take r.length = r := by simp
      unfold quitrentref01_made.l0
      rw [hlen, w64 (by omega) (by omega), show ((r.length + 1 : Nat) : Int) - 1 = (r.length : Int) by omega, if_pos (by omega), if_pos (by omega), if_pos (by omega), hr]
      by_cases hx : x = 0
      · subst hx
        rw [if_pos rfl, if_pos (by omega), Int.toNat_natCast, ht]
        obtain ⟨s1, l1, h1, h2, h3, h4⟩ := made_ok k s r (by omega) (by omega) h.left
        exact ⟨s1, l1, h1, h2, by rw [h3, val_snoc]; omega, h4⟩
      · rw [if_neg hx, if_neg (by omega)]
        exact ⟨s, r ++ [x], rfl, h, rfl, .inr ⟨rfl, r, x, rfl, hx⟩⟩

/-- Without its sign. -/
def ab (x : Int) : Int := if x < 0 then -x else x
theorem of_l : ∀ (m k : Nat) (s : Int) (d : List Int) (x : Int), ab x < 1000 ^ m → -9223372036854775808 ≤ x ∧ x ≤ 9223372036854775807 → m + d.length ≤ 100 → 200 + m < k → Dg d →
    ∃ s1 l1, quitrentref01_Of.l0 k s d x = some (s1, l1) ∧ Dg l1 ∧ val l1 = val d + 1000 ^ d.length * ab x ∧ ((s1 = 0 ∧ l1 = []) ∨ (s1 = (if x < 0 then -1 else s) ∧ Top l1))
  | m, 0, _, _, _, _, _, _, hk, _ => by omega
  | 0, k + 1, s, d, x, hx, hb, hm, hk, hd => by
    have h0 : x = 0 := by unfold ab at hx; rw [Int.pow_zero] at hx; split at hx <;> omega
    subst h0
    obtain ⟨s1, l1, h1, h2, h3, h4⟩ := made_ok k s d (by omega) (by omega) hd
    refine ⟨s1, l1, ?_, h2, by rw [h3]; simp [ab], by simpa using h4⟩
    unfold quitrentref01_Of.l0
    rw [if_pos rfl]
    show (quitrentref01_made.l0 k s d).bind _ = _
    rw [h1]; rfl
  | m + 1, k + 1, s, d, x, hx, hb, hm, hk, hd => by
    by_cases h0 : x = 0
    · subst h0
      obtain ⟨s1, l1, h1, h2, h3, h4⟩ := made_ok k s d (by omega) (by omega) hd
      refine ⟨s1, l1, ?_, h2, by rw [h3]; simp [ab], by simpa using h4⟩
      unfold quitrentref01_Of.l0
      rw [if_pos rfl]
      show (quitrentref01_made.l0 k s d).bind _ = _
      rw [h1]; rfl
    · have hlt : d.length < 17592186044416 := by omega
      have hp : (1000 : Int) ^ (m + 1) = 1000 * 1000 ^ m := by rw [Int.pow_succ, Int.mul_comm]
      rw [hp] at hx
      have step : ∀ (s2 y q : Int), 0 ≤ y → y ≤ 999 → ab x = y + 1000 * ab q → -9223372036854775808 ≤ q ∧ q ≤ 9223372036854775807 → (s2 = if x < 0 then -1 else s) → (x < 0 → q ≤ 0) → (0 < x → 0 ≤ q) →
          ∃ s1 l1, quitrentref01_Of.l0 k s2 (d ++ [y]) q = some (s1, l1) ∧ Dg l1 ∧ val l1 = val d + 1000 ^ d.length * ab x ∧ ((s1 = 0 ∧ l1 = []) ∨ (s1 = (if x < 0 then -1 else s) ∧ Top l1)) := by
        intro s2 y q y0 y1 he hq hs hq1 hq2
        have hlen : (d ++ [y]).length = d.length + 1 := by simp
        obtain ⟨s1, l1, h1, h2, h3, h4⟩ := of_l m k s2 (d ++ [y]) q (by omega) hq (by omega) (by omega) (hd.snoc ⟨y0, y1⟩)
        refine ⟨s1, l1, h1, h2, ?_, ?_⟩
        · rw [h3, val_snoc, hlen, he, Int.pow_succ, Int.mul_add, Int.mul_assoc]; omega
        · rcases h4 with h4 | ⟨h4, h5⟩
          · exact .inl h4
          · refine .inr ⟨?_, h5⟩
            rw [h4]
            by_cases hx0 : x < 0
            · rw [if_pos hx0] at hs ⊢; rw [hs]; split <;> rfl
            · rw [if_neg hx0] at hs ⊢; rw [if_neg (by have := hq2 (by omega); omega), hs]
      unfold quitrentref01_Of.l0
      rw [if_neg h0]
      by_cases hn : x < 0
      · obtain ⟨y, rfl⟩ : ∃ y, x = -y := ⟨-x, by omega⟩
        have e1 : Int.tmod (-y) 1000 = -(y % 1000) := by rw [Int.neg_tmod, Int.tmod_eq_emod_of_nonneg (by omega)]
        have e2 : Int.tdiv (-y) 1000 = -(y / 1000) := by rw [Int.neg_tdiv, Int.tdiv_eq_ediv_of_nonneg (by omega)]
        have hab : ab (-y) = y := by unfold ab; rw [if_pos hn]; omega
        have hab2 : ab (-(y / 1000)) = y / 1000 := by unfold ab; split <;> omega
        rw [e1, e2, w64 (n := -(y / 1000)) (by omega) (by omega)]
        by_cases hz : -(y % 1000) < 0
        · rw [if_pos hz, if_pos hn, if_pos hlt, w64 (by omega) (by omega), Int.neg_neg]
          exact step (-1) (y % 1000) (-(y / 1000)) (by omega) (by omega) (by rw [hab, hab2]; omega) (by omega) (by rw [if_pos hn]) (by omega) (by omega)
        · rw [if_neg hz, if_pos hn, if_pos hlt, show -(y % 1000) = y % 1000 by omega]
          exact step (-1) (y % 1000) (-(y / 1000)) (by omega) (by omega) (by rw [hab, hab2]; omega) (by omega) (by rw [if_pos hn]) (by omega) (by omega)
      · have e1 : Int.tmod x 1000 = x % 1000 := Int.tmod_eq_emod_of_nonneg (by omega)
        have e2 : Int.tdiv x 1000 = x / 1000 := Int.tdiv_eq_ediv_of_nonneg (by omega)
        have hab : ab x = x := by unfold ab; rw [if_neg hn]
        have hab2 : ab (x / 1000) = x / 1000 := by unfold ab; rw [if_neg (by omega)]
        rw [e1, e2, w64 (n := x / 1000) (by omega) (by omega), if_neg (by omega), if_neg hn, if_pos hlt]
        exact step s (x % 1000) (x / 1000) (by omega) (by omega) (by rw [hab, hab2]; omega) (by omega) (by rw [if_neg hn]) (by omega) (by omega)

/-- Of an amount: its sign and digits. -/
theorem of_ok (k : Nat) (hk : 300 ≤ k) (x : Int) (hx : -9223372036854775808 ≤ x ∧ x ≤ 9223372036854775807) : ∃ s l, quitrentref01_Of.f k x = some (s, l) ∧ Rep s l x := by
  have h7 : ab x < 1000 ^ 7 := by
    have : (1000 : Int) ^ 7 = 1000000000000000000000 := by decide
    rw [this]; unfold ab; split <;> omega
  obtain ⟨s1, l1, h1, h2, h3, h4⟩ := of_l 7 k 1 [] x h7 hx (by simp) (by omega) Dg.nil
  refine ⟨s1, l1, h1, h2, ?_⟩
  have h3' : val l1 = ab x := by rw [h3]; simp [val]
  rcases h4 with ⟨rfl, rfl⟩ | ⟨h4, h5⟩
  · refine .inl ⟨rfl, rfl, ?_⟩
    have : ab x = 0 := by rw [← h3']; rfl
    unfold ab at this; split at this <;> omega
  · unfold ab at h3'
    by_cases hn : x < 0
    · rw [if_pos hn] at h4 h3'; exact .inr (.inr ⟨h4, by omega, h5⟩)
    · rw [if_neg hn] at h4 h3'; exact .inr (.inl ⟨h4, by omega, h5⟩)
end Dig
end Go.Proofs.Ytkfbmplhcigopaa.PPlo
namespace Go.Proofs.Ytkfbmplhcigopaa.PPlo
open Go.RowKit Go.Proofs.YtkfbmplhcigopaaW.PrintWords Go.Proofs.YtkfbmplhcigopaaW.PrintLast Go.Proofs.YtkfbmplhcigopaaW.PrintMore
namespace Dig
theorem drop_out {l : List Int} {i : Nat} (h : l.length ≤ i) : val (l.drop i) = 0 := by rw [List.drop_eq_nil_of_le h]; rfl
/-- What made answers, of a value above 0. -/
theorem top_of {s1 s : Int} {l1 : List Int} (h : (s1 = 0 ∧ l1 = []) ∨ (s1 = s ∧ Top l1)) (hv : 0 < val l1) : s1 = s ∧ Top l1 := by
  rcases h with ⟨_, rfl⟩ | h
  · exact absurd hv (by simp [val])
  · exact h

theorem plus0 (a b : List Int) (sa sb : Int) (ha : Dg a) (hb : Dg b) (la : a.length ≤ 50) (lb : b.length ≤ 50) (n : Nat) (hn : mx (a.length : Int) (b.length : Int) = (n : Int)) (hna : a.length ≤ n) (hnb : b.length ≤ n) (hn50 : n ≤ 50) :
    ∀ (m k : Nat) (out : List Int) (c : Int), m + out.length = n + 1 → 200 + m < k → Dg out → 0 ≤ c → c ≤ 1 → (m = 0 → c = 0) →
      ∃ s1 l1, quitrentref01_Plus.l0 k out c (out.length : Int) sa a sb b = some (s1, l1) ∧ Dg l1 ∧ val l1 = val out + 1000 ^ out.length * (c + val (a.drop out.length) + val (b.drop out.length)) ∧ ((s1 = 0 ∧ l1 = []) ∨ (s1 = sa ∧ Top l1))
  | m, 0, _, _, _, hk, _, _, _, _ => by omega
  | 0, k + 1, out, c, hm, hk, ho, c0, c1, hc => by
    obtain ⟨s1, l1, h1, h2, h3, h4⟩ := made_ok k sa out (by omega) (by omega) ho
    refine ⟨s1, l1, ?_, h2, ?_, h4⟩
    · unfold quitrentref01_Plus.l0
      rw [hn, if_neg (by omega)]
      show (quitrentref01_made.l0 k sa out).bind _ = _
      rw [h1]; rfl
    · rw [h3, drop_out (by omega), drop_out (by omega), hc rfl]; simp
  | m + 1, k + 1, out, c, hm, hk, ho, c0, c1, hc => by
    have da := getD_bd ha out.length
    have db := getD_bd hb out.length
    have va := val_drop a out.length
    have vb := val_drop b out.length
    have hlen : ∀ x : Int, (out ++ [x]).length = out.length + 1 := fun x => by simp
    unfold quitrentref01_Plus.l0
    rw [hn, if_pos (by omega), at_is, Option.bind_some, at_is, Option.bind_some, if_pos (by omega)]
    generalize a.getD out.length 0 = x at *
    generalize b.getD out.length 0 = y at *
    rw [w64 (n := x + y) (by omega) (by omega), w64 (n := x + y + c) (by omega) (by omega), Int.tmod_eq_emod_of_nonneg (by omega), Int.tdiv_eq_ediv_of_nonneg (by omega), w64 (n := (x + y + c) / 1000) (by omega) (by omega), w64 (n := (out.length : Int) + 1) (by omega) (by omega)]
    have hm0 : m = 0 → (x + y + c) / 1000 = 0 := by
      intro h0
      have ex : x = 0 := by
        have h1 := drop_out (l := a) (i := out.length) (by omega)
        have h2 := drop_out (l := a) (i := out.length + 1) (by omega)
        rw [h1, h2] at va; omega
      have ey : y = 0 := by
        have h1 := drop_out (l := b) (i := out.length) (by omega)
        have h2 := drop_out (l := b) (i := out.length + 1) (by omega)
        rw [h1, h2] at vb; omega
      omega
    obtain ⟨s1, l1, h1, h2, h3, h4⟩ := plus0 a b sa sb ha hb la lb n hn hna hnb hn50 m k (out ++ [(x + y + c) % 1000]) ((x + y + c) / 1000) (by rw [hlen]; omega) (by omega) (ho.snoc (by omega)) (by omega) (by omega) hm0
    rw [hlen] at h1 h3
    refine ⟨s1, l1, h1, h2, ?_, h4⟩
    rw [h3, val_snoc, va, vb, Int.pow_succ, Int.mul_assoc, Int.add_assoc, ← Int.mul_add]
    congr 2; omega

theorem plus1 (a b : List Int) (sa sb : Int) (ha : Dg a) (hb : Dg b) (la : a.length ≤ 50) :
    ∀ (m k : Nat) (out : List Int) (c : Int), m + out.length = a.length → 200 + m < k → Dg out → 0 ≤ c → c ≤ 1 → 0 ≤ val (a.drop out.length) - val (b.drop out.length) - c →
      ∃ s1 l1, quitrentref01_Plus.l1 k out c (out.length : Int) sa a sb b = some (s1, l1) ∧ Dg l1 ∧ val l1 = val out + 1000 ^ out.length * (val (a.drop out.length) - val (b.drop out.length) - c) ∧ ((s1 = 0 ∧ l1 = []) ∨ (s1 = sa ∧ Top l1))
  | m, 0, _, _, _, hk, _, _, _, _ => by omega
  | 0, k + 1, out, c, hm, hk, ho, c0, c1, hd => by
    obtain ⟨s1, l1, h1, h2, h3, h4⟩ := made_ok k sa out (by omega) (by omega) ho
    refine ⟨s1, l1, ?_, h2, ?_, h4⟩
    · unfold quitrentref01_Plus.l1
      rw [if_neg (by omega)]
      show (quitrentref01_made.l0 k sa out).bind _ = _
      rw [h1]; rfl
    · have h0 := val_nonneg (hb.drop out.length)
      rw [drop_out (l := a) (by omega)] at hd ⊢
      rw [h3, show (0 : Int) - val (b.drop out.length) - c = 0 by omega]; simp
  | m + 1, k + 1, out, c, hm, hk, ho, c0, c1, hd => by
    have da := getD_bd ha out.length
    have db := getD_bd hb out.length
    have va := val_drop a out.length
    have vb := val_drop b out.length
    have hlen : ∀ x : Int, (out ++ [x]).length = out.length + 1 := fun x => by simp
    unfold quitrentref01_Plus.l1
    rw [if_pos (by omega), if_pos (by omega), at_is, Option.bind_some, if_pos (by omega), show rd a (out.length : Int) = a.getD out.length 0 from rfl]
    generalize a.getD out.length 0 = x at *
    generalize b.getD out.length 0 = y at *
    rw [w64 (n := 1000 + x) (by omega) (by omega), w64 (n := 1000 + x - y) (by omega) (by omega), w64 (n := 1000 + x - y - c) (by omega) (by omega), Int.tmod_eq_emod_of_nonneg (by omega), Int.tdiv_eq_ediv_of_nonneg (by omega),
      w64 (n := (1000 + x - y - c) / 1000) (by omega) (by omega), w64 (n := 1 - (1000 + x - y - c) / 1000) (by omega) (by omega), w64 (n := (out.length : Int) + 1) (by omega) (by omega)]
    obtain ⟨s1, l1, h1, h2, h3, h4⟩ := plus1 a b sa sb ha hb la m k (out ++ [(1000 + x - y - c) % 1000]) (1 - (1000 + x - y - c) / 1000) (by rw [hlen]; omega) (by omega) (ho.snoc (by omega)) (by omega) (by omega) (by rw [hlen]; omega)
    rw [hlen] at h1 h3
    refine ⟨s1, l1, h1, h2, ?_, h4⟩
    rw [h3, val_snoc, va, vb, Int.pow_succ, Int.mul_assoc, Int.add_assoc, ← Int.mul_add]
    congr 2; omega

/-- A number, cut at a digit. -/
theorem val_cut : ∀ (l : List Int) (i : Nat), Dg l → ∃ r, 0 ≤ r ∧ r < 1000 ^ i ∧ val l = r + 1000 ^ i * val (l.drop i)
  | l, 0, _ => ⟨0, Int.le_refl _, by decide, by simp⟩
  | [], i + 1, _ => ⟨0, Int.le_refl _, by have := pow_pos (i + 1); omega, by simp [val]⟩
  | x :: l, i + 1, h => by
    obtain ⟨hx, hl⟩ := h.cons
    obtain ⟨r, h0, h1, h2⟩ := val_cut l i hl
    refine ⟨x + 1000 * r, by omega, by rw [Int.pow_succ]; omega, ?_⟩
    show x + 1000 * val l = _
    rw [h2, Int.pow_succ, Int.mul_comm (1000 ^ i) 1000, Int.mul_assoc, List.drop_succ_cons]; omega

theorem less_of {a b : List Int} (ha : Dg a) (hb : Dg b) (i : Nat) (h : val (a.drop i) < val (b.drop i)) : val a < val b := by
  obtain ⟨r, h0, h1, h2⟩ := val_cut a i ha
  obtain ⟨q, g0, g1, g2⟩ := val_cut b i hb
  have hp := pow_pos i
  have := Int.mul_le_mul_of_nonneg_left (show val (a.drop i) + 1 ≤ val (b.drop i) by omega) (show (0 : Int) ≤ 1000 ^ i by omega)
  rw [Int.mul_add, Int.mul_one] at this
  omega

theorem least_l (a b : List Int) (ha : Dg a) (hb : Dg b) (la : a.length ≤ 50) (lb : b.length ≤ 50) :
    ∀ (i k : Nat), i ≤ 60 → i < k → val (a.drop i) = val (b.drop i) → quitrentref01_least.l0 k a b ((i : Int) - 1) = some (decide (val a < val b))
  | i, 0, _, hk, _ => by omega
  | 0, k + 1, hi, hk, he => by
    unfold quitrentref01_least.l0
    rw [if_neg (by omega)]
    rw [List.drop_zero, List.drop_zero] at he
    rw [he, decide_eq_false (by omega)]
  | i + 1, k + 1, hi, hk, he => by
    have va := val_drop a i
    have vb := val_drop b i
    unfold quitrentref01_least.l0
    rw [show ((i + 1 : Nat) : Int) - 1 = (i : Int) by omega, if_pos (by omega), at_is, Option.bind_some, at_is, Option.bind_some]
    by_cases hx : a.getD i 0 = b.getD i 0
    · rw [if_pos hx, w64 (by omega) (by omega)]
      exact least_l a b ha hb la lb i k (by omega) (by omega) (by omega)
    · rw [if_neg hx, Option.bind_some, Option.bind_some]
      by_cases hlt : a.getD i 0 < b.getD i 0
      · rw [decide_eq_true hlt, decide_eq_true (less_of ha hb i (by omega))]
      · have := less_of hb ha i (by omega)
        rw [decide_eq_false hlt, decide_eq_false (by omega)]

theorem mx_nat (a b : Nat) : ∃ n : Nat, mx (a : Int) (b : Int) = (n : Int) ∧ a ≤ n ∧ b ≤ n ∧ (n = a ∨ n = b) := by
  unfold mx
  by_cases h : (a : Int) < b
  · exact ⟨b, if_pos h, by omega, Nat.le_refl _, .inr rfl⟩
  · exact ⟨a, if_neg h, Nat.le_refl _, by omega, .inl rfl⟩

theorem least_ok (a b : List Int) (ha : Dg a) (hb : Dg b) (la : a.length ≤ 50) (lb : b.length ≤ 50) (k : Nat) (hk : 100 ≤ k) : quitrentref01_least.f k a b = some (decide (val a < val b)) := by
  obtain ⟨n, h1, h2, h3, h4⟩ := mx_nat a.length b.length
  unfold quitrentref01_least.f
  rw [h1, w64 (by omega) (by omega)]
  exact least_l a b ha hb la lb n k (by omega) (by omega) (by rw [drop_out h2, drop_out h3])

theorem Rep.len {s v : Int} {l : List Int} (h : Rep s l v) (hv : -1000000000000000000000000 < v ∧ v < 1000000000000000000000000) : l.length ≤ 8 := by
  have hp : (1000 : Int) ^ 8 = 1000000000000000000000000 := by decide
  obtain ⟨h0, ⟨_, rfl, _⟩ | ⟨_, h1, h2⟩ | ⟨_, h1, h2⟩⟩ := h
  · simp
  · exact len_le h0 h2 (by rw [hp]; omega)
  · exact len_le h0 h2 (by rw [hp]; omega)

/-- The sizes of two of other sign, the greater one first. -/
theorem diff_ok (sa sb : Int) (a b : List Int) (ha : Dg a) (hb : Dg b) (la : a.length ≤ 8) (lb : b.length ≤ 8) (ha0 : sa ≠ 0) (hb0 : sb ≠ 0) (hs : sa ≠ sb) (hv : val b ≤ val a) (k : Nat) (hk : 300 ≤ k) :
    ∃ s1 l1, quitrentref01_Plus.f (k + 1) sa a sb b = some (s1, l1) ∧ Dg l1 ∧ val l1 = val a - val b ∧ ((s1 = 0 ∧ l1 = []) ∨ (s1 = sa ∧ Top l1)) := by
  obtain ⟨s1, l1, h1, h2, h3, h4⟩ := plus1 a b sa sb ha hb (by omega) a.length k [] 0 (by simp) (by omega) Dg.nil (by omega) (by omega) (by simp; omega)
  refine ⟨s1, l1, ?_, h2, by rw [h3]; simp [val], h4⟩
  simp only [quitrentref01_Plus.f]
  rw [if_neg ha0, if_neg hb0, Option.bind_some, if_neg hs, least_ok a b ha hb (by omega) (by omega) k (by omega), Option.bind_some, decide_eq_false (by omega), if_neg (by simp)]
  exact h1

theorem plus_ok (sa sb x y : Int) (a b : List Int) (ha : Rep sa a x) (hb : Rep sb b y) (hx : -100000000000000000000 < x ∧ x < 100000000000000000000) (hy : -100000000000000000000 < y ∧ y < 100000000000000000000) (k : Nat) (hk : 400 ≤ k) :
    ∃ s1 l1, quitrentref01_Plus.f k sa a sb b = some (s1, l1) ∧ Rep s1 l1 (x + y) := by
  obtain ⟨k, rfl⟩ : ∃ j, k = j + 1 := ⟨k - 1, by omega⟩
  have la := ha.len (by omega)
  have lb := hb.len (by omega)
  by_cases ha0 : sa = 0
  · have hx0 : x = 0 := by
      obtain ⟨_, ⟨_, _, h⟩ | ⟨h, _⟩ | ⟨h, _⟩⟩ := ha <;> omega
    refine ⟨sb, b, ?_, by rw [hx0, Int.zero_add]; exact hb⟩
    simp only [quitrentref01_Plus.f]
    rw [if_pos ha0]
  · by_cases hb0 : sb = 0
    · have hy0 : y = 0 := by
        obtain ⟨_, ⟨_, _, h⟩ | ⟨h, _⟩ | ⟨h, _⟩⟩ := hb <;> omega
      refine ⟨sa, a, ?_, by rw [hy0, Int.add_zero]; exact ha⟩
      simp only [quitrentref01_Plus.f]
      rw [if_neg ha0, if_pos hb0]
    · have pa : 1 ≤ val a := by
        obtain ⟨h0, ⟨h, _, _⟩ | ⟨_, _, h2⟩ | ⟨_, _, h2⟩⟩ := ha
        · exact absurd h ha0
        · exact val_pos h0 h2
        · exact val_pos h0 h2
      have pb : 1 ≤ val b := by
        obtain ⟨h0, ⟨h, _, _⟩ | ⟨_, _, h2⟩ | ⟨_, _, h2⟩⟩ := hb
        · exact absurd h hb0
        · exact val_pos h0 h2
        · exact val_pos h0 h2
      have sx : (sa = 1 ∧ x = val a) ∨ (sa = -1 ∧ x = -val a) := by
        obtain ⟨h0, ⟨h, _, _⟩ | ⟨h1, h2, _⟩ | ⟨h1, h2, _⟩⟩ := ha
        · exact absurd h ha0
        · exact .inl ⟨h1, h2⟩
        · exact .inr ⟨h1, h2⟩
      have sy : (sb = 1 ∧ y = val b) ∨ (sb = -1 ∧ y = -val b) := by
        obtain ⟨h0, ⟨h, _, _⟩ | ⟨h1, h2, _⟩ | ⟨h1, h2, _⟩⟩ := hb
        · exact absurd h hb0
        · exact .inl ⟨h1, h2⟩
        · exact .inr ⟨h1, h2⟩
      by_cases hs : sa = sb
      · obtain ⟨n, m1, m2, m3, m4⟩ := mx_nat a.length b.length
        obtain ⟨s1, l1, h1, h2, h3, h4⟩ := plus0 a b sa sb ha.1 hb.1 (by omega) (by omega) n m1 m2 m3 (by omega) (n + 1) k [] 0 (by simp) (by omega) Dg.nil (by omega) (by omega) (by omega)
        have h3' : val l1 = val a + val b := by rw [h3]; simp [val]
        obtain ⟨h5, h6⟩ := top_of h4 (by omega)
        refine ⟨s1, l1, ?_, h2, ?_⟩
        · simp only [quitrentref01_Plus.f]
          rw [if_neg ha0, if_neg hb0, Option.bind_some, if_pos hs]
          exact h1
        · rcases sx with ⟨e1, e2⟩ | ⟨e1, e2⟩
          · exact .inr (.inl ⟨by omega, by omega, h6⟩)
          · exact .inr (.inr ⟨by omega, by omega, h6⟩)
      · by_cases hv : val b ≤ val a
        · obtain ⟨s1, l1, h1, h2, h3, h4⟩ := diff_ok sa sb a b ha.1 hb.1 la lb ha0 hb0 hs hv k (by omega)
          refine ⟨s1, l1, h1, h2, ?_⟩
          rcases h4 with ⟨e1, e2⟩ | ⟨e1, e2⟩
          · have : val l1 = 0 := by rw [e2]; rfl
            exact .inl ⟨e1, e2, by omega⟩
          · rcases sx with ⟨g1, g2⟩ | ⟨g1, g2⟩
            · exact .inr (.inl ⟨by omega, by omega, e2⟩)
            · exact .inr (.inr ⟨by omega, by omega, e2⟩)
        · obtain ⟨j, rfl⟩ : ∃ j, k = j + 1 := ⟨k - 1, by omega⟩
          obtain ⟨s1, l1, h1, h2, h3, h4⟩ := diff_ok sb sa b a hb.1 ha.1 lb la hb0 ha0 (fun h => hs h.symm) (by omega) j (by omega)
          refine ⟨s1, l1, ?_, h2, ?_⟩
          · rw [quitrentref01_Plus.f]
            rw [if_neg ha0, if_neg hb0, Option.bind_some, if_neg hs, least_ok a b ha.1 hb.1 (by omega) (by omega) (j + 1) (by omega), Option.bind_some, decide_eq_true (by omega), if_pos rfl, h1]
            rfl
          · rcases h4 with ⟨e1, e2⟩ | ⟨e1, e2⟩
            · have : val l1 = 0 := by rw [e2]; rfl
              exact .inl ⟨e1, e2, by omega⟩
            · rcases sy with ⟨g1, g2⟩ | ⟨g1, g2⟩
              · exact .inr (.inl ⟨by omega, by omega, e2⟩)
              · exact .inr (.inr ⟨by omega, by omega, e2⟩)
theorem neg_ok {s v : Int} {l : List Int} (h : Rep s l v) : Rep (wrap64 (-s)) l (-v) := by
  obtain ⟨h0, ⟨h1, h2, h3⟩ | ⟨h1, h2, h3⟩ | ⟨h1, h2, h3⟩⟩ := h
  · exact ⟨h0, .inl ⟨by subst h1; exact w64 (by decide) (by decide), h2, by omega⟩⟩
  · exact ⟨h0, .inr (.inr ⟨by subst h1; exact w64 (by decide) (by decide), by omega, h3⟩)⟩
  · exact ⟨h0, .inr (.inl ⟨by subst h1; exact w64 (by decide) (by decide), by omega, h3⟩)⟩
theorem sgn_pos {s v : Int} {l : List Int} (h : Rep s l v) : (0 < s ↔ 0 < v) ∧ (s < 0 ↔ v < 0) := by
  obtain ⟨h0, ⟨h1, h2, h3⟩ | ⟨h1, h2, h3⟩ | ⟨h1, h2, h3⟩⟩ := h
  · omega
  · have := val_pos h0 h3; omega
  · have := val_pos h0 h3; omega
end Dig
end Go.Proofs.Ytkfbmplhcigopaa.PPlo
namespace Go.Proofs.Ytkfbmplhcigopaa.PPlo
open Go.RowKit Go.Proofs.YtkfbmplhcigopaaW.PrintWords Go.Proofs.YtkfbmplhcigopaaW.PrintLast Go.Proofs.YtkfbmplhcigopaaW.PrintMore
namespace Dig
theorem fitl (s v : Int) (l : List Int) (h : Rep s l v) (hl : l.length ≤ 8) (hv : -9223372036854775808 ≤ v ∧ v ≤ 9223372036854775807) (hs : s = 1 ∨ s = -1) :
    ∀ (i k : Nat), i ≤ l.length → i < k → fitL k (s * val (l.drop i)) s l ((i : Int) - 1) = some v
  | i, 0, _, hk => by omega
  | 0, k + 1, _, _ => by
    have hv2 : s * val l = v := by
      obtain ⟨h0, ⟨h1, h2, h3⟩ | ⟨h1, h2, h3⟩ | ⟨h1, h2, h3⟩⟩ := h
      · omega
      · rw [h1, h2]; omega
      · rw [h1, h2]; omega
    unfold fitL
    rw [if_neg (by omega), List.drop_zero, hv2]
  | i + 1, k + 1, hi, hk => by
    have hd := val_drop l i
    have hb := getD_bd h.1 i
    have n1 := val_nonneg (h.1.drop (i + 1))
    have hle : val (l.drop i) ≤ val l := by
      obtain ⟨r, r0, r1, r2⟩ := val_cut l i h.1
      have hp := pow_pos i
      have := Int.mul_le_mul_of_nonneg_right hp (val_nonneg (h.1.drop i))
      omega
    have hvl : v = s * val l := by
      obtain ⟨h0, ⟨h1, h2, h3⟩ | ⟨h1, h2, h3⟩ | ⟨h1, h2, h3⟩⟩ := h
      · omega
      · rw [h1, h2]; omega
      · rw [h1, h2]; omega
    unfold fitL
    rw [show ((i + 1 : Nat) : Int) - 1 = (i : Int) by omega, if_pos (by omega), if_pos (by omega), show rd l (i : Int) = l.getD i 0 from rfl, w64 (n := (i : Int) - 1) (by omega) (by omega)]
    have key : wrap64 (wrap64 (1000 * (s * val (l.drop (i + 1)))) + wrap64 (s * l.getD i 0)) = s * val (l.drop i) := by
      generalize val (l.drop (i + 1)) = a at *
      generalize val (l.drop i) = b at *
      generalize l.getD i 0 = x at *
      generalize val l = t at *
      rcases hs with rfl | rfl
      · rw [Int.one_mul] at *
        rw [Int.one_mul, Int.one_mul, w64 (n := 1000 * a) (by omega) (by omega), w64 (n := x) (by omega) (by omega), w64 (by omega) (by omega)]; omega
      · rw [Int.neg_one_mul] at *
        rw [Int.neg_one_mul, Int.neg_one_mul, w64 (n := 1000 * -a) (by omega) (by omega), w64 (n := -x) (by omega) (by omega), w64 (by omega) (by omega)]; omega
    rw [key]
    exact fitl s v l h hl hv hs i k (by omega) (by omega)

theorem fit_is (k : Nat) (hk : 400 ≤ k) (s v : Int) (l : List Int) (h : Rep s l v) (hv : -10000000000000000000 ≤ v ∧ v ≤ 10000000000000000000) :
    fitF k s l = some (if -9223372036854775808 ≤ v ∧ v ≤ 9223372036854775807 then (v, 0) else (0, 3)) := by
  obtain ⟨sm, lm, m1, m2⟩ := of_ok k (by omega) 9223372036854775807 (by decide)
  obtain ⟨sn, ln, q1, q2⟩ := of_ok k (by omega) (-9223372036854775808) (by decide)
  obtain ⟨c1, x1, p1, r1⟩ := plus_ok s (wrap64 (-sm)) v (-9223372036854775807) l lm h (neg_ok m2) (by omega) (by decide) k hk
  obtain ⟨c2, x2, p2, r2⟩ := plus_ok s (wrap64 (-sn)) v (-(-9223372036854775808)) l ln h (neg_ok q2) (by omega) (by decide) k hk
  have g1 := (sgn_pos r1).1
  have g2 := (sgn_pos r2).2
  unfold fitF
  rw [m1, Option.bind_some, q1, Option.bind_some, p1, Option.bind_some, p2, Option.bind_some]
  by_cases o : 0 < c1
  · rw [if_pos o, if_neg (by have := g1.1 o; omega)]
  · rw [if_neg o]
    by_cases u : c2 < 0
    · rw [if_pos u, if_neg (by have := g2.1 u; omega)]
    · rw [if_neg u]
      have hin : -9223372036854775808 ≤ v ∧ v ≤ 9223372036854775807 := by
        constructor
        · refine Int.not_lt.1 fun hn => u (g2.2 (by omega))
        · refine Int.not_lt.1 fun hn => o (g1.2 (by omega))
      rw [if_pos hin]
      have hl := h.len (by omega)
      have hr : fitL k 0 s l (wrap64 ((l.length : Int) - 1)) = some v := by
        rw [w64 (by omega) (by omega)]
        by_cases hs : s = 0
        · have : l = [] ∧ v = 0 := by
            obtain ⟨h0, ⟨_, a, b⟩ | ⟨h1, _⟩ | ⟨h1, _⟩⟩ := h
            · exact ⟨a, b⟩
            · omega
            · omega
          obtain ⟨rfl, rfl⟩ := this
          obtain ⟨k, rfl⟩ : ∃ j, k = j + 1 := ⟨k - 1, by omega⟩
          unfold fitL
          rw [if_neg (by simp)]
        · have hs1 : s = 1 ∨ s = -1 := by
            obtain ⟨h0, ⟨h1, _⟩ | ⟨h1, _⟩ | ⟨h1, _⟩⟩ := h
            · exact absurd h1 hs
            · exact .inl h1
            · exact .inr h1
          have := fitl s v l h hl hin hs1 l.length k (Nat.le_refl _) (by omega)
          rw [drop_out (Nat.le_refl _), Int.mul_zero] at this
          exact this
      rw [hr]; rfl

theorem st_len : ∀ (i s : Int) (l : List Int), (st i s l).length = 2 * l.length
  | _, _, [] => rfl
  | i, s, n :: r => by show (st (i + 1) (s + n) r).length + 1 + 1 = 2 * (r.length + 1); rw [st_len]; omega
theorem rst_l (l : List Int) (hl : l.length ≤ 240) (hwf : ∀ n ∈ l, -9223372036854775808 ≤ n ∧ n ≤ 9223372036854775807) :
    ∀ (m i k : Nat) (acc : List S38) (s : Int) (sg : Int) (d : List Int), m = l.length - i → i ≤ l.length → m + 400 < k → acc.length = 2 * i + 1 → (-1048576 ≤ s ∧ s ≤ 1048576) → Rep sg d s →
      rstL k sg d (acc.map cv) l (i : Int) = some (cvs (if okS s (l.drop i) = true then (acc ++ st i s (l.drop i), 0) else ([], 3))) := by
  intro m
  induction m with
  | zero =>
    intro i k acc s sg d hm hi hk ha hs hr
    obtain ⟨k, rfl⟩ : ∃ k', k = k' + 1 := ⟨k - 1, by omega⟩
    unfold rstL
    rw [if_neg (by omega), List.drop_eq_nil_of_le (by omega)]; simp [st, okS, cvs]
  | succ m ih =>
    intro i k acc s sg d hm hi hk ha hs hr
    obtain ⟨k, rfl⟩ : ∃ k', k = k' + 1 := ⟨k - 1, by omega⟩
    have hlt : i < l.length := by omega
    have hmem : rd l (i : Int) ∈ l := by
      have := rd_cons l i hlt
      exact List.mem_of_mem_drop (i := i) (this ▸ List.mem_cons_self)
    have hw := hwf _ hmem
    obtain ⟨s1, d1, o1, o2⟩ := of_ok k (by omega) (rd l (i : Int)) hw
    obtain ⟨s2, d2, p1, p2⟩ := plus_ok sg s1 s (rd l (i : Int)) d d1 hr o2 (by omega) (by omega) k (by omega)
    have hf := fit_is k (by omega) s2 (s + rd l (i : Int)) d2 p2 (by omega)
    unfold rstL
    rw [if_pos (show (i : Int) < l.length by omega), if_pos (show (0 : Int) ≤ i by omega), o1, Option.bind_some, p1, Option.bind_some, hf, Option.bind_some, rd_cons l i hlt]
    by_cases hc : -1048576 ≤ s + rd l (i : Int) ∧ s + rd l (i : Int) ≤ 1048576
    · have hok : okS s (rd l (i : Int) :: l.drop (i + 1)) = okS (s + rd l (i : Int)) (l.drop (i + 1)) := by
        show (decide _ && _) = _
        rw [decide_eq_true hc, Bool.true_and]
      have hm2 : okP ⟨0, s + rd l (i : Int)⟩ = true := okP_iff.2 ⟨by show (-1048576 : Int) ≤ 0; omega, by show (0 : Int) ≤ 1048576; omega, hc.1, hc.2⟩
      rw [if_pos (show -9223372036854775808 ≤ s + rd l (i : Int) ∧ s + rd l (i : Int) ≤ 9223372036854775807 from ⟨by omega, by omega⟩), if_pos rfl, rmay_is, Option.bind_some, hm2, if_pos rfl, if_pos (by simp; omega), w64 (by omega) (by omega), hok]
      have := ih (i + 1) k (acc ++ [⟨i, s + rd l (i : Int)⟩, ⟨(i : Int) + 1, s + rd l (i : Int)⟩]) (s + rd l (i : Int)) s2 d2 (by omega) (by omega) (by omega) (by simp [ha]; omega) hc p2
      rw [show ((i + 1 : Nat) : Int) = (i : Int) + 1 by omega] at this
      rw [List.append_assoc] at this
      rw [List.map_append] at this
      rw [List.append_assoc]
      exact this
    · have hok : okS s (rd l (i : Int) :: l.drop (i + 1)) = false := by
        show (decide _ && _) = _
        rw [decide_eq_false hc, Bool.false_and]
      rw [hok]
      by_cases hin : -9223372036854775808 ≤ s + rd l (i : Int) ∧ s + rd l (i : Int) ≤ 9223372036854775807
      · have hm2 : okP ⟨0, s + rd l (i : Int)⟩ = false := by
          rw [← Bool.not_eq_true, okP_iff]
          rintro ⟨_, _, h3, h4⟩
          exact hc ⟨h3, h4⟩
        rw [if_pos hin, if_pos rfl, rmay_is, Option.bind_some, hm2]; rfl
      · rw [if_neg hin]; rfl
/-- The document's stairs are the program's. -/
theorem rst_is (l : List Int) (hwf : ∀ n ∈ l, -9223372036854775808 ≤ n ∧ n ≤ 9223372036854775807) (k : Nat) (hk : 1000 ≤ k) : rst k l = some (cvs (STAIRS l)) := by
  unfold rst STAIRS
  by_cases h : l.length > 240
  · rw [if_pos h, if_pos h]; rfl
  · rw [if_neg (by omega), if_neg h]
    have := rst_l l (by omega) hwf l.length 0 k [⟨0, 0⟩] 0 0 [] (by omega) (by omega) (by omega) rfl (by omega) ⟨Dg.nil, .inl ⟨rfl, rfl, rfl⟩⟩
    rw [show ((0 : Nat) : Int) = 0 from rfl, List.drop_zero] at this
    exact this
end Dig
end Go.Proofs.Ytkfbmplhcigopaa.PPlo
