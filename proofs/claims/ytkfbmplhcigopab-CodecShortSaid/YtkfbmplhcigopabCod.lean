/- Numbers as bytes, as plain lists of integers: no Go in it. -/
namespace Go.Proofs.Ytkfbmplhcigopab.Cod

/-- the bytes of a number that is doubled -/
def enc (u : Nat) : List Int := if u < 128 then [(u : Int)] else ((u % 128 + 128 : Nat) : Int) :: enc (u / 128)
termination_by u
decreasing_by omega

theorem enc_lt {u : Nat} (h : u < 128) : enc u = [(u : Int)] := by rw [enc]; exact if_pos h
theorem enc_ge {u : Nat} (h : ¬ u < 128) : enc u = ((u % 128 + 128 : Nat) : Int) :: enc (u / 128) := by rw [enc]; exact if_neg h

theorem enc_ne (u : Nat) : enc u ≠ [] := by
  by_cases h : u < 128
  · rw [enc_lt h]; simp
  · rw [enc_ge h]; simp

theorem enc_pos (u : Nat) : 1 ≤ (enc u).length := by
  have := enc_ne u
  cases h : enc u with
  | nil => exact absurd h this
  | cons a l => simp

theorem enc_len (k : Nat) : ∀ u, u < 128 ^ (k + 1) → (enc u).length ≤ k + 1 := by
  induction k with
  | zero => intro u h; rw [enc_lt (by omega)]; simp
  | succ k ih =>
    intro u h
    by_cases hu : u < 128
    · rw [enc_lt hu]; simp
    · rw [enc_ge hu]
      have := ih (u / 128) (by rw [Nat.pow_succ] at h; omega)
      simp; omega

theorem enc_ten {u : Nat} (h : u < 18446744073709551616) : (enc u).length ≤ 10 := enc_len 9 u (by omega)

theorem enc_mono (u : Nat) : ∀ v, u ≤ v → (enc u).length ≤ (enc v).length := by
  induction u using Nat.strongRecOn with
  | ind u ih =>
    intro v h
    by_cases hu : u < 128
    · rw [enc_lt hu]; exact enc_pos v
    · rw [enc_ge hu, enc_ge (show ¬ v < 128 by omega)]
      have := ih (u / 128) (by omega) (v / 128) (by omega)
      simpa using this

theorem enc_half (s : Nat) : (enc (2 * s)).length = (enc (2 * s + 1)).length := by
  by_cases h : 2 * s < 128
  · rw [enc_lt h, enc_lt (by omega)]; simp
  · rw [enc_ge h, enc_ge (show ¬ 2 * s + 1 < 128 by omega), show (2 * s + 1) / 128 = 2 * s / 128 from by omega]; simp

/-- every byte is one -/
def Byt (l : List Int) : Prop := ∀ b ∈ l, 0 ≤ b ∧ b < 256

theorem enc_byt (u : Nat) : Byt (enc u) := by
  induction u using Nat.strongRecOn with
  | ind u ih =>
    by_cases hu : u < 128
    · rw [enc_lt hu]; intro b hb; simp at hb; omega
    · rw [enc_ge hu]; intro b hb
      rcases List.mem_cons.1 hb with h | h
      · subst h; omega
      · exact ih (u / 128) (by omega) b h

theorem Byt.append {l m : List Int} (h : Byt l) (h' : Byt m) : Byt (l ++ m) := by
  intro b hb; rcases List.mem_append.1 hb with x | x
  · exact h b x
  · exact h' b x

/-- the number that bytes begin with, of its doubled form, and what is behind -/
def dec : List Int → Option (Nat × List Int)
  | [] => none
  | b :: l => if b < 128 then some (b.toNat, l) else match dec l with
    | some (x, r) => if x = 0 then none else some ((b - 128).toNat + 128 * x, r)
    | none => none

theorem dec_enc (u : Nat) (r : List Int) : dec (enc u ++ r) = some (u, r) := by
  induction u using Nat.strongRecOn with
  | ind u ih =>
    by_cases hu : u < 128
    · rw [enc_lt hu]; simp only [List.cons_append, List.nil_append, dec]; rw [if_pos (by omega)]; simp
    · rw [enc_ge hu]; simp only [List.cons_append, dec]
      rw [if_neg (by omega), ih (u / 128) (by omega)]
      simp only
      rw [if_neg (by omega)]
      congr 2; omega

theorem enc_dec : ∀ (l : List Int) (u : Nat) (r : List Int), Byt l → dec l = some (u, r) → l = enc u ++ r
  | [], u, r, _, h => by simp [dec] at h
  | b :: l, u, r, hb, h => by
    have hb0 := hb b (by simp)
    have hbl : Byt l := fun c hc => hb c (by simp [hc])
    simp only [dec] at h
    by_cases h1 : b < 128
    · rw [if_pos h1] at h
      simp only [Option.some.injEq, Prod.mk.injEq] at h
      obtain ⟨rfl, rfl⟩ := h
      rw [enc_lt (by omega)]; simp; omega
    · rw [if_neg h1] at h
      cases hd : dec l with
      | none => rw [hd] at h; cases h
      | some p =>
        obtain ⟨x, r'⟩ := p
        rw [hd] at h
        simp only at h
        by_cases hx : x = 0
        · rw [if_pos hx] at h; cases h
        · rw [if_neg hx] at h
          simp only [Option.some.injEq, Prod.mk.injEq] at h
          obtain ⟨rfl, rfl⟩ := h
          have := enc_dec l x r' hbl hd
          rw [enc_ge (by omega), show ((b - 128).toNat + 128 * x) / 128 = x from by omega, this]
          simp; omega

/-- how a number is doubled -/
def zig (n : Int) : Nat := if 0 ≤ n then (2 * n).toNat else (-2 * n - 1).toNat
def unzig (u : Nat) : Int := if u % 2 = 0 then ((u / 2 : Nat) : Int) else -((u / 2 : Nat) : Int) - 1

theorem zig_unzig (u : Nat) : zig (unzig u) = u := by
  unfold zig unzig; by_cases h : u % 2 = 0
  · rw [if_pos h, if_pos (by omega)]; omega
  · rw [if_neg h, if_neg (by omega)]; omega
theorem unzig_zig (n : Int) : unzig (zig n) = n := by
  unfold zig unzig; by_cases h : 0 ≤ n
  · rw [if_pos h, if_pos (by omega)]; omega
  · rw [if_neg h, if_neg (by omega)]; omega
theorem zig_lt {n : Int} (h : -9223372036854775808 ≤ n) (h' : n ≤ 9223372036854775807) : zig n < 18446744073709551616 := by
  unfold zig; split <;> omega
theorem unzig_bd {u : Nat} (h : u < 18446744073709551616) : -9223372036854775808 ≤ unzig u ∧ unzig u ≤ 9223372036854775807 := by
  unfold unzig; split <;> omega

/-- what Take tells of bytes -/
def tk (l : List Int) : Int × Int × Int := match dec l with
  | some (u, r) => if u < 18446744073709551616 then (unzig u, (l.length : Int) - r.length, 0) else (0, 0, 2)
  | none => (0, 0, 2)

theorem tk_enc {u : Nat} (h : u < 18446744073709551616) (r : List Int) : tk (enc u ++ r) = (unzig u, ((enc u).length : Int), 0) := by
  unfold tk; rw [dec_enc]; simp only
  rw [if_pos h]; simp

/-- the value of bytes -/
def val : List Int → Nat
  | [] => 0
  | b :: l => (b % 128).toNat + 128 * val l

theorem val_enc (u : Nat) : val (enc u) = u := by
  induction u using Nat.strongRecOn with
  | ind u ih =>
    by_cases hu : u < 128
    · rw [enc_lt hu]; simp only [val]; omega
    · rw [enc_ge hu]; simp only [val]; rw [ih (u / 128) (by omega)]; omega

theorem val_append (l m : List Int) : val (l ++ m) = val l + 128 ^ l.length * val m := by
  induction l with
  | nil => simp [val]
  | cons b l ih => simp only [List.cons_append, val, ih, List.length_cons, Nat.pow_succ]; rw [Nat.mul_add, Nat.mul_comm (128 ^ l.length) 128, Nat.mul_assoc]; omega

theorem val_lt (l : List Int) : val l < 128 ^ l.length := by
  induction l with
  | nil => simp [val]
  | cons b l ih => simp only [val, List.length_cons, Nat.pow_succ]; omega

/-- all of a number's bytes but the last one are 128 or more, the last one isn't -/
theorem enc_at (u : Nat) : ∀ j, j < (enc u).length → ((enc u).getD j 0 < 128 ↔ j + 1 = (enc u).length) := by
  induction u using Nat.strongRecOn with
  | ind u ih =>
    intro j hj
    by_cases hu : u < 128
    · rw [enc_lt hu] at hj ⊢
      have : j = 0 := by simp at hj; omega
      subst this; simp; omega
    · rw [enc_ge hu] at hj ⊢
      have hp := enc_pos (u / 128)
      cases j with
      | zero => simp only [List.getD_cons_zero, List.length_cons]; omega
      | succ j =>
        have := ih (u / 128) (by omega) j (by simpa using hj)
        simpa using this

theorem getD_app (l m : List Int) (i : Nat) (h : i < l.length) : (l ++ m).getD i 0 = l.getD i 0 := by
  simp [List.getD_eq_getElem?_getD, List.getElem?_append_left h]

/-- nothing but its own bytes begins with a number's bytes: told by places -/
theorem enc_where (u : Nat) (r : List Int) (i : Nat) (h : ∀ j, j < i → 128 ≤ (enc u ++ r).getD j 0) : i < (enc u).length := by
  have hp := enc_pos u
  refine Classical.byContradiction fun hc => ?_
  have h1 := h ((enc u).length - 1) (by omega)
  have h2 := (enc_at u ((enc u).length - 1) (by omega)).2 (by omega)
  rw [getD_app _ _ _ (by omega)] at h1
  omega

theorem enc_there (u : Nat) (r : List Int) (i : Nat) (h : (enc u ++ r).getD i 0 < 128) (hi : i < (enc u).length) : (enc u).length = i + 1 := by
  rw [getD_app _ _ _ hi] at h
  exact ((enc_at u i hi).1 h).symm

/-- many numbers, one behind the other -/
def encs : List Int → List Int
  | [] => []
  | n :: l => enc (zig n) ++ encs l

theorem encs_append (l m : List Int) : encs (l ++ m) = encs l ++ encs m := by
  induction l with
  | nil => rfl
  | cons n l ih => simp [encs, ih]
theorem encs_byt (l : List Int) : Byt (encs l) := by
  induction l with
  | nil => intro b hb; cases hb
  | cons n l ih => exact (enc_byt _).append ih
theorem encs_len (l : List Int) (h : ∀ n ∈ l, -9223372036854775808 ≤ n ∧ n ≤ 9223372036854775807) : (encs l).length ≤ 10 * l.length := by
  induction l with
  | nil => simp [encs]
  | cons n l ih =>
    have h1 := ih (fun m hm => h m (by simp [hm]))
    have h2 := h n (by simp)
    have h3 := enc_ten (zig_lt h2.1 h2.2)
    simp [encs]; omega

/-- so many numbers of bytes, and what is behind -/
def nums : Nat → List Int → Option (List Int × List Int)
  | 0, l => some ([], l)
  | m + 1, l => if (tk l).2.2 = 0 then (match nums m (l.drop (tk l).2.1.toNat) with
    | some (a, r) => some ((tk l).1 :: a, r)
    | none => none) else none

theorem tk_cases (l : List Int) (hl : Byt l) : (∃ u r, u < 18446744073709551616 ∧ l = enc u ++ r ∧ tk l = (unzig u, ((enc u).length : Int), 0)) ∨ tk l = (0, 0, 2) := by
  unfold tk
  cases h : dec l with
  | none => exact Or.inr rfl
  | some p =>
    obtain ⟨u, r⟩ := p
    simp only
    have e := enc_dec l u r hl h
    by_cases hu : u < 18446744073709551616
    · rw [if_pos hu]; refine Or.inl ⟨u, r, hu, e, ?_⟩; rw [e]; simp
    · rw [if_neg hu]; exact Or.inr rfl

theorem nums_encs : ∀ (m : Nat) (l a r : List Int), Byt l → nums m l = some (a, r) → l = encs a ++ r ∧ a.length = m ∧ (∀ n ∈ a, -9223372036854775808 ≤ n ∧ n ≤ 9223372036854775807)
  | 0, l, a, r, _, h => by simp only [nums, Option.some.injEq, Prod.mk.injEq] at h; obtain ⟨rfl, rfl⟩ := h; exact ⟨rfl, rfl, fun n hn => by cases hn⟩
  | m + 1, l, a, r, hl, h => by
    simp only [nums] at h
    rcases tk_cases l hl with ⟨u, q, hu, e, ht⟩ | ht
    · rw [ht] at h
      simp only [if_true] at h
      have hd : l.drop ((enc u).length : Int).toNat = q := by rw [e]; simp
      rw [hd] at h
      cases hn : nums m q with
      | none => rw [hn] at h; cases h
      | some p =>
        obtain ⟨a', r'⟩ := p
        rw [hn] at h
        simp only [Option.some.injEq, Prod.mk.injEq] at h
        obtain ⟨rfl, rfl⟩ := h
        have hq : Byt q := fun b hb => hl b (by rw [e]; simp [hb])
        obtain ⟨h1, h2, h3⟩ := nums_encs m q a' r' hq hn
        refine ⟨?_, by simp [h2], ?_⟩
        · simp only [encs, zig_unzig]; rw [e, h1]; simp
        · intro n hn'; rcases List.mem_cons.1 hn' with x | x
          · subst x; exact unzig_bd hu
          · exact h3 n x
    · rw [ht] at h; simp at h

theorem nums_of : ∀ (a r : List Int), (∀ n ∈ a, -9223372036854775808 ≤ n ∧ n ≤ 9223372036854775807) → nums a.length (encs a ++ r) = some (a, r)
  | [], r, _ => rfl
  | n :: a, r, h => by
    have h2 := h n (by simp)
    have hz := zig_lt h2.1 h2.2
    simp only [List.length_cons, nums, encs, List.append_assoc]
    rw [tk_enc hz]
    simp only [if_true, unzig_zig]
    rw [show (enc (zig n) ++ (encs a ++ r)).drop (((enc (zig n)).length : Int).toNat) = encs a ++ r from by simp, nums_of a r (fun m hm => h m (by simp [hm]))]

end Go.Proofs.Ytkfbmplhcigopab.Cod
