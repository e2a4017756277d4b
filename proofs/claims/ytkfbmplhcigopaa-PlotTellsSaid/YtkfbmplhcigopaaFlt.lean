import Derived.Laws.ComplexArith
/- Whole numbers as floats: products, sums and negations of small whole numbers are exact in binary64. -/
set_option linter.unusedSimpArgs false
namespace Go.Proofs.Ytkfbmplhcigopaa.Flt
open Ieee

theorem signed_eq (s : Bool) (m up : Nat) : signed s m up = (if s then -1 else 1) * ((m : Int) * 2 ^ up) := by
  unfold signed
  cases s <;> simp [Nat.shiftLeft_eq]

/-- A datum that stands for a whole number. -/
def Val (d : Datum) (v : Int) : Prop := ∃ s m e, d = .number s m e ∧ signed s m e.toNat = v * 2 ^ (-e).toNat

/-- Of any place far enough down. -/
def At (s : Bool) (m : Nat) (e : Int) (v : Int) : Prop := ∀ k : Nat, 0 ≤ e + k → signed s m (e + k).toNat = v * 2 ^ k

theorem two_pos (t : Nat) : (2 : Int) ^ t ≠ 0 := by
  have : (0 : Int) < 2 ^ t := Int.pow_pos (by decide)
  omega

theorem signed_add (s : Bool) (m a t : Nat) : signed s m (a + t) = signed s m a * 2 ^ t := by
  rw [signed_eq, signed_eq, Int.pow_add, Int.mul_assoc, Int.mul_assoc]

theorem At_of {s : Bool} {m : Nat} {e v : Int} (k : Nat) (hk : 0 ≤ e + k) (h : signed s m (e + k).toNat = v * 2 ^ k) : At s m e v := by
  intro j hj
  by_cases hjk : k ≤ j
  · obtain ⟨t, rfl⟩ := Nat.exists_eq_add_of_le hjk
    have : (e + ((k + t : Nat) : Int)).toNat = (e + k).toNat + t := by omega
    rw [this, signed_add, h, Int.pow_add, Int.mul_assoc]
  · obtain ⟨t, rfl⟩ := Nat.exists_eq_add_of_le (Nat.le_of_lt (Nat.lt_of_not_le hjk))
    have e1 : (e + ((j + t : Nat) : Int)).toNat = (e + j).toNat + t := by omega
    rw [e1, signed_add, Int.pow_add, ← Int.mul_assoc] at h
    exact Int.eq_of_mul_eq_mul_right (two_pos t) h

theorem Val_iff {s : Bool} {m : Nat} {e v : Int} : Val (.number s m e) v ↔ At s m e v := by
  constructor
  · rintro ⟨s', m', e', h, hv⟩
    cases h
    refine At_of (-e).toNat (by omega) ?_
    have : (e + ((-e).toNat : Int)).toNat = e.toNat := by omega
    rw [this]; exact hv
  · intro h
    refine ⟨s, m, e, rfl, ?_⟩
    have := h (-e).toNat (by omega)
    have e1 : (e + ((-e).toNat : Int)).toNat = e.toNat := by omega
    rw [e1] at this; exact this

theorem sg_mul (s t : Bool) (m n a b : Nat) : signed (s ^^ t) (m * n) (a + b) = signed s m a * signed t n b := by
  simp only [signed_eq, Int.pow_add, Int.natCast_mul]
  have : ((m : Int) * n * (2 ^ a * 2 ^ b)) = (m * 2 ^ a) * (n * 2 ^ b) := by
    simp only [Int.mul_assoc, Int.mul_comm, Int.mul_left_comm]
  rw [this]
  cases s <;> cases t <;> simp [Int.neg_mul, Int.mul_neg]

theorem product {d1 d2 : Datum} {v1 v2 : Int} (h1 : Val d1 v1) (h2 : Val d2 v2) : ∃ d, d1.product d2 = some d ∧ Val d (v1 * v2) := by
  obtain ⟨s, m, i, rfl, hv1⟩ := h1
  obtain ⟨t, n, j, rfl, hv2⟩ := h2
  refine ⟨_, rfl, Val_iff.2 ?_⟩
  refine At_of ((-i).toNat + (-j).toNat) (by omega) ?_
  have : (i + j + (((-i).toNat + (-j).toNat : Nat) : Int)).toNat = i.toNat + j.toNat := by omega
  rw [this, sg_mul, hv1, hv2, Int.pow_add]
  simp only [Int.mul_assoc, Int.mul_comm, Int.mul_left_comm]

theorem signed_abs (x : Int) (b : Bool) (hb : x ≠ 0 → b = decide (x < 0)) : signed b x.natAbs 0 = x := by
  unfold signed
  by_cases h0 : x = 0
  · subst h0; cases b <;> simp
  · rw [hb h0]
    by_cases h : x < 0
    · simp [h]; omega
    · simp [h]; omega

theorem sum {d1 d2 : Datum} {v1 v2 : Int} (h1 : Val d1 v1) (h2 : Val d2 v2) : ∃ d, d1.sum d2 = some d ∧ Val d (v1 + v2) := by
  obtain ⟨s, m, i, rfl, hv1⟩ := h1
  obtain ⟨t, n, j, rfl, hv2⟩ := h2
  have a1 : At s m i v1 := Val_iff.1 ⟨_, _, _, rfl, hv1⟩
  have a2 : At t n j v2 := Val_iff.1 ⟨_, _, _, rfl, hv2⟩
  refine ⟨_, rfl, Val_iff.2 ?_⟩
  have hk : ∃ k : Nat, 0 ≤ min i j + k ∧ 0 ≤ i + k ∧ 0 ≤ j + k := ⟨(-i).toNat + (-j).toNat, by omega, by omega, by omega⟩
  obtain ⟨k, k0, k1, k2⟩ := hk
  refine At_of k k0 ?_
  have q1 := a1 k k1
  have q2 := a2 k k2
  have e1 : (i + (k : Int)).toNat = (i - min i j).toNat + (min i j + k).toNat := by omega
  have e2 : (j + (k : Int)).toNat = (j - min i j).toNat + (min i j + k).toNat := by omega
  rw [e1, signed_add] at q1
  rw [e2, signed_add] at q2
  have e3 : (min i j + (k : Int)).toNat = 0 + (min i j + k).toNat := by omega
  rw [e3, signed_add, signed_abs, Int.add_mul, q1, q2, Int.add_mul]
  intro hne
  simp only [hne, if_false]

theorem opposite {d : Datum} {v : Int} (h : Val d v) : Val d.opposite (-v) := by
  obtain ⟨s, m, e, rfl, hv⟩ := h
  refine ⟨!s, m, e, rfl, ?_⟩
  rw [Int.neg_mul, ← hv, signed_eq, signed_eq]
  cases s <;> simp

theorem signed_natAbs (s : Bool) (m u : Nat) : (signed s m u).natAbs = m * 2 ^ u := by
  rw [signed_eq]
  have : ((m : Int) * 2 ^ u).natAbs = m * 2 ^ u := by
    rw [show ((2 : Int) ^ u) = ((2 ^ u : Nat) : Int) by simp, ← Int.natCast_mul]; exact Int.natAbs_natCast _
  cases s <;> simp [Int.natAbs_neg, this, Int.natAbs_mul] 

/-- the size of it -/
theorem size {s : Bool} {m : Nat} {e v : Int} (h : At s m e v) : ∀ k : Nat, 0 ≤ e + k → m * 2 ^ (e + k).toNat = v.natAbs * 2 ^ k := by
  intro k hk
  have := congrArg Int.natAbs (h k hk)
  rw [signed_natAbs, Int.natAbs_mul] at this
  rw [this]
  simp [Int.natAbs_pow]

/-- the sign of it -/
theorem sgn {s : Bool} {m : Nat} {e v : Int} (h : At s m e v) (hv : v ≠ 0) : s = decide (v < 0) := by
  have q := h (-e).toNat (by omega)
  rw [signed_eq] at q
  have p1 : (0 : Int) < 2 ^ (-e).toNat := Int.pow_pos (by decide)
  have p2 : (0 : Int) < 2 ^ (e + ((-e).toNat : Int)).toNat := Int.pow_pos (by decide)
  have p3 : (0 : Int) ≤ (m : Int) * 2 ^ (e + ((-e).toNat : Int)).toNat := Int.mul_nonneg (by omega) (by omega)
  cases s
  · simp only [Bool.false_eq_true, if_false, Int.one_mul] at q
    have : 0 ≤ v := by
      rcases Int.lt_or_le v 0 with hl | hl
      · have := Int.mul_neg_of_neg_of_pos hl p1; omega
      · exact hl
    exact (decide_eq_false (by omega)).symm
  · simp only [if_true] at q
    have : v ≤ 0 := by
      rcases Int.lt_or_le 0 v with hl | hl
      · have := Int.mul_pos hl p1; omega
      · exact hl
    exact (decide_eq_true (by omega)).symm

theorem log2_mul_pow {n : Nat} (h : n ≠ 0) (e : Nat) : (n * 2 ^ e).log2 = n.log2 + e := by
  have hp : 0 < 2 ^ e := Nat.two_pow_pos e
  have := (Nat.log2_eq_iff h).1 rfl
  refine (Nat.log2_eq_iff (Nat.mul_ne_zero h (by omega))).2 ⟨?_, ?_⟩
  · rw [Nat.pow_add]; exact Nat.mul_le_mul_right _ this.1
  · rw [show n.log2 + e + 1 = (n.log2 + 1) + e by omega, Nat.pow_add]; exact Nat.mul_lt_mul_of_pos_right this.2 hp

theorem cut_none (way : Toward) (s : Bool) (n : Nat) : way.cut s n 0 = n := by
  unfold Toward.cut
  have : (1 : Nat) <<< min 0 (n.log2 + 2) = 1 := by simp
  simp only [this, Nat.div_one, Nat.mod_one]
  cases way <;> simp

theorem cut_even (way : Toward) (s : Bool) (n d : Nat) : way.cut s (n * 2 ^ d) d = n := by
  by_cases hn : n = 0
  · subst hn
    unfold Toward.cut
    simp only [Nat.zero_mul, Nat.zero_div, Nat.zero_mod]
    cases way <;> simp
  · unfold Toward.cut
    have h1 : min d ((n * 2 ^ d).log2 + 2) = d := by rw [log2_mul_pow hn]; omega
    have h2 : (1 : Nat) <<< d = 2 ^ d := by simp [Nat.shiftLeft_eq]
    have h3 : 0 < 2 ^ d := Nat.two_pow_pos d
    simp only [h1, h2, Nat.mul_div_cancel _ h3, Nat.mul_mod_left]
    cases way <;> simp <;> omega

/-- The bits stand for the whole number. -/
def Rep (b : Nat) (v : Int) : Prop := b < 18446744073709551616 ∧ Val (FloatKind.f64.format.read b) v

theorem read_word (s : Bool) (r : Nat) (hr : r < 9223372036854775808) : double.word s r / double.signWeight % 2 = s.toNat ∧ double.word s r % double.signWeight = r ∧ double.word s r < 18446744073709551616 := by
  have h1 : double.signWeight = 9223372036854775808 := by decide
  unfold Format.word
  rw [h1]
  cases s
  · simp only [Bool.false_eq_true, if_false, Bool.toNat_false]; omega
  · simp only [if_true, Bool.toNat_true]; omega

theorem rung_facts (P L K : Nat) (hP : 0 < P) (h1 : P ≤ K) (h2 : K < 2 * P) (hL : L < 53) :
    (L + 1022) * P + K < 2047 * P ∧ P ≤ (L + 1022) * P + K ∧ P + ((L + 1022) * P + K) % P = K ∧ ((L + 1022) * P + K) / P = L + 1023 := by
  obtain ⟨f, rfl⟩ := Nat.exists_eq_add_of_le h1
  have hf : f < P := by omega
  have e : (L + 1022) * P + (P + f) = f + P * (L + 1023) := by
    rw [show L + 1023 = (L + 1022) + 1 from rfl, Nat.mul_add, Nat.mul_one, Nat.mul_comm P]; omega
  rw [e]
  refine ⟨?_, ?_, ?_, ?_⟩
  · have : P * (L + 1023) ≤ P * 1075 := Nat.mul_le_mul_left _ (by omega)
    omega
  · have : P * 1 ≤ P * (L + 1023) := Nat.mul_le_mul_left _ (by omega)
    omega
  · rw [Nat.add_mul_mod_self_left, Nat.mod_eq_of_lt hf]
  · rw [Nat.add_mul_div_left _ _ hP, Nat.div_eq_of_lt hf]; omega

theorem write_val {s : Bool} {m : Nat} {e v : Int} (h : At s m e v) (hv : v.natAbs < 2 ^ 53) : Rep (FloatKind.f64.format.write (.number s m e)) v := by
  show Rep (double.nearest s m e) v
  unfold Format.nearest
  by_cases hm : m = 0
  · rw [if_pos hm]
    subst hm
    have hv0 : v = 0 := by
      have := size h (-e).toNat (by omega)
      have p : 0 < 2 ^ (-e).toNat := Nat.two_pow_pos _
      rw [Nat.zero_mul] at this
      have := Nat.mul_eq_zero.1 this.symm
      omega
    subst hv0
    obtain ⟨q1, q2, q3⟩ := read_word s 0 (by decide)
    refine ⟨q3, ?_⟩
    show Val (double.read _) 0
    unfold Format.read
    simp only [q1, q2]
    rw [if_pos (by decide)]
    refine ⟨_, _, _, rfl, ?_⟩
    rw [signed_eq]; simp
  · rw [if_neg hm]
    have hV0 : v.natAbs ≠ 0 := by
      intro h0
      have := size h (-e).toNat (by omega)
      rw [h0, Nat.zero_mul] at this
      have p : 0 < 2 ^ (e + ((-e).toNat : Int)).toNat := Nat.two_pow_pos _
      have := Nat.mul_eq_zero.1 this
      omega
    have hsg := sgn h (by omega)
    have hL : v.natAbs.log2 < 53 := (Nat.log2_lt hV0).2 hv
    have hlog : e + m.log2 = v.natAbs.log2 := by
      by_cases he : 0 ≤ e
      · have := size h 0 (by omega)
        simp only [Nat.pow_zero, Nat.mul_one] at this
        rw [← this, log2_mul_pow hm]; omega
      · have := size h (-e).toNat (by omega)
        have e1 : (e + ((-e).toNat : Int)).toNat = 0 := by omega
        rw [e1, Nat.pow_zero, Nat.mul_one] at this
        rw [this, log2_mul_pow hV0]; omega
    have hf : (double.fractionBits : Int) = 52 := rfl
    have hlp : double.leastPlace = -1074 := by decide
    have hlast : max (e + (m.log2 : Int) - double.fractionBits) double.leastPlace = (v.natAbs.log2 : Int) - 52 := by
      rw [hlp, hf, hlog]; omega
    simp only [hlast]
    obtain ⟨L, hLd⟩ : ∃ L, L = v.natAbs.log2 := ⟨_, rfl⟩
    rw [← hLd] at hL hlog ⊢
    have hk : Toward.even.cut s (m <<< (e - ((L : Int) - 52)).toNat) (((L : Int) - 52) - e).toNat = v.natAbs * 2 ^ (52 - L) := by
      by_cases hc : (L : Int) - 52 ≤ e
      · have e1 : (((L : Int) - 52) - e).toNat = 0 := by omega
        rw [e1, cut_none, Nat.shiftLeft_eq]
        have := size h (52 - L) (by omega)
        rw [← this]; congr 2; omega
      · have e1 : (e - ((L : Int) - 52)).toNat = 0 := by omega
        rw [e1, Nat.shiftLeft_zero]
        have := size h (-e).toNat (by omega)
        have e2 : (e + ((-e).toNat : Int)).toNat = 0 := by omega
        rw [e2, Nat.pow_zero, Nat.mul_one] at this
        rw [this]
        have e3 : (-e).toNat = (52 - L) + (((L : Int) - 52) - e).toNat := by omega
        rw [e3, Nat.pow_add, ← Nat.mul_assoc, cut_even]
    rw [hk]
    obtain ⟨K, hK⟩ : ∃ K, K = v.natAbs * 2 ^ (52 - L) := ⟨_, rfl⟩
    rw [← hK]
    have hb := (Nat.log2_eq_iff hV0).1 hLd.symm
    have hK1 : 2 ^ 52 ≤ K := by
      rw [hK, show (2 : Nat) ^ 52 = 2 ^ L * 2 ^ (52 - L) by rw [← Nat.pow_add]; congr 1; omega]
      exact Nat.mul_le_mul_right _ hb.1
    have hK2 : K < 2 ^ 53 := by
      rw [hK, show (2 : Nat) ^ 53 = 2 ^ (L + 1) * 2 ^ (52 - L) by rw [← Nat.pow_add]; congr 1; omega]
      exact Nat.mul_lt_mul_of_pos_right hb.2 (Nat.two_pow_pos _)
    obtain ⟨P, hP⟩ : ∃ P, P = double.binade := ⟨_, rfl⟩
    have hP' : P = 4503599627370496 := hP.trans (by decide)
    have hK1 : P ≤ K := by rw [hP']; exact hK1
    have hK2 : K < 2 * P := by rw [hP']; exact hK2
    have hinf : double.infRung = 2047 * P := by rw [hP]; decide
    have hup : ((L : Int) - 52 - double.leastPlace).toNat = L + 1022 := by rw [hlp]; omega
    obtain ⟨f1, f2, f3, f4⟩ := rung_facts P L K (by omega) hK1 hK2 hL
    obtain ⟨r, hr⟩ : ∃ r, r = (L + 1022) * P + K := ⟨_, rfl⟩
    rw [hup, ← hP, hinf]
    rw [← hr] at f1 f2 f3 f4 ⊢
    rw [Nat.min_eq_left (by omega)]
    obtain ⟨q1, q2, q3⟩ := read_word s r (by omega)
    refine ⟨q3, ?_⟩
    show Val (double.read _) v
    unfold Format.read
    simp only [q1, q2, ← hP, hinf]
    rw [if_neg (by omega), if_pos (by omega), hlp, f3, f4]
    have r2 : ((L + 1023 - 1 : Nat) : Int) = L + 1022 := by omega
    rw [r2]
    refine Val_iff.2 (At_of (52 - L) (by omega) ?_)
    have r3 : (-1074 + ((L : Int) + 1022) + ((52 - L : Nat) : Int)).toNat = 0 := by omega
    rw [r3, signed_eq, hK, hsg]
    have r4 : ((decide (v < 0)).toNat == 1) = decide (v < 0) := by cases decide (v < 0) <;> rfl
    simp only [r4]
    have r5 : ((v.natAbs * 2 ^ (52 - L) : Nat) : Int) = (v.natAbs : Int) * 2 ^ (52 - L) := by rw [Int.natCast_mul, Int.natCast_pow]; rfl
    rw [r5, Int.pow_zero, Int.mul_one, ← Int.mul_assoc]
    have r6 : (if decide (v < 0) then (-1 : Int) else 1) * (v.natAbs : Int) = v := by
      by_cases hn : v < 0
      · rw [if_pos (by simpa using hn)]; omega
      · rw [if_neg (by simpa using hn)]; omega
    rw [r6]

theorem mul {a b : Nat} {x y : Int} (ha : Rep a x) (hb : Rep b y) (h : (x * y).natAbs < 2 ^ 53) : ∃ r, floatBits .mul .f64 a b = some r ∧ Rep r (x * y) := by
  obtain ⟨d, hd, hv⟩ := product ha.2 hb.2
  refine ⟨FloatKind.f64.format.write d, by simp only [floatBits, Format.mul, hd, Option.map_some], ?_⟩
  obtain ⟨s, m, e, rfl, _⟩ := id hv
  exact write_val (Val_iff.1 hv) h

theorem add {a b : Nat} {x y : Int} (ha : Rep a x) (hb : Rep b y) (h : (x + y).natAbs < 2 ^ 53) : ∃ r, floatBits .add .f64 a b = some r ∧ Rep r (x + y) := by
  obtain ⟨d, hd, hv⟩ := sum ha.2 hb.2
  refine ⟨FloatKind.f64.format.write d, by simp only [floatBits, Format.add, hd, Option.map_some], ?_⟩
  obtain ⟨s, m, e, rfl, _⟩ := id hv
  exact write_val (Val_iff.1 hv) h

theorem sub {a b : Nat} {x y : Int} (ha : Rep a x) (hb : Rep b y) (h : (x - y).natAbs < 2 ^ 53) : ∃ r, floatBits .sub .f64 a b = some r ∧ Rep r (x - y) := by
  obtain ⟨d, hd, hv⟩ := sum ha.2 (opposite hb.2)
  rw [← Int.sub_eq_add_neg] at hv
  refine ⟨FloatKind.f64.format.write d, by simp only [floatBits, Format.sub, hd, Option.map_some], ?_⟩
  obtain ⟨s, m, e, rfl, _⟩ := id hv
  exact write_val (Val_iff.1 hv) h

theorem ofInt (n : Int) (h : n.natAbs < 2 ^ 53) : Rep (floatOfInt .f64 n) n := by
  refine write_val (Val_iff.1 ⟨_, _, _, rfl, ?_⟩) h
  have : signed (decide (n < 0)) n.natAbs 0 = n := signed_abs n _ (fun _ => rfl)
  simpa using this

theorem toInt {b : Nat} {v : Int} (h : Rep b v) (hv : v.natAbs < 2 ^ 53) : floatToIntVal .f64 b .i64 = some v := by
  obtain ⟨s, m, e, hd, hval⟩ := h.2
  have ha : At s m e v := Val_iff.1 ⟨_, _, _, rfl, hval⟩
  have key : (FloatKind.f64.decode b).toInt .zero = some v := by
    show (FloatKind.f64.format.read b).toInt .zero = some v
    rw [hd]
    unfold Datum.toInt Datum.integral
    simp only
    by_cases he : 0 ≤ e
    · have e1 : (-e).toNat = 0 := by omega
      rw [e1, cut_none]
      rw [e1, Int.pow_zero, Int.mul_one] at hval
      rw [← hval, signed_eq, signed_eq, Nat.shiftLeft_eq]; simp
    · have e1 : e.toNat = 0 := by omega
      rw [e1, Nat.shiftLeft_zero]
      have := size ha (-e).toNat (by omega)
      have e2 : (e + ((-e).toNat : Int)).toNat = 0 := by omega
      rw [e2, Nat.pow_zero, Nat.mul_one] at this
      rw [this, cut_even, signed_abs]
      intro hne
      exact sgn ha hne
  unfold floatToIntVal
  rw [key]
  have h1 : IntKind.min .i64 = -9223372036854775808 := rfl
  have h2 : IntKind.max .i64 = 9223372036854775807 := rfl
  simp only [h1, h2]
  rw [if_pos (by omega)]

theorem xor_top (r : Nat) (h : r < 2 ^ 63) : r ^^^ 2 ^ 63 = 2 ^ 63 + r := by
  apply Nat.eq_of_testBit_eq
  intro i
  rw [Nat.testBit_xor]
  by_cases h1 : i = 63
  · subst h1
    rw [Nat.testBit_two_pow_add_eq, Nat.testBit_two_pow_self]
    cases Nat.testBit r 63 <;> rfl
  · rw [Nat.testBit_two_pow_of_ne (by omega), Bool.xor_false]
    by_cases h2 : i < 63
    · rw [Nat.testBit_two_pow_add_gt h2]
    · have h3 : r < 2 ^ i := Nat.lt_of_lt_of_le h (Nat.pow_le_pow_right (by decide) (by omega))
      have h4 : 2 ^ 63 + r < 2 ^ i := by
        have : 2 ^ 64 ≤ 2 ^ i := Nat.pow_le_pow_right (by decide) (by omega)
        omega
      rw [Nat.testBit_lt_two_pow h3, Nat.testBit_lt_two_pow h4]

theorem read_flip (b c : Nat) (hb : b / double.signWeight % 2 = (1 + c / double.signWeight) % 2) (hr : b % double.signWeight = c % double.signWeight) : double.read b = (double.read c).opposite := by
  unfold Format.read
  have : (b / double.signWeight % 2 == 1) = !(c / double.signWeight % 2 == 1) := by
    rw [hb]
    have : c / double.signWeight % 2 = 0 ∨ c / double.signWeight % 2 = 1 := by omega
    rcases this with h | h
    · rw [Nat.add_mod, h]; rfl
    · rw [Nat.add_mod, h]; rfl
  simp only [this, hr]
  split
  · rfl
  · split
    · rfl
    · split <;> rfl

theorem neg {b : Nat} {v : Int} (h : Rep b v) : Rep (Op.negFloat .f64 b) (-v) := by
  obtain ⟨h1, h2⟩ := h
  have e : Op.negFloat .f64 b = b ^^^ 2 ^ 63 := rfl
  have hs : double.signWeight = 9223372036854775808 := by decide
  have key : Op.negFloat .f64 b < 18446744073709551616 ∧ Op.negFloat .f64 b / double.signWeight % 2 = (1 + b / double.signWeight) % 2 ∧ Op.negFloat .f64 b % double.signWeight = b % double.signWeight := by
    rw [e, hs]
    by_cases hb : b < 2 ^ 63
    · rw [xor_top b hb]; omega
    · obtain ⟨r, rfl⟩ := Nat.exists_eq_add_of_le (Nat.le_of_not_lt hb)
      have hr : r < 2 ^ 63 := by omega
      rw [← xor_top r hr, Nat.xor_assoc, Nat.xor_self, Nat.xor_zero, xor_top r hr]; omega
  refine ⟨key.1, ?_⟩
  show Val (double.read _) (-v)
  rw [read_flip _ _ key.2.1 key.2.2]
  exact opposite h2
end Go.Proofs.Ytkfbmplhcigopaa.Flt
