import Derived.Test.YtkfbmplhcigopaaPPloF35
import Derived.Test.YtkfbmplhcigopaaPPloF31
import Derived.Test.YtkfbmplhcigopaaPPloF33
import Derived.Test.YtkfbmplhcigopaaPPloF37
import Derived.Test.YtkfbmplhcigopaaPPloF40
import Derived.Test.YtkfbmplhcigopaaPPloF29
set_option linter.unusedSimpArgs false
set_option linter.unusedVariables false
namespace Go.Proofs.Ytkfbmplhcigopaa.PPlo
open Go.RowKit Go.Proofs.YtkfbmplhcigopaaW.PrintWords Go.Proofs.YtkfbmplhcigopaaW.PrintLast Go.Proofs.YtkfbmplhcigopaaW.PrintMore

theorem w64 {n : Int} (h : -9223372036854775808 ≤ n) (h' : n ≤ 9223372036854775807) : wrap64 n = n := by unfold wrap64; omega

/-- A point may be. -/
def okP (p : S38) : Bool := decide (-1048576 ≤ p.f0 ∧ p.f0 ≤ 1048576 ∧ -1048576 ≤ p.f1 ∧ p.f1 ≤ 1048576)
theorem okP_iff {p : S38} : okP p = true ↔ (-1048576 ≤ p.f0 ∧ p.f0 ≤ 1048576 ∧ -1048576 ≤ p.f1 ∧ p.f1 ≤ 1048576) := by unfold okP; exact decide_eq_true_iff

theorem within_is (a : Int) : plot_within.f a = some (decide (-1048576 ≤ a ∧ a ≤ 1048576)) := by
  unfold plot_within.f
  by_cases h : a ≥ (-1048576)
  · rw [if_pos h]; congr 1; by_cases h2 : a ≤ 1048576 <;> simp [h2] <;> omega
  · rw [if_neg h]; congr 1; simp; omega

theorem may_is (x y : Int) : plot_Point_may.f x y = some (okP ⟨x, y⟩) := by
  unfold plot_Point_may.f
  rw [within_is, Option.bind_some]
  by_cases h : (-1048576 ≤ x ∧ x ≤ 1048576)
  · rw [if_pos (by simpa using h), within_is, Option.bind_some]
    congr 1; unfold okP; by_cases h2 : (-1048576 ≤ y ∧ y ≤ 1048576) <;> simp [h2, h] <;> omega
  · rw [if_neg (by simpa using h)]; congr 1; unfold okP; simp; omega

theorem test_is (x y : Int) : plot_check_1.f x y = some (!okP ⟨x, y⟩) := by
  unfold plot_check_1.f; rw [may_is, Option.bind_some]

theorem rd_drop (l : List S38) (i : Nat) (h : i < l.length) : l.drop i = rd_T38 l (i : Int) :: l.drop (i + 1) := by
  rw [List.drop_eq_getElem_cons h]; congr 1
  unfold rd_T38; simp [List.getD_eq_getElem?_getD, h]

theorem rd_eta (l : List S38) (i : Int) : (⟨(rd_T38 l i).f0, (rd_T38 l i).f1⟩ : S38) = rd_T38 l i := rfl

theorem index_is (l : List S38) (hl : l.length < 4611686018427387904) : ∀ (m i k : Nat), m = l.length - i → i ≤ l.length → m < k →
    ∃ r, plot_indexFunc.l0 k l 7 (l.length : Int) (i : Int) = some r ∧ (r ≥ 0 ↔ (l.drop i).all okP = false) := by
  intro m
  induction m with
  | zero =>
    intro i k hm hi hk
    obtain ⟨k, rfl⟩ := Nat.exists_eq_add_of_lt hk
    refine ⟨-1, ?_, ?_⟩
    · show plot_indexFunc.l0 (0 + k + 1) l 7 _ _ = _
      unfold plot_indexFunc.l0; rw [if_neg (by omega)]
    · rw [List.drop_eq_nil_of_le (by omega)]; simp
  | succ m ih =>
    intro i k hm hi hk
    obtain ⟨k, rfl⟩ : ∃ k', k = k' + 1 := ⟨k - 1, by omega⟩
    have hlt : i < l.length := by omega
    rw [rd_drop l i hlt]
    unfold plot_indexFunc.l0
    rw [if_pos (show (i : Int) < l.length by omega), if_pos (show (0 : Int) ≤ i by omega), if_pos (show (i : Int) < l.length by omega), test_is, Option.bind_some, rd_eta]
    by_cases h : okP (rd_T38 l i) = true
    · rw [h, if_neg (by simp)]
      obtain ⟨r, hr, hr2⟩ := ih (i + 1) k (by omega) (by omega) (by omega)
      refine ⟨r, ?_, ?_⟩
      · rw [w64 (by omega) (by omega)]; exact hr
      · rw [hr2, List.all_cons, h, Bool.true_and]
    · rw [Bool.not_eq_true] at h
      rw [h, if_pos (by simp)]
      refine ⟨i, rfl, ?_⟩
      rw [List.all_cons, h]; simp

/-- Why points may not be. -/
def CHK (l : List S38) (x y : Int) : Int := if l.length > 1000 then 4 else if okP ⟨x, y⟩ && l.all okP then 0 else 1

theorem check_is (l : List S38) (x y : Int) (k : Nat) (hk : 1001 ≤ k) : plot_check.f k l x y = some (CHK l x y) := by
  unfold plot_check.f CHK
  by_cases h : l.length > 1000
  · rw [if_pos (show (l.length : Int) > 1000 by omega), if_pos h]
  · rw [if_neg (show ¬ (l.length : Int) > 1000 by omega), if_neg h, may_is, Option.bind_some]
    by_cases hb : okP ⟨x, y⟩ = true
    · rw [hb, if_pos rfl]
      unfold plot_containsFunc.f plot_indexFunc.f
      obtain ⟨r, hr, hr2⟩ := index_is l (by omega) l.length 0 k (by omega) (by omega) (by omega)
      rw [show ((0 : Nat) : Int) = 0 from rfl] at hr
      rw [List.drop_zero] at hr2
      rw [hr, Option.bind_some, Option.bind_some]
      by_cases ha : l.all okP = true
      · rw [if_neg (by have : ¬ (r ≥ 0) := fun h => by rw [hr2.1 h] at ha; exact absurd ha (by simp)
                       simp [this]), ha]; rfl
      · rw [Bool.not_eq_true] at ha
        rw [if_pos (by simpa using hr2.2 ha), ha]; rfl
    · rw [Bool.not_eq_true] at hb
      rw [hb, if_neg (by simp)]; rfl

theorem CHK_0 {l : List S38} {x y : Int} (h : CHK l x y = 0) : l.length ≤ 1000 ∧ okP ⟨x, y⟩ = true ∧ ∀ p ∈ l, okP p = true := by
  unfold CHK at h
  split at h
  · exact absurd h (by decide)
  · split at h
    · rename_i h1 h2
      rw [Bool.and_eq_true] at h2
      exact ⟨by omega, h2.1, List.all_eq_true.1 h2.2⟩
    · exact absurd h (by decide)

theorem each_l (a2 : Nat × Nat → Option (Nat × Nat)) (g : S38 → S38) (l : List S38) (hl : l.length ≤ 1000)
    (hg : ∀ p ∈ l, ∃ c d, plot_Point_plane.f p.f0 p.f1 = some c ∧ a2 c = some d ∧ plot_point.f d = some ((g p).f0, (g p).f1)) :
    ∀ (m i k : Nat) (acc : List S38), m = l.length - i → i ≤ l.length → m < k → acc.length = i →
      plot_each.l0 k a2 acc l (l.length : Int) (i : Int) = some (if ((l.drop i).map g).all okP then (acc ++ (l.drop i).map g, 0) else ([], 3)) := by
  intro m
  induction m with
  | zero =>
    intro i k acc hm hi hk ha
    obtain ⟨k, rfl⟩ : ∃ k', k = k' + 1 := ⟨k - 1, by omega⟩
    unfold plot_each.l0
    rw [if_neg (by omega), List.drop_eq_nil_of_le (by omega)]; simp
  | succ m ih =>
    intro i k acc hm hi hk ha
    obtain ⟨k, rfl⟩ : ∃ k', k = k' + 1 := ⟨k - 1, by omega⟩
    have hlt : i < l.length := by omega
    have hmem : rd_T38 l (i : Int) ∈ l := by
      have := rd_drop l i hlt
      exact List.mem_of_mem_drop (i := i) (this ▸ List.mem_cons_self)
    obtain ⟨c, d, h1, h2, h3⟩ := hg _ hmem
    unfold plot_each.l0
    rw [if_pos (show (i : Int) < l.length by omega), if_pos (show (0 : Int) ≤ i by omega), if_pos (show (i : Int) < l.length by omega),
      h1, Option.bind_some, h2, Option.bind_some, h3, Option.bind_some, may_is, Option.bind_some, rd_drop l i hlt, List.map_cons, List.all_cons]
    have e : (⟨(g (rd_T38 l i)).f0, (g (rd_T38 l i)).f1⟩ : S38) = g (rd_T38 l i) := rfl
    rw [e]
    by_cases h : okP (g (rd_T38 l i)) = true
    · rw [h, if_pos rfl, if_pos (by omega), Bool.true_and, w64 (by omega) (by omega)]
      have := ih (i + 1) k (acc ++ [g (rd_T38 l i)]) (by omega) (by omega) (by omega) (by simp [ha])
      rw [show ((i + 1 : Nat) : Int) = (i : Int) + 1 by omega] at this
      rw [this, List.append_assoc]; rfl
    · rw [Bool.not_eq_true] at h
      rw [h, if_neg (by simp), Bool.false_and]; rfl

/-- What becomes of each point. -/
def EACH (g : S38 → S38) (l : List S38) (x y : Int) : List S38 × Int := if CHK l x y = 0 then (if (l.map g).all okP then (l.map g, 0) else ([], 3)) else ([], CHK l x y)

theorem each_is (a2 : Nat × Nat → Option (Nat × Nat)) (g : S38 → S38) (l : List S38) (x y : Int)
    (hg : ∀ p, okP p = true → okP ⟨x, y⟩ = true → ∃ c d, plot_Point_plane.f p.f0 p.f1 = some c ∧ a2 c = some d ∧ plot_point.f d = some ((g p).f0, (g p).f1)) (k : Nat) (hk : 1001 ≤ k) :
    plot_each.f k l x y a2 = some (EACH g l x y) := by
  unfold plot_each.f EACH
  rw [check_is l x y k hk, Option.bind_some]
  by_cases h : CHK l x y = 0
  · obtain ⟨h1, h2, h3⟩ := CHK_0 h
    have := each_l a2 g l h1 (fun p hp => hg p (h3 p hp) h2) l.length 0 k [] (by omega) (by omega) (by omega) rfl
    rw [show ((0 : Nat) : Int) = 0 from rfl, List.drop_zero] at this
    rw [if_pos h, if_pos h, this]; rfl
  · rw [if_neg h, if_neg h]

/- the three kinds -/
theorem small {a : Int} (h : -1048576 ≤ a) (h' : a ≤ 1048576) : a.natAbs < 2 ^ 53 := by omega
theorem prod_small {a b : Int} (h : -1048576 ≤ a) (h' : a ≤ 1048576) (g : -1048576 ≤ b) (g' : b ≤ 1048576) : -1099511627776 ≤ a * b ∧ a * b ≤ 1099511627776 := by
  have h1 : a.natAbs ≤ 1048576 := by omega
  have h2 : b.natAbs ≤ 1048576 := by omega
  have h3 : a.natAbs * b.natAbs ≤ 1048576 * 1048576 := Nat.mul_le_mul h1 h2
  rw [← Int.natAbs_mul] at h3
  omega

theorem point_is {c : Nat × Nat} {x y : Int} (hx : Flt.Rep c.1 x) (hy : Flt.Rep c.2 y) (bx : x.natAbs < 2 ^ 53) (by_ : y.natAbs < 2 ^ 53) : plot_point.f c = some (x, y) := by
  unfold plot_point.f
  rw [Flt.toInt hx bx, Option.bind_some, Flt.toInt hy by_, Option.bind_some]

def mulP (b p : S38) : S38 := ⟨p.f0 * b.f0 - p.f1 * b.f1, p.f0 * b.f1 + p.f1 * b.f0⟩
def addP (b p : S38) : S38 := ⟨p.f0 + b.f0, p.f1 + b.f1⟩
def mirP (p : S38) : S38 := ⟨p.f0, -p.f1⟩

theorem cmul_is {a b : Nat × Nat} {x y u v : Int} (hx : Flt.Rep a.1 x) (hy : Flt.Rep a.2 y) (hu : Flt.Rep b.1 u) (hv : Flt.Rep b.2 v)
    (bx : -1048576 ≤ x ∧ x ≤ 1048576) (b_y : -1048576 ≤ y ∧ y ≤ 1048576) (bu : -1048576 ≤ u ∧ u ≤ 1048576) (bv : -1048576 ≤ v ∧ v ≤ 1048576) :
    ∃ d : Nat × Nat, cMulBits a.1 a.2 b.1 b.2 = some d ∧ Flt.Rep d.1 (x * u - y * v) ∧ Flt.Rep d.2 (x * v + y * u) := by
  have p1 := prod_small bx.1 bx.2 bu.1 bu.2
  have p2 := prod_small b_y.1 b_y.2 bv.1 bv.2
  have p3 := prod_small bx.1 bx.2 bv.1 bv.2
  have p4 := prod_small b_y.1 b_y.2 bu.1 bu.2
  obtain ⟨ac, h1, r1⟩ := Flt.mul hx hu (by omega)
  obtain ⟨bd, h2, r2⟩ := Flt.mul hy hv (by omega)
  obtain ⟨re, h3, r3⟩ := Flt.sub r1 r2 (by omega)
  obtain ⟨ad, h4, r4⟩ := Flt.mul hx hv (by omega)
  obtain ⟨bc, h5, r5⟩ := Flt.mul hy hu (by omega)
  obtain ⟨im, h6, r6⟩ := Flt.add r4 r5 (by omega)
  refine ⟨(re, im), ?_, r3, r6⟩
  unfold cMulBits
  rw [h1, Option.bind_some, h2, Option.bind_some, h3, Option.bind_some, h4, Option.bind_some, h5, Option.bind_some, h6, Option.bind_some]

theorem times_g (x y : Int) (p : S38) (hp : okP p = true) (hb : okP ⟨x, y⟩ = true) :
    ∃ c d, plot_Point_plane.f p.f0 p.f1 = some c ∧ plot_Times_1.f c x y = some d ∧ plot_point.f d = some ((mulP ⟨x, y⟩ p).f0, (mulP ⟨x, y⟩ p).f1) := by
  obtain ⟨a1, a2, a3, a4⟩ := okP_iff.1 hp
  obtain ⟨b1, b2, b3, b4⟩ := okP_iff.1 hb
  have b1' : -1048576 ≤ x := b1
  have b2' : x ≤ 1048576 := b2
  have b3' : -1048576 ≤ y := b3
  have b4' : y ≤ 1048576 := b4
  obtain ⟨d, hd, r1, r2⟩ := cmul_is (a := (floatOfInt .f64 p.f0, floatOfInt .f64 p.f1)) (b := (floatOfInt .f64 x, floatOfInt .f64 y)) (Flt.ofInt p.f0 (by omega)) (Flt.ofInt p.f1 (by omega)) (Flt.ofInt x (by omega)) (Flt.ofInt y (by omega)) ⟨a1, a2⟩ ⟨a3, a4⟩ ⟨b1', b2'⟩ ⟨b3', b4'⟩
  have p1 := prod_small a1 a2 b1' b2'
  have p2 := prod_small a3 a4 b3' b4'
  have p3 := prod_small a1 a2 b3' b4'
  have p4 := prod_small a3 a4 b1' b2'
  refine ⟨_, d, rfl, ?_, point_is r1 r2 (show (p.f0 * x - p.f1 * y).natAbs < 2 ^ 53 by omega) (show (p.f0 * y + p.f1 * x).natAbs < 2 ^ 53 by omega)⟩
  unfold plot_Times_1.f plot_Point_plane.f
  rw [Option.bind_some]; exact hd

theorem moved_g (x y : Int) (p : S38) (hp : okP p = true) (hb : okP ⟨x, y⟩ = true) :
    ∃ c d, plot_Point_plane.f p.f0 p.f1 = some c ∧ plot_Moved_1.f c x y = some d ∧ plot_point.f d = some ((addP ⟨x, y⟩ p).f0, (addP ⟨x, y⟩ p).f1) := by
  obtain ⟨a1, a2, a3, a4⟩ := okP_iff.1 hp
  obtain ⟨b1, b2, b3, b4⟩ := okP_iff.1 hb
  have b1' : -1048576 ≤ x := b1
  have b2' : x ≤ 1048576 := b2
  have b3' : -1048576 ≤ y := b3
  have b4' : y ≤ 1048576 := b4
  obtain ⟨re, h1, r1⟩ := Flt.add (Flt.ofInt p.f0 (by omega)) (Flt.ofInt x (by omega)) (by omega)
  obtain ⟨im, h2, r2⟩ := Flt.add (Flt.ofInt p.f1 (by omega)) (Flt.ofInt y (by omega)) (by omega)
  refine ⟨_, (re, im), rfl, ?_, point_is r1 r2 (show (p.f0 + x).natAbs < 2 ^ 53 by omega) (show (p.f1 + y).natAbs < 2 ^ 53 by omega)⟩
  unfold plot_Moved_1.f plot_Point_plane.f
  rw [Option.bind_some]
  show cSumBits .add .f64 _ _ _ _ = _
  unfold cSumBits
  rw [h1, Option.bind_some, h2, Option.bind_some]

theorem mirror_g (p : S38) (hp : okP p = true) :
    ∃ c d, plot_Point_plane.f p.f0 p.f1 = some c ∧ plot_turned.f c = some d ∧ plot_point.f d = some ((mirP p).f0, (mirP p).f1) := by
  obtain ⟨a1, a2, a3, a4⟩ := okP_iff.1 hp
  have r1 := Flt.ofInt p.f0 (by omega)
  have r2 := Flt.neg (Flt.ofInt p.f1 (by omega))
  exact ⟨_, _, rfl, rfl, point_is r1 r2 (show p.f0.natAbs < 2 ^ 53 by omega) (show (-p.f1).natAbs < 2 ^ 53 by omega)⟩

theorem times_is (l : List S38) (x y : Int) (k : Nat) (hk : 1001 ≤ k) : plot_Times.f k l x y = some (EACH (mulP ⟨x, y⟩) l x y) := by
  unfold plot_Times.f
  rw [each_is (fun c => plot_Times_1.f c x y) (mulP ⟨x, y⟩) l x y (fun p hp hb => times_g x y p hp hb) k hk, Option.bind_some]
theorem moved_is (l : List S38) (x y : Int) (k : Nat) (hk : 1001 ≤ k) : plot_Moved.f k l x y = some (EACH (addP ⟨x, y⟩) l x y) := by
  unfold plot_Moved.f
  rw [each_is (fun c => plot_Moved_1.f c x y) (addP ⟨x, y⟩) l x y (fun p hp hb => moved_g x y p hp hb) k hk, Option.bind_some]
theorem mirror_is (l : List S38) (k : Nat) (hk : 1001 ≤ k) : plot_Mirror.f k l = some (EACH mirP l 0 0) := by
  unfold plot_Mirror.f
  rw [each_is plot_turned.f mirP l 0 0 (fun p hp hb => mirror_g p hp) k hk, Option.bind_some]

/- areas -/
def cr (p q : S38) : Int := p.f0 * q.f1 - p.f1 * q.f0
/-- along a path -/
def ps : S38 → List S38 → Int
  | _, [] => 0
  | p, q :: r => cr p q + ps q r
/-- twice the area -/
def AR : List S38 → Int
  | [] => 0
  | p :: r => ps p (r ++ [p])

theorem cr_small {p q : S38} (hp : okP p = true) (hq : okP q = true) : -2199023255552 ≤ cr p q ∧ cr p q ≤ 2199023255552 := by
  obtain ⟨a1, a2, a3, a4⟩ := okP_iff.1 hp
  obtain ⟨b1, b2, b3, b4⟩ := okP_iff.1 hq
  have p1 := prod_small a1 a2 b3 b4
  have p2 := prod_small a3 a4 b1 b2
  unfold cr; omega

theorem mulpoint_is (p q : S38) (hp : okP p = true) (hq : okP q = true) :
    ∃ c d e x, plot_Point_plane.f p.f0 p.f1 = some c ∧ plot_turned.f c = some d ∧ plot_Point_plane.f q.f0 q.f1 = some e ∧ plot_mulpoint.f d e = some (x, cr p q) := by
  obtain ⟨a1, a2, a3, a4⟩ := okP_iff.1 hp
  obtain ⟨b1, b2, b3, b4⟩ := okP_iff.1 hq
  have r1 := Flt.ofInt p.f0 (by omega)
  have r2 := Flt.neg (Flt.ofInt p.f1 (by omega))
  have r3 := Flt.ofInt q.f0 (by omega)
  have r4 := Flt.ofInt q.f1 (by omega)
  obtain ⟨d, hd, s1, s2⟩ := cmul_is (a := (floatOfInt .f64 p.f0, Op.negFloat .f64 (floatOfInt .f64 p.f1))) (b := (floatOfInt .f64 q.f0, floatOfInt .f64 q.f1)) r1 r2 r3 r4 ⟨a1, a2⟩ (by omega) ⟨b1, b2⟩ ⟨b3, b4⟩
  have p1 := prod_small a1 a2 b1 b2
  have p2 := prod_small (a := -p.f1) (by omega) (by omega) b3 b4
  have p3 := prod_small a1 a2 b3 b4
  have p4 := prod_small (a := -p.f1) (by omega) (by omega) b1 b2
  have e : p.f0 * q.f1 + -p.f1 * q.f0 = cr p q := by unfold cr; rw [Int.neg_mul]; omega
  rw [e] at s2
  have p5 := cr_small hp hq
  refine ⟨_, _, _, p.f0 * q.f0 - -p.f1 * q.f1, rfl, rfl, rfl, ?_⟩
  unfold plot_mulpoint.f
  show (cMulBits (floatOfInt .f64 p.f0) (Op.negFloat .f64 (floatOfInt .f64 p.f1)) (floatOfInt .f64 q.f0) (floatOfInt .f64 q.f1)).bind _ = _
  have hd' : cMulBits (floatOfInt .f64 p.f0) (Op.negFloat .f64 (floatOfInt .f64 p.f1)) (floatOfInt .f64 q.f0) (floatOfInt .f64 q.f1) = some d := hd
  rw [hd', Option.bind_some]
  exact point_is s1 s2 (by omega) (by omega)

/-- from a place on -/
def arFrom (l : List S38) (i : Nat) : Int := match l.drop i with
  | [] => 0
  | p :: r => ps p (r ++ [rd_T38 l 0])

theorem arFrom_step (l : List S38) (i : Nat) (h : i < l.length) :
    arFrom l i = cr (rd_T38 l (i : Int)) (rd_T38 l (Int.tmod ((i : Int) + 1) (l.length : Int))) + arFrom l (i + 1) := by
  unfold arFrom
  rw [rd_drop l i h]
  have e1 : Int.tmod ((i : Int) + 1) (l.length : Int) = if i + 1 < l.length then ((i + 1 : Nat) : Int) else 0 := by
    rw [Int.tmod_eq_emod_of_nonneg (by omega)]
    by_cases h1 : i + 1 < l.length
    · rw [if_pos h1, Int.emod_eq_of_lt (by omega) (by omega)]; omega
    · rw [if_neg h1]
      have : (i : Int) + 1 = l.length := by omega
      rw [this, Int.emod_self]
  by_cases h1 : i + 1 < l.length
  · rw [e1, if_pos h1, rd_drop l (i + 1) h1]; rfl
  · rw [e1, if_neg h1, List.drop_eq_nil_of_le (by omega)]
    show cr _ _ + 0 = cr _ _ + 0
    rfl

theorem area_l (l : List S38) (hl : l.length ≤ 1000) (hok : ∀ p ∈ l, okP p = true) :
    ∀ (m i k : Nat) (s : Int), m = l.length - i → i ≤ l.length → m < k → -(2199023255552 * i) ≤ s → s ≤ 2199023255552 * i →
      plot_Area.l0 k l s l (l.length : Int) (i : Int) = some (s + arFrom l i, 0) := by
  intro m
  induction m with
  | zero =>
    intro i k s hm hi hk hs1 hs2
    obtain ⟨k, rfl⟩ : ∃ k', k = k' + 1 := ⟨k - 1, by omega⟩
    unfold plot_Area.l0 arFrom
    rw [if_neg (by omega), List.drop_eq_nil_of_le (by omega)]; simp
  | succ m ih =>
    intro i k s hm hi hk hs1 hs2
    obtain ⟨k, rfl⟩ : ∃ k', k = k' + 1 := ⟨k - 1, by omega⟩
    have hlt : i < l.length := by omega
    have hmem : ∀ j : Nat, j < l.length → rd_T38 l (j : Int) ∈ l := by
      intro j hj
      have := rd_drop l j hj
      exact List.mem_of_mem_drop (i := j) (this ▸ List.mem_cons_self)
    have hw : wrap64 ((i : Int) + 1) = (i : Int) + 1 := w64 (by omega) (by omega)
    have hn0 : 0 ≤ Int.tmod ((i : Int) + 1) (l.length : Int) := Int.tmod_nonneg _ (by omega)
    have hn1 : Int.tmod ((i : Int) + 1) (l.length : Int) < l.length := Int.tmod_lt_of_pos _ (by omega)
    have hq : okP (rd_T38 l (Int.tmod ((i : Int) + 1) (l.length : Int))) = true := by
      have := hmem (Int.tmod ((i : Int) + 1) (l.length : Int)).toNat (by omega)
      rw [show (((Int.tmod ((i : Int) + 1) (l.length : Int)).toNat : Nat) : Int) = Int.tmod ((i : Int) + 1) (l.length : Int) by omega] at this
      exact hok _ this
    have hp := hok _ (hmem i hlt)
    obtain ⟨c, d, e, x, h1, h2, h3, h4⟩ := mulpoint_is _ _ hp hq
    have hc := cr_small hp hq
    unfold plot_Area.l0
    rw [hw, if_pos (show (i : Int) < l.length by omega), if_pos (show (0 : Int) ≤ i by omega), if_pos (show (i : Int) < l.length by omega),
      if_neg (show ¬ (l.length : Int) = 0 by omega), if_pos hn0, if_pos hn1,
      h1, Option.bind_some, h2, Option.bind_some, h3, Option.bind_some, h4, Option.bind_some]
    have hs : wrap64 (s + cr (rd_T38 l i) (rd_T38 l (Int.tmod ((i : Int) + 1) (l.length : Int)))) = s + cr (rd_T38 l i) (rd_T38 l (Int.tmod ((i : Int) + 1) (l.length : Int))) := w64 (by omega) (by omega)
    show plot_Area.l0 k l (wrap64 (s + cr (rd_T38 l i) (rd_T38 l (Int.tmod ((i : Int) + 1) (l.length : Int))))) l _ _ = _
    rw [hs]
    have := ih (i + 1) k (s + cr (rd_T38 l i) (rd_T38 l (Int.tmod ((i : Int) + 1) (l.length : Int)))) (by omega) (by omega) (by omega) (by omega) (by omega)
    rw [show ((i + 1 : Nat) : Int) = (i : Int) + 1 by omega] at this
    rw [this, arFrom_step l i hlt]
    congr 2; omega

/-- Twice the area, or why not. -/
def AREA (l : List S38) : Int × Int := if CHK l 0 0 = 0 then (AR l, 0) else (0, CHK l 0 0)
theorem arFrom_0 (l : List S38) : arFrom l 0 = AR l := by
  unfold arFrom AR
  cases l with
  | nil => rfl
  | cons p r => rfl
theorem area_is (l : List S38) (k : Nat) (hk : 1001 ≤ k) : plot_Area.f k l = some (AREA l) := by
  unfold plot_Area.f AREA
  rw [check_is l 0 0 k hk, Option.bind_some]
  by_cases h : CHK l 0 0 = 0
  · obtain ⟨h1, h2, h3⟩ := CHK_0 h
    have := area_l l h1 h3 l.length 0 k 0 (by omega) (by omega) (by omega) (by omega) (by omega)
    rw [show ((0 : Nat) : Int) = 0 from rfl, arFrom_0] at this
    rw [if_pos h, if_pos h, this, Int.zero_add]
  · rw [if_neg h, if_neg h]

/- same -/
def cv (p : S38) : S41 := ⟨p.f0, p.f1⟩
theorem cv_inj {p q : S38} (h : cv p = cv q) : p = q := by
  cases p; cases q; unfold cv at h; cases h; rfl
theorem own_l (l : List S38) (hl : l.length < 8796093022208) : ∀ (m i k : Nat) (acc : List S41), m = l.length - i → i ≤ l.length → m < k → acc.length = i →
    quitrentlaw21_own.l0 k l acc (l.length : Int) (i : Int) = some (acc ++ (l.drop i).map cv) := by
  intro m
  induction m with
  | zero =>
    intro i k acc hm hi hk ha
    obtain ⟨k, rfl⟩ : ∃ k', k = k' + 1 := ⟨k - 1, by omega⟩
    unfold quitrentlaw21_own.l0
    rw [if_neg (by omega), List.drop_eq_nil_of_le (by omega)]; simp
  | succ m ih =>
    intro i k acc hm hi hk ha
    obtain ⟨k, rfl⟩ : ∃ k', k = k' + 1 := ⟨k - 1, by omega⟩
    unfold quitrentlaw21_own.l0
    rw [if_pos (show (i : Int) < l.length by omega), if_pos (show (0 : Int) ≤ i by omega), if_pos (show (i : Int) < l.length by omega), if_pos (by omega), w64 (by omega) (by omega), rd_drop l i (by omega)]
    have := ih (i + 1) k (acc ++ [cv (rd_T38 l i)]) (by omega) (by omega) (by omega) (by simp [ha])
    rw [show ((i + 1 : Nat) : Int) = (i : Int) + 1 by omega] at this
    show quitrentlaw21_own.l0 k l (acc ++ [cv (rd_T38 l i)]) _ _ = _
    rw [this, List.append_assoc]; rfl
theorem own_is (l : List S38) (hl : l.length < 8796093022208) (k : Nat) (hk : l.length < k) : quitrentlaw21_own.f k l = some (l.map cv) := by
  unfold quitrentlaw21_own.f
  have := own_l l hl l.length 0 k [] (by omega) (by omega) (by omega) rfl
  rw [show ((0 : Nat) : Int) = 0 from rfl] at this
  rw [this]; rfl

theorem rd41_drop (l : List S41) (i : Nat) (h : i < l.length) : l.drop i = rd_T41 l (i : Int) :: l.drop (i + 1) := by
  rw [List.drop_eq_getElem_cons h]; congr 1
  unfold rd_T41; simp [List.getD_eq_getElem?_getD, h]
theorem Same_l (a b : List S41) (hl : a.length = b.length) (hn : a.length < 4611686018427387904) : ∀ (m i k : Nat), m = a.length - i → i ≤ a.length → m < k → a.drop i = b.drop i →
    quitrentref21_Same.l0 k a b (i : Int) = some true := by
  intro m
  induction m with
  | zero =>
    intro i k hm hi hk he
    obtain ⟨k, rfl⟩ : ∃ k', k = k' + 1 := ⟨k - 1, by omega⟩
    unfold quitrentref21_Same.l0
    rw [if_neg (by omega)]
  | succ m ih =>
    intro i k hm hi hk he
    obtain ⟨k, rfl⟩ : ∃ k', k = k' + 1 := ⟨k - 1, by omega⟩
    have h1 := rd41_drop a i (by omega)
    have h2 := rd41_drop b i (by omega)
    rw [h1, h2] at he
    obtain ⟨e1, e2⟩ := List.cons_eq_cons.1 he
    unfold quitrentref21_Same.l0
    rw [if_pos (show (i : Int) < a.length by omega), if_pos (show (0 : Int) ≤ i by omega), if_pos (show (i : Int) < b.length by omega), e1]
    rw [if_neg (by simp), w64 (by omega) (by omega)]
    have := ih (i + 1) k (by omega) (by omega) (by omega) e2
    rw [show ((i + 1 : Nat) : Int) = (i : Int) + 1 by omega] at this
    exact this
theorem Same_refl (a : List S41) (hn : a.length < 4611686018427387904) (k : Nat) (hk : a.length < k) : quitrentref21_Same.f k a a = some true := by
  unfold quitrentref21_Same.f
  rw [if_pos rfl]
  exact Same_l a a rfl hn a.length 0 k (by omega) (by omega) (by omega) rfl
theorem same_refl (l : List S38) (hn : l.length < 8796093022208) (k : Nat) (hk : l.length < k) : quitrentlaw21_same.f k l l = some true := by
  unfold quitrentlaw21_same.f
  rw [own_is l hn k hk, Option.bind_some, Option.bind_some, Same_refl _ (by simp; omega) k (by simpa using hk), Option.bind_some]

end Go.Proofs.Ytkfbmplhcigopaa.PPlo
