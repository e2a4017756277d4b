/- The plain laws CodecBack, CodecShort. -/
import Derived.Test.YtkfbmplhcigopabPCodF3
import Derived.Test.YtkfbmplhcigopabPCodF4
import Derived.Test.YtkfbmplhcigopabCodL
set_option linter.unusedSimpArgs false
set_option linter.unusedVariables false
namespace Go.Proofs.Ytkfbmplhcigopab.PCod
open Go.RowKit Go.Proofs.Ytkfbmplhcigopab Go.Proofs.YtkfbmplhcigopabW.PrintWords Go.Proofs.YtkfbmplhcigopabW.PrintLast Go.Proofs.YtkfbmplhcigopabW.PrintMore

theorem large_l (l : List ByteArray) (hlen : l.length ≤ 140737488355328) (hsz : ∀ s ∈ l, s.size ≤ 140737488355328) (c : Nat) : ∀ (k T i : Nat), i ≤ l.length → T ≤ 140737488360000 → 3001 - T ≤ c → c + 1 < k → ∃ b, quitrentlaw08_large.l0 k l (T : Int) (i : Int) = some b := by
  induction c with
  | zero =>
    intro k T i hi hT hc hk
    obtain ⟨k, rfl⟩ : ∃ j, k = j + 1 := ⟨k - 1, by omega⟩
    simp only [quitrentlaw08_large.l0]
    by_cases h : (i : Int) < l.length
    · rw [if_pos h, if_neg (by omega)]; exact ⟨_, rfl⟩
    · rw [if_neg h]; exact ⟨_, rfl⟩
  | succ c ih =>
    intro k T i hi hT hc hk
    obtain ⟨k, rfl⟩ : ∃ j, k = j + 1 := ⟨k - 1, by omega⟩
    simp only [quitrentlaw08_large.l0]
    by_cases h : (i : Int) < l.length
    · by_cases h2 : (T : Int) ≤ 3000
      · have hs : (l.getD i ByteArray.empty).size ≤ 140737488355328 := by
          apply hsz; simp [List.getD_eq_getElem?_getD, show i < l.length by omega]
        rw [if_pos h, if_pos h2, if_pos (by omega), rdOf_nat, w64 (n := ((l.getD i ByteArray.empty).size : Int) + 1) (by omega) (by omega), w64 (n := (T : Int) + (((l.getD i ByteArray.empty).size : Int) + 1)) (by omega) (by omega), w64 (n := (i : Int) + 1) (by omega) (by omega)]
        have := ih k (T + ((l.getD i ByteArray.empty).size + 1)) (i + 1) (by omega) (by omega) (by omega) (by omega)
        rw [show ((i + 1 : Nat) : Int) = (i : Int) + 1 from by omega, show ((T + ((l.getD i ByteArray.empty).size + 1) : Nat) : Int) = (T : Int) + (((l.getD i ByteArray.empty).size : Int) + 1) from by omega] at this
        exact this
      · rw [if_pos h, if_neg h2]; exact ⟨_, rfl⟩
    · rw [if_neg h]; exact ⟨_, rfl⟩

theorem large_f (k : Nat) (hk : 4000 ≤ k) (l : List ByteArray) (hlen : l.length ≤ 140737488355328) (hsz : ∀ s ∈ l, s.size ≤ 140737488355328) : ∃ b, quitrentlaw08_large.f k l = some b := by
  unfold quitrentlaw08_large.f
  exact large_l l hlen hsz 3001 k 0 0 (by omega) (by omega) (by omega) (by omega)
/- there and back -/
theorem put_bytes (kind : Int) (l : List Int) (h0 : 0 ≤ kind) (h1 : kind ≤ 255) (hl : l.length ≤ 64) : Cod.Byt (kind :: (l.length : Int) :: Cod.encs l) := by
  intro b hb
  rcases List.mem_cons.1 hb with x | x
  · subst x; omega
  · rcases List.mem_cons.1 x with y | y
    · subst y; omega
    · exact Cod.encs_byt l b y

theorem put_ok (kind : Int) (l : List Int) (h : (putS kind l).2 = 0) : 0 ≤ kind ∧ kind ≤ 255 ∧ l.length ≤ 64 ∧ putS kind l = (strOfNums (kind :: (l.length : Int) :: Cod.encs l), 0) := by
  unfold putS at h ⊢
  by_cases c : kind < 0 ∨ kind > 255 ∨ (l.length : Int) > 64
  · rw [if_pos c] at h; simp at h
  · rw [if_neg c]; exact ⟨by omega, by omega, by omega, rfl⟩

theorem put_size (kind : Int) (l : List Int) (hl : I64 l) (h : (putS kind l).2 = 0) : (putS kind l).1.size ≤ 700 := by
  obtain ⟨_, _, h2, e⟩ := put_ok kind l h
  have := Cod.encs_len l hl
  rw [e, strOfNums_size]; simp; omega

theorem put_back (kind : Int) (l : List Int) (hl : I64 l) (h : (putS kind l).2 = 0) : readS (bytesOf (putS kind l).1) = (kind, l, 0) := by
  obtain ⟨h0, h1, h2, e⟩ := put_ok kind l h
  rw [e, bytesOf_str _ (put_bytes kind l h0 h1 h2)]
  unfold readS
  have hn := Cod.nums_of l [] hl
  rw [List.append_nil] at hn
  rw [if_neg (by simp; omega)]
  simp [hn]

theorem put_more (kind : Int) (l : List Int) (hl : I64 l) (h : (putS kind l).2 = 0) : readS (bytesOf ((putS kind l).1 ++ (⟨#[0]⟩ : ByteArray))) = (0, [], 2) := by
  obtain ⟨h0, h1, h2, e⟩ := put_ok kind l h
  rw [e, bytesOf_append, bytesOf_str _ (put_bytes kind l h0 h1 h2)]
  unfold readS
  have hn := Cod.nums_of l [0] hl
  have e0 : bytesOf (⟨#[0]⟩ : ByteArray) = [0] := rfl
  rw [e0]
  rw [if_neg (by simp; omega)]
  simp [hn]

theorem read_back (s : ByteArray) (h : (readS (bytesOf s)).2.2 = 0) : putS (readS (bytesOf s)).1 (readS (bytesOf s)).2.1 = (s, 0) ∧ I64 (readS (bytesOf s)).2.1 := by
  have hz := bytesOf_size s
  have h0r := bt_range s 0
  have h1r := bt_range s 1
  have e1 : bt s 1 = (bytesOf s).getD 1 0 := bt_getD s 1
  have e0 : bt s 0 = (bytesOf s).getD 0 0 := bt_getD s 0
  unfold readS at h ⊢
  by_cases c : (bytesOf s).length < 2 ∨ (bytesOf s).getD 1 0 > 64
  · rw [if_pos c] at h; simp at h
  · rw [if_neg c] at h ⊢
    have hB : Cod.Byt ((bytesOf s).drop 2) := fun b h => byt_bytesOf s b (List.mem_of_mem_drop h)
    cases hn : Cod.nums ((bytesOf s).getD 1 0).toNat ((bytesOf s).drop 2) with
    | none => rw [hn] at h; simp at h
    | some p =>
      obtain ⟨a, r⟩ := p
      rw [hn] at h
      cases r with
      | cons b r => simp at h
      | nil =>
        obtain ⟨n1, n2, n3⟩ := Cod.nums_encs _ _ _ _ hB hn
        rw [List.append_nil] at n1
        refine ⟨?_, n3⟩
        simp only
        rw [← e0]
        have hsplit : bytesOf s = bt s 0 :: bt s 1 :: (bytesOf s).drop 2 := by
          have a := drop_cons s 0 (by omega)
          have b := drop_cons s 1 (by omega)
          rw [List.drop_zero] at a
          rw [show ((0 : Nat) : Int) = 0 from rfl] at a
          rw [show ((1 : Nat) : Int) = 1 from rfl] at b
          rw [← b]; exact a
        unfold putS
        rw [if_neg (by omega)]
        congr 1
        apply bytesOf_inj
        rw [bytesOf_str _ (put_bytes _ _ (by omega) (by omega) (by omega)), hsplit, n1]
        have : (a.length : Int) = bt s 1 := by omega
        rw [this]

theorem flat_len (l : List ByteArray) (h : ∀ s ∈ l, s.size ≤ 140737488355328) : (flat l).length ≤ 10 * l.length + total l := by
  induction l with
  | nil => simp [flat]
  | cons s l ih =>
    have h1 := ih (fun t ht => h t (by simp [ht]))
    have h2 := h s (by simp)
    have h3 := Cod.enc_ten (Cod.zig_lt (n := (s.size : Int)) (by omega) (by omega))
    simp only [flat, total, List.length_append, bytesOf_size, List.length_cons]; omega

theorem strs_of : ∀ (l : List ByteArray) (t : ByteArray) (R : List Int), (∀ s ∈ l, s.size ≤ 140737488355328) → bytesOf t = flat l ++ R → ∃ r, strs l.length t = some (l, r) ∧ bytesOf r = R
  | [], t, R, _, h => ⟨t, rfl, h⟩
  | s :: l, t, R, hs, h => by
    have h2 := hs s (by simp)
    have hz := Cod.zig_lt (n := (s.size : Int)) (by omega) (by omega)
    simp only [flat, List.append_assoc] at h
    have htk : Cod.tk (bytesOf t) = ((s.size : Int), ((Cod.enc (Cod.zig (s.size : Int))).length : Int), 0) := by rw [h, Cod.tk_enc hz, Cod.unzig_zig]
    have hts : t.size = (Cod.enc (Cod.zig (s.size : Int))).length + (s.size + ((flat l).length + R.length)) := by
      rw [← bytesOf_size, h]; simp only [List.length_append, bytesOf_size]
    simp only [List.length_cons, strs]
    rw [htk]
    simp only [if_true]
    rw [if_neg (by omega)]
    generalize Cod.enc (Cod.zig (s.size : Int)) = e at *
    have p1 : t.extract ((e.length : Int)).toNat ((e.length : Int) + (s.size : Int)).toNat = s := by
      apply bytesOf_inj
      rw [bytesOf_part, h, show ((e.length : Int)).toNat = e.length from by omega, show ((e.length : Int) + (s.size : Int)).toNat - e.length = (bytesOf s).length from by rw [bytesOf_size]; omega]
      simp
    have p2 : bytesOf (t.extract ((e.length : Int) + (s.size : Int)).toNat t.size) = flat l ++ R := by
      rw [bytesOf_drop, h, show ((e.length : Int) + (s.size : Int)).toNat = e.length + (bytesOf s).length from by rw [bytesOf_size]; omega, ← List.drop_drop]
      simp
    obtain ⟨r, h3, h4⟩ := strs_of l _ R (fun t ht => hs t (by simp [ht])) p2
    rw [h3, p1]
    exact ⟨r, rfl, h4⟩

theorem list_ok (l : List ByteArray) (h : (listS l).2 = 0) : l.length ≤ 1000 ∧ total l ≤ 1048576 ∧ listS l = (strOfNums (Cod.enc (Cod.zig (l.length : Int)) ++ flat l), 0) := by
  unfold listS at h ⊢
  by_cases c : (l.length : Int) > 1000 ∨ total l > 1048576
  · rw [if_pos c] at h; simp at h
  · rw [if_neg c]; exact ⟨by omega, by omega, rfl⟩

theorem list_size (l : List ByteArray) (hs : ∀ s ∈ l, s.size ≤ 140737488355328) (h : (listS l).2 = 0) : (listS l).1.size ≤ 2000000 := by
  obtain ⟨h0, h1, e⟩ := list_ok l h
  have := flat_len l hs
  have h3 := Cod.enc_ten (Cod.zig_lt (n := (l.length : Int)) (by omega) (by omega))
  rw [e, strOfNums_size]; simp; omega

theorem list_back (l : List ByteArray) (hs : ∀ s ∈ l, s.size ≤ 140737488355328) (h : (listS l).2 = 0) : partsS (listS l).1 = (l, 0) := by
  obtain ⟨h0, h1, e⟩ := list_ok l h
  have hz := Cod.zig_lt (n := (l.length : Int)) (by omega) (by omega)
  rw [e]
  have hb : bytesOf (strOfNums (Cod.enc (Cod.zig (l.length : Int)) ++ flat l)) = Cod.enc (Cod.zig (l.length : Int)) ++ flat l := bytesOf_str _ ((Cod.enc_byt _).append (flat_byt _))
  simp only
  generalize strOfNums (Cod.enc (Cod.zig (l.length : Int)) ++ flat l) = t at hb
  have htk : Cod.tk (bytesOf t) = ((l.length : Int), ((Cod.enc (Cod.zig (l.length : Int))).length : Int), 0) := by rw [hb, Cod.tk_enc hz, Cod.unzig_zig]
  unfold partsS
  rw [htk]
  simp only
  rw [if_pos ⟨trivial, by omega, by omega⟩]
  have hr : bytesOf (t.extract (((Cod.enc (Cod.zig (l.length : Int))).length : Int)).toNat t.size) = flat l ++ [] := by rw [bytesOf_drop, hb]; simp
  obtain ⟨r, h3, h4⟩ := strs_of l _ [] hs hr
  rw [show ((l.length : Int)).toNat = l.length from by omega, h3]
  simp only
  rw [if_pos ⟨h4, h1⟩]

theorem parts_back (s : ByteArray) (h : (partsS s).2 = 0) : listS (partsS s).1 = (s, 0) := by
  unfold partsS at h ⊢
  by_cases c : (Cod.tk (bytesOf s)).2.2 = 0 ∧ 0 ≤ (Cod.tk (bytesOf s)).1 ∧ (Cod.tk (bytesOf s)).1 ≤ 1000
  · rw [if_pos c] at h ⊢
    cases hn : strs (Cod.tk (bytesOf s)).1.toNat (s.extract (Cod.tk (bytesOf s)).2.1.toNat s.size) with
    | none => rw [hn] at h; simp at h
    | some p =>
      obtain ⟨a, r⟩ := p
      rw [hn] at h
      simp only at h ⊢
      obtain ⟨n1, n2, n3, n4⟩ := strs_flat _ _ _ _ hn
      by_cases c2 : bytesOf r = [] ∧ total a ≤ 1048576
      · rw [if_pos c2]
        simp only
        unfold listS
        rw [if_neg (by omega)]
        congr 1
        apply bytesOf_inj
        rw [bytesOf_str _ ((Cod.enc_byt _).append (flat_byt _))]
        rcases take_parts s with ⟨u, q, hu, e, ht⟩ | ht
        · rw [ht] at n1 n2 c
          simp only at n1 n2 c
          rw [bytesOf_drop, c2.1, List.append_nil] at n1
          have hz : Cod.zig (a.length : Int) = u := by rw [show (a.length : Int) = Cod.unzig u from by omega, Cod.zig_unzig]
          have hq : q = (bytesOf s).drop ((Cod.enc u).length : Int).toNat := by rw [e]; simp
          rw [hz, ← n1, ← hq, e]
        · rw [ht] at c; simp at c
      · rw [if_neg c2] at h; simp at h
  · rw [if_neg c] at h; simp at h

theorem j5_true (k : Nat) (hk : 2000 ≤ k) (s : ByteArray) (hs : s.size ≤ 140737488355328) : quitrentlaw08_CodecBack.j5 k s = some true := by
  obtain ⟨k, rfl⟩ : ∃ j, k = j + 1 := ⟨k - 1, by omega⟩
  have hb := partsS_bd s
  simp only [quitrentlaw08_CodecBack.j5]
  rw [parts_f k (by omega) s hs, Option.bind_some]
  by_cases h : (partsS s).2 = 0
  · rw [if_pos h, list_f k (by omega) _ (fun t ht => by have := hb.2 t ht; omega), parts_back s h, Option.bind_some, if_pos rfl, if_pos rfl]
  · rw [if_neg h]

theorem j4_true (k : Nat) (hk : 2500 ≤ k) (l : List ByteArray) (hn : l.length ≤ 140737488355328) (hl : ∀ s ∈ l, s.size ≤ 140737488355328) (s : ByteArray) (hs : s.size ≤ 140737488355328) : quitrentlaw08_CodecBack.j4 k l s = some true := by
  obtain ⟨k, rfl⟩ : ∃ j, k = j + 1 := ⟨k - 1, by omega⟩
  simp only [quitrentlaw08_CodecBack.j4]
  rw [list_f k (by omega) l hl, Option.bind_some]
  by_cases h : (listS l).2 = 0
  · have hz := list_size l hl h
    have hlen := (list_ok l h).1
    rw [if_pos h, parts_f k (by omega) _ (by omega), list_back l hl h, Option.bind_some, same_f k l hn (by omega), Option.bind_some, if_pos rfl, if_pos rfl, j5_true k (by omega) s hs]
  · rw [if_neg h, j5_true k (by omega) s hs]

theorem j3_true (k : Nat) (hk : 3000 ≤ k) (l : List ByteArray) (hn : l.length ≤ 140737488355328) (hl : ∀ s ∈ l, s.size ≤ 140737488355328) (s : ByteArray) (hs : s.size ≤ 140737488355328) : quitrentlaw08_CodecBack.j3 k l s = some true := by
  obtain ⟨k, rfl⟩ : ∃ j, k = j + 1 := ⟨k - 1, by omega⟩
  simp only [quitrentlaw08_CodecBack.j3]
  rw [read_f k (by omega) s hs, Option.bind_some]
  by_cases h : (readS (bytesOf s)).2.2 = 0
  · obtain ⟨h1, h2⟩ := read_back s h
    rw [if_pos h, put_f k (by omega) _ _ h2, h1, Option.bind_some, if_pos rfl, if_pos rfl, j4_true k (by omega) l hn hl s hs]
  · rw [if_neg h, j4_true k (by omega) l hn hl s hs]

theorem j1_true (k : Nat) (hk : 4000 ≤ k) (kind : Int) (a : List Int) (ha : I64 a) (l : List ByteArray) (hn : l.length ≤ 140737488355328) (hl : ∀ s ∈ l, s.size ≤ 140737488355328) (s : ByteArray) (hs : s.size ≤ 140737488355328) : quitrentlaw08_CodecBack.j1 k l s false kind a = some true := by
  obtain ⟨k, rfl⟩ : ∃ j, k = j + 2 := ⟨k - 2, by omega⟩
  simp only [quitrentlaw08_CodecBack.j1]
  rw [if_neg (by decide), put_f (k + 1) (by omega) kind a ha, Option.bind_some]
  by_cases h : (putS kind a).2 = 0
  · have hz := put_size kind a ha h
    have hlen := (put_ok kind a h).2.2.1
    rw [if_pos h, read_f (k + 1) (by omega) _ (by omega), put_back kind a ha h, Option.bind_some, if_pos rfl, longs_f (k + 1) a (by omega) (by omega), Option.bind_some, if_pos rfl]
    have e1 : ((putS kind a).1 ++ (⟨#[0]⟩ : ByteArray)).size = (putS kind a).1.size + 1 := by rw [ByteArray.size_append]; rfl
    simp only [quitrentlaw08_CodecBack.j2]
    rw [if_neg (by decide), if_pos (by omega), read_f k (by omega) _ (by omega), put_more kind a ha h, Option.bind_some, if_pos rfl, j3_true k (by omega) l hn hl s hs]
  · rw [if_neg h, j3_true (k + 1) (by omega) l hn hl s hs]

theorem back (n kind : Int) (a : List Int) (l : List ByteArray) (s : ByteArray) (hn : (Lit.int .i64 n).wf = true) (ha : I64 a) (hlen : l.length ≤ 140737488355328) (hl : ∀ s ∈ l, s.size ≤ 140737488355328) (hs : s.size ≤ 140737488355328) :
    quitrentlaw08_CodecBack.f 6000 n kind a l s = some true := by
  have hn := wf_bd hn
  have bad : quitrentlaw08_CodecBack.j0 6000 n l s true kind a = some true := by simp only [quitrentlaw08_CodecBack.j0]; rfl
  obtain ⟨b, hb⟩ := large_f 6000 (by omega) l hlen hl
  unfold quitrentlaw08_CodecBack.f
  rw [awake_f 6000 (by omega), Option.bind_some, if_pos rfl]
  by_cases h1 : (a.length : Int) > 70
  · rw [if_pos h1, bad]
  rw [if_neg h1, hb, Option.bind_some]
  cases b with
  | true => rw [if_pos rfl, bad]
  | false =>
    rw [if_neg (by decide)]
    by_cases h2 : (s.size : Int) > 3000
    · rw [decide_eq_true h2, bad]
    rw [decide_eq_false h2]
    have hz := Cod.zig_lt hn.1 hn.2
    have he := Cod.enc_ten hz
    have hb2 : bytesOf (strOfNums (Cod.enc (Cod.zig n)) ++ s) = Cod.enc (Cod.zig n) ++ bytesOf s := by rw [bytesOf_append, bytesOf_str _ (Cod.enc_byt _)]
    have hsz : (strOfNums (Cod.enc (Cod.zig n)) ++ s).size = (Cod.enc (Cod.zig n)).length + s.size := by rw [ByteArray.size_append, strOfNums_size]
    simp only [quitrentlaw08_CodecBack.j0]
    rw [if_neg (by decide), number_f 5999 (by omega) n hn.1 hn.2, Option.bind_some, if_pos (by rw [strOfNums_size]; omega), take_f 5999 (by omega) _ (by omega), hb2, Cod.tk_enc hz, Cod.unzig_zig, Option.bind_some, if_pos rfl, if_pos (by rw [strOfNums_size])]
    exact j1_true 5999 (by omega) kind a ha l hlen hl s hs
theorem size_half (n : Int) : Cod.zig n = 2 * (if n < 0 then (-(n + 1)) else n).toNat ∨ Cod.zig n = 2 * (if n < 0 then (-(n + 1)) else n).toNat + 1 := by
  unfold Cod.zig
  by_cases h : n < 0
  · rw [if_pos h, if_neg (by omega)]; omega
  · rw [if_neg h, if_pos (by omega)]; omega

theorem len_of (n : Int) : (Cod.enc (Cod.zig n)).length = (Cod.enc (2 * (if n < 0 then (-(n + 1)) else n).toNat)).length := by
  rcases size_half n with h | h
  · rw [h]
  · rw [h, Cod.enc_half]

theorem short (a b : Int) (ha : (Lit.int .i64 a).wf = true) (hb : (Lit.int .i64 b).wf = true) : quitrentlaw08_CodecShort.f 6000 a b = some true := by
  have ha := wf_bd ha
  have hb := wf_bd hb
  have za := Cod.enc_ten (Cod.zig_lt ha.1 ha.2)
  have zb := Cod.enc_ten (Cod.zig_lt hb.1 hb.2)
  have pa := Cod.enc_pos (Cod.zig a)
  have la := len_of a
  have lb := len_of b
  unfold quitrentlaw08_CodecShort.f
  rw [awake_f 6000 (by omega), Option.bind_some, if_pos rfl, number_f 6000 (by omega) a ha.1 ha.2, Option.bind_some, number_f 6000 (by omega) b hb.1 hb.2, Option.bind_some]
  have sa : (strOfNums (Cod.enc (Cod.zig a))).size = (Cod.enc (Cod.zig a)).length := strOfNums_size _
  have sb : (strOfNums (Cod.enc (Cod.zig b))).size = (Cod.enc (Cod.zig b)).length := strOfNums_size _
  rw [if_neg (by omega), if_neg (by omega), show decide (((strOfNums (Cod.enc (Cod.zig b))).size : Int) > 10) = false from by simp; omega]
  simp only [quitrentlaw08_CodecShort.j0]
  rw [if_neg (by decide)]
  -- of sizes x, y
  have fin : ∀ x y : Int, 0 ≤ x → 0 ≤ y → (Cod.enc (Cod.zig a)).length = (Cod.enc (2 * x.toNat)).length → (Cod.enc (Cod.zig b)).length = (Cod.enc (2 * y.toNat)).length →
      (if x ≤ y then (if ((strOfNums (Cod.enc (Cod.zig a))).size : Int) ≤ ((strOfNums (Cod.enc (Cod.zig b))).size : Int) then (some true) else (if x > y then (some (decide (((strOfNums (Cod.enc (Cod.zig a))).size : Int) ≥ ((strOfNums (Cod.enc (Cod.zig b))).size : Int)))) else (none))) else (if x > y then (some (decide (((strOfNums (Cod.enc (Cod.zig a))).size : Int) ≥ ((strOfNums (Cod.enc (Cod.zig b))).size : Int)))) else (none))) = some true := by
    intro x y hx hy e1 e2
    by_cases h : x ≤ y
    · have := Cod.enc_mono (2 * x.toNat) (2 * y.toNat) (by omega)
      rw [if_pos h, if_pos (by omega)]
    · have := Cod.enc_mono (2 * y.toNat) (2 * x.toNat) (by omega)
      rw [if_neg h, if_pos (by omega)]
      congr 1; rw [decide_eq_true_iff]; omega
  by_cases h1 : a < 0
  · rw [if_pos h1] at la
    rw [if_pos h1, w64 (n := a + 1) (by omega) (by omega), w64 (n := -(a + 1)) (by omega) (by omega)]
    by_cases h2 : b < 0
    · rw [if_pos h2] at lb
      rw [if_pos h2, w64 (n := b + 1) (by omega) (by omega), w64 (n := -(b + 1)) (by omega) (by omega)]
      exact fin _ _ (by omega) (by omega) la lb
    · rw [if_neg h2] at lb
      rw [if_neg h2]
      exact fin _ _ (by omega) (by omega) la lb
  · rw [if_neg h1] at la
    rw [if_neg h1]
    by_cases h2 : b < 0
    · rw [if_pos h2] at lb
      rw [if_pos h2, w64 (n := b + 1) (by omega) (by omega), w64 (n := -(b + 1)) (by omega) (by omega)]
      exact fin _ _ (by omega) (by omega) la lb
    · rw [if_neg h2] at lb
      rw [if_neg h2]
      exact fin _ _ (by omega) (by omega) la lb

end Go.Proofs.Ytkfbmplhcigopab.PCod
