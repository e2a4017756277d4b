/- What the printed functions tell of lists of texts; awake. -/
import Derived.Test.YtkfbmplhcigopabPCodF8
import Derived.Test.YtkfbmplhcigopabCodP
set_option linter.unusedSimpArgs false
set_option linter.unusedVariables false
namespace Go.Proofs.Ytkfbmplhcigopab.PCod
open Go.RowKit Go.Proofs.Ytkfbmplhcigopab Go.Proofs.YtkfbmplhcigopabW.PrintWords Go.Proofs.YtkfbmplhcigopabW.PrintLast Go.Proofs.YtkfbmplhcigopabW.PrintMore

theorem longs_l (l : List Int) (hl : l.length ≤ 140737488355328) (d : Nat) : ∀ (k i : Nat), i + d = l.length → d < k → quitrentref08_Longs.l0 k l l (i : Int) = some true := by
  induction d with
  | zero =>
    intro k i hi hk
    obtain ⟨k, rfl⟩ : ∃ j, k = j + 1 := ⟨k - 1, by omega⟩
    simp only [quitrentref08_Longs.l0]; rw [if_neg (by omega)]
  | succ d ih =>
    intro k i hi hk
    obtain ⟨k, rfl⟩ : ∃ j, k = j + 1 := ⟨k - 1, by omega⟩
    simp only [quitrentref08_Longs.l0]
    have := ih k (i + 1) (by omega) (by omega)
    rw [show ((i + 1 : Nat) : Int) = (i : Int) + 1 from by omega] at this
    rw [if_pos (by omega), if_pos (by omega), if_pos (by omega), if_pos trivial, w64 (n := (i : Int) + 1) (by omega) (by omega)]
    exact this

theorem longs_f (k : Nat) (l : List Int) (hl : l.length ≤ 140737488355328) (hk : l.length < k) : quitrentref08_Longs.f k l l = some true := by
  unfold quitrentref08_Longs.f
  rw [if_pos rfl]
  have := longs_l l hl l.length k 0 (by omega) (by omega)
  exact this

theorem readS_len (s : ByteArray) : (readS (bytesOf s)).2.1.length ≤ 64 := by
  unfold readS
  split
  · simp
  · rename_i h
    split
    · rename_i a hn
      have hB : Cod.Byt ((bytesOf s).drop 2) := fun b h => byt_bytesOf s b (List.mem_of_mem_drop h)
      have := (Cod.nums_encs _ _ _ _ hB hn).2.1
      simp only; omega
    · simp
/- lists of texts -/
def total : List ByteArray → Nat
  | [] => 0
  | s :: l => s.size + total l
def flat : List ByteArray → List Int
  | [] => []
  | s :: l => Cod.enc (Cod.zig (s.size : Int)) ++ bytesOf s ++ flat l
theorem flat_byt (l : List ByteArray) : Cod.Byt (flat l) := by
  induction l with
  | nil => intro b hb; cases hb
  | cons s l ih => exact ((Cod.enc_byt _).append (byt_bytesOf s)).append ih
theorem rdOf_nat (l : List ByteArray) (i : Nat) : rdOf ByteArray.empty l (i : Int) = l.getD i ByteArray.empty := by unfold rdOf; simp
theorem texts_drop (l : List ByteArray) (i : Nat) (h : i < l.length) : l.drop i = l.getD i ByteArray.empty :: l.drop (i + 1) := by
  rw [List.drop_eq_getElem_cons h]; simp [List.getD_eq_getElem?_getD, h]
theorem total_drop (l : List ByteArray) (i : Nat) (h : i < l.length) : total (l.drop i) = (l.getD i ByteArray.empty).size + total (l.drop (i + 1)) := by
  rw [texts_drop l i h]; rfl
theorem total_le (l : List ByteArray) (i : Nat) : total (l.drop i) ≤ total l := by
  induction l generalizing i with
  | nil => simp [total]
  | cons s l ih =>
    cases i with
    | zero => simp
    | succ i => have := ih i; simp only [List.drop_succ_cons, total]; omega
theorem total_append (l m : List ByteArray) : total (l ++ m) = total l + total m := by
  induction l with
  | nil => simp [total]
  | cons s l ih => simp only [List.cons_append, total, ih]; omega

/-- what List tells -/
def listS (l : List ByteArray) : ByteArray × Int := if (l.length : Int) > 1000 ∨ total l > 1048576 then (⟨#[]⟩, 4) else (strOfNums (Cod.enc (Cod.zig (l.length : Int)) ++ flat l), 0)

theorem list_l (l : List ByteArray) (hlen : l.length ≤ 1000) (hsz : ∀ s ∈ l, s.size ≤ 140737488355328) (d : Nat) : ∀ (k T : Nat) (acc : List Int) (i : Nat), i + d = l.length → T ≤ 1048576 → acc.length ≤ 10 + T + 10 * i → d + 40 < k →
    codec_List.l0 k (T : Int) acc l (l.length : Int) (i : Int) = some (if T + total (l.drop i) > 1048576 then (⟨#[]⟩, 4) else (strOfNums (acc ++ flat (l.drop i)), 0)) := by
  induction d with
  | zero =>
    intro k T acc i hi hT ha hk
    obtain ⟨k, rfl⟩ : ∃ j, k = j + 1 := ⟨k - 1, by omega⟩
    simp only [codec_List.l0]
    rw [if_neg (by omega), List.drop_of_length_le (by omega), if_neg (by simp [total]; omega)]; simp [flat]
  | succ d ih =>
    intro k T acc i hi hT ha hk
    obtain ⟨k, rfl⟩ : ∃ j, k = j + 1 := ⟨k - 1, by omega⟩
    have hs : (l.getD i ByteArray.empty).size ≤ 140737488355328 := by
      apply hsz; simp [List.getD_eq_getElem?_getD, show i < l.length by omega]
    have ht := total_drop l i (by omega)
    simp only [codec_List.l0]
    rw [if_pos (by omega), if_pos (by omega), if_pos (by omega), rdOf_nat, w64 (n := (T : Int) + ((l.getD i ByteArray.empty).size : Int)) (by omega) (by omega)]
    by_cases hbig : (T : Int) + ((l.getD i ByteArray.empty).size : Int) > 1048576
    · rw [if_pos hbig, if_pos (by omega)]
    · rw [if_neg hbig, lay_f k (by omega) acc _ (by omega) (by omega) (by omega), Option.bind_some]
      have he := Cod.enc_ten (Cod.zig_lt (n := ((l.getD i ByteArray.empty).size : Int)) (by omega) (by omega))
      rw [if_pos (by rw [List.length_append]; omega), w64 (n := (i : Int) + 1) (by omega) (by omega)]
      have := ih k (T + (l.getD i ByteArray.empty).size) (acc ++ Cod.enc (Cod.zig ((l.getD i ByteArray.empty).size : Int)) ++ bytesOf (l.getD i ByteArray.empty)) (i + 1) (by omega) (by omega)
        (by rw [List.length_append, List.length_append, bytesOf_size]; omega) (by omega)
      rw [show ((i + 1 : Nat) : Int) = (i : Int) + 1 from by omega, show ((T + (l.getD i ByteArray.empty).size : Nat) : Int) = (T : Int) + ((l.getD i ByteArray.empty).size : Int) from by omega] at this
      rw [this, texts_drop l i (by omega)]
      simp only [total, flat, List.append_assoc, Nat.add_assoc]

theorem list_f (k : Nat) (hk : 1100 ≤ k) (l : List ByteArray) (hsz : ∀ s ∈ l, s.size ≤ 140737488355328) : codec_List.f k l = some (listS l) := by
  unfold codec_List.f listS
  by_cases h : (l.length : Int) > 1000
  · rw [if_pos h, if_pos (Or.inl h)]
  rw [if_neg h, lay_f k (by omega) [] _ (by omega) (by omega) (by simp), Option.bind_some]
  have he := Cod.enc_ten (Cod.zig_lt (n := (l.length : Int)) (by omega) (by omega))
  have := list_l l (by omega) hsz l.length k 0 ([] ++ Cod.enc (Cod.zig (l.length : Int))) 0 (by omega) (by omega) (by simp; omega) (by omega)
  rw [show ((0 : Nat) : Int) = 0 from rfl] at this
  rw [this]
  simp only [List.nil_append, List.drop_zero, Nat.zero_add]
  by_cases ht : total l > 1048576
  · rw [if_pos ht, if_pos (Or.inr ht)]
  · rw [if_neg ht, if_neg (fun x => x.elim h ht)]

/-- so many texts of bytes, and what is behind -/
def strs : Nat → ByteArray → Option (List ByteArray × ByteArray)
  | 0, s => some ([], s)
  | m + 1, s => if (Cod.tk (bytesOf s)).2.2 = 0 then
      if (Cod.tk (bytesOf s)).1 < 0 ∨ (Cod.tk (bytesOf s)).1 > (s.size : Int) - (Cod.tk (bytesOf s)).2.1 then none
      else match strs m (s.extract ((Cod.tk (bytesOf s)).2.1 + (Cod.tk (bytesOf s)).1).toNat s.size) with
        | some (a, r) => some (s.extract (Cod.tk (bytesOf s)).2.1.toNat ((Cod.tk (bytesOf s)).2.1 + (Cod.tk (bytesOf s)).1).toNat :: a, r)
        | none => none
    else none

/-- what Parts tells -/
def partsS (s : ByteArray) : List ByteArray × Int :=
  if (Cod.tk (bytesOf s)).2.2 = 0 ∧ 0 ≤ (Cod.tk (bytesOf s)).1 ∧ (Cod.tk (bytesOf s)).1 ≤ 1000 then
    match strs (Cod.tk (bytesOf s)).1.toNat (s.extract (Cod.tk (bytesOf s)).2.1.toNat s.size) with
    | some (a, r) => if bytesOf r = [] ∧ total a ≤ 1048576 then (a, 0) else ([], 2)
    | none => ([], 2)
  else ([], 2)

theorem extract_size (s : ByteArray) (a : Nat) : (s.extract a s.size).size = s.size - a := by rw [← bytesOf_size, bytesOf_drop, List.length_drop, bytesOf_size]
theorem part_size (s : ByteArray) (a b : Nat) (h : a ≤ b) (h' : b ≤ s.size) : (s.extract a b).size = b - a := by rw [← bytesOf_size, bytesOf_part, List.length_take, List.length_drop, bytesOf_size]; omega

theorem parts_l (m : Nat) (hm : m ≤ 1000) (d : Nat) : ∀ (k : Nat) (s : ByteArray) (i T : Nat) (acc : List ByteArray), i + d = m → s.size ≤ 140737488355328 → T + s.size ≤ 140737488355328 → acc.length ≤ i → total acc = T → d + 50 < k →
    codec_Parts.l0 k s acc (T : Int) (m : Int) (i : Int) = some (match strs d s with
      | some (a, r) => if bytesOf r = [] ∧ total (acc ++ a) ≤ 1048576 then (acc ++ a, 0) else ([], 2)
      | none => ([], 2)) := by
  induction d with
  | zero =>
    intro k s i T acc hi hs hT ha hta hk
    obtain ⟨k, rfl⟩ : ∃ j, k = j + 1 := ⟨k - 1, by omega⟩
    simp only [codec_Parts.l0]
    rw [if_neg (by omega)]
    simp only [strs, List.append_nil]
    by_cases h : bytesOf s = []
    · rw [if_pos ((toList_nil s).2 h)]
      by_cases ht : (T : Int) > 1048576
      · rw [if_pos ht, if_neg (by omega)]
      · rw [if_neg ht, if_pos ⟨h, by omega⟩]
    · rw [if_neg (fun x => h ((toList_nil s).1 x)), if_neg (fun x => h x.1)]
  | succ d ih =>
    intro k s i T acc hi hs hT ha hta hk
    obtain ⟨k, rfl⟩ : ∃ j, k = j + 1 := ⟨k - 1, by omega⟩
    simp only [codec_Parts.l0]
    rw [if_pos (by omega), take_f k (by omega) s hs, Option.bind_some]
    simp only [strs]
    rcases take_parts s with ⟨u, r, hu, e, ht⟩ | ht
    · have hle : (Cod.enc u).length ≤ s.size := by rw [← bytesOf_size, e]; simp
      obtain ⟨z1, z2⟩ := Cod.unzig_bd hu
      rw [ht]
      simp only [if_true]
      by_cases hn : Cod.unzig u < 0
      · rw [if_pos hn, if_pos (Or.inl hn)]
      rw [if_neg hn, w64 (n := (s.size : Int) - ((Cod.enc u).length : Int)) (by omega) (by omega)]
      by_cases hn2 : Cod.unzig u > (s.size : Int) - ((Cod.enc u).length : Int)
      · rw [if_pos hn2, if_pos (Or.inr hn2)]
      rw [if_neg hn2, if_neg (show ¬ (Cod.unzig u < 0 ∨ Cod.unzig u > (s.size : Int) - ((Cod.enc u).length : Int)) by omega), w64 (n := ((Cod.enc u).length : Int) + Cod.unzig u) (by omega) (by omega), if_pos (by omega), if_pos (by omega), if_pos (by omega), if_pos (by omega), if_pos (by omega),
        w64 (n := (T : Int) + Cod.unzig u) (by omega) (by omega), w64 (n := (i : Int) + 1) (by omega) (by omega)]
      have e1 := extract_size s (((Cod.enc u).length : Int) + Cod.unzig u).toNat
      have e2 := part_size s (((Cod.enc u).length : Int)).toNat (((Cod.enc u).length : Int) + Cod.unzig u).toNat (by omega) (by omega)
      have := ih k (s.extract (((Cod.enc u).length : Int) + Cod.unzig u).toNat s.size) (i + 1) (T + (Cod.unzig u).toNat) (acc ++ [s.extract (((Cod.enc u).length : Int)).toNat (((Cod.enc u).length : Int) + Cod.unzig u).toNat]) (by omega) (by omega) (by omega) (by simp; omega)
        (by rw [total_append, hta]; simp only [total]; omega) (by omega)
      rw [show ((i + 1 : Nat) : Int) = (i : Int) + 1 from by omega, show ((T + (Cod.unzig u).toNat : Nat) : Int) = (T : Int) + Cod.unzig u from by omega] at this
      rw [this]
      cases strs d (s.extract (((Cod.enc u).length : Int) + Cod.unzig u).toNat s.size) with
      | none => rfl
      | some p =>
        obtain ⟨a, q⟩ := p
        simp only [List.append_assoc, List.cons_append, List.nil_append]
    · rw [ht]; simp

theorem parts_f (k : Nat) (hk : 1200 ≤ k) (s : ByteArray) (hs : s.size ≤ 140737488355328) : codec_Parts.f k s = some (partsS s) := by
  obtain ⟨k, rfl⟩ : ∃ j, k = j + 1 := ⟨k - 1, by omega⟩
  unfold codec_Parts.f partsS
  rw [take_f (k + 1) (by omega) s hs, Option.bind_some]
  have bad : ∀ a b, codec_Parts.j0 (k + 1) s a b true = some ([], 2) := by intro a b; simp only [codec_Parts.j0]; rfl
  rcases take_parts s with ⟨u, r, hu, e, ht⟩ | ht
  · have hle : (Cod.enc u).length ≤ s.size := by rw [← bytesOf_size, e]; simp
    rw [ht]
    simp only
    rw [if_pos trivial]
    by_cases h1 : Cod.unzig u < 0
    · rw [if_pos h1, bad, if_neg (by omega)]
    rw [if_neg h1]
    by_cases h2 : Cod.unzig u > 1000
    · rw [decide_eq_true h2, bad, if_neg (by omega)]
    rw [decide_eq_false h2, if_pos ⟨trivial, by omega, by omega⟩]
    simp only [codec_Parts.j0]
    rw [if_neg (by decide), if_pos (by omega), if_pos (by omega)]
    have hes := extract_size s (((Cod.enc u).length : Int)).toNat
    have := parts_l (Cod.unzig u).toNat (by omega) (Cod.unzig u).toNat k (s.extract (((Cod.enc u).length : Int)).toNat s.size) 0 0 [] (by omega) (by omega) (by omega) (by simp) rfl (by omega)
    rw [show (((Cod.unzig u).toNat : Nat) : Int) = Cod.unzig u from by omega, show ((0 : Nat) : Int) = 0 from rfl] at this
    rw [this]
    simp only [List.nil_append]
  · rw [ht]
    simp only
    rw [if_neg (by decide), bad, if_neg (by simp)]

/-- what was parted is there, one behind the other -/
theorem strs_flat : ∀ (m : Nat) (s : ByteArray) (a : List ByteArray) (r : ByteArray), strs m s = some (a, r) → bytesOf s = flat a ++ bytesOf r ∧ a.length = m ∧ total a ≤ s.size ∧ (∀ t ∈ a, t.size ≤ s.size)
  | 0, s, a, r, h => by simp only [strs, Option.some.injEq, Prod.mk.injEq] at h; obtain ⟨rfl, rfl⟩ := h; exact ⟨rfl, rfl, by simp [total], fun t ht => by cases ht⟩
  | m + 1, s, a, r, h => by
    simp only [strs] at h
    rcases take_parts s with ⟨u, q, hu, e, ht⟩ | ht
    · have hle : (Cod.enc u).length ≤ s.size := by rw [← bytesOf_size, e]; simp
      rw [ht] at h
      simp only [if_true] at h
      by_cases hb : Cod.unzig u < 0 ∨ Cod.unzig u > (s.size : Int) - ((Cod.enc u).length : Int)
      · rw [if_pos hb] at h; cases h
      rw [if_neg hb] at h
      cases hn : strs m (s.extract (((Cod.enc u).length : Int) + Cod.unzig u).toNat s.size) with
      | none => rw [hn] at h; cases h
      | some p =>
        obtain ⟨a', r'⟩ := p
        rw [hn] at h
        simp only [Option.some.injEq, Prod.mk.injEq] at h
        obtain ⟨rfl, rfl⟩ := h
        obtain ⟨h1, h2, h3, h4⟩ := strs_flat m _ a' r' hn
        have e1 := extract_size s (((Cod.enc u).length : Int) + Cod.unzig u).toNat
        have e2 := part_size s (((Cod.enc u).length : Int)).toNat (((Cod.enc u).length : Int) + Cod.unzig u).toNat (by omega) (by omega)
        rw [bytesOf_drop] at h1
        have hq : q = (bytesOf s).drop (Cod.enc u).length := by rw [e]; simp
        refine ⟨?_, by simp [h2], ?_, ?_⟩
        · simp only [flat]
          rw [show ((s.extract (((Cod.enc u).length : Int)).toNat (((Cod.enc u).length : Int) + Cod.unzig u).toNat).size : Int) = Cod.unzig u from by omega, Cod.zig_unzig, bytesOf_part]
          rw [List.append_assoc, List.append_assoc, ← h1]
          rw [show (((Cod.enc u).length : Int)).toNat = (Cod.enc u).length from by omega, ← hq]
          rw [show (((Cod.enc u).length : Int) + Cod.unzig u).toNat = (Cod.enc u).length + (Cod.unzig u).toNat from by omega, show (Cod.enc u).length + (Cod.unzig u).toNat - (Cod.enc u).length = (Cod.unzig u).toNat from by omega]
          have hd : (bytesOf s).drop ((Cod.enc u).length + (Cod.unzig u).toNat) = q.drop (Cod.unzig u).toNat := by rw [hq, List.drop_drop]
          rw [hd, List.take_append_drop]; exact e
        · simp only [total]; omega
        · intro t htm
          rcases List.mem_cons.1 htm with x | x
          · subst x; omega
          · have := h4 t x; omega
    · rw [ht] at h; simp at h

theorem same_l (l : List ByteArray) (hl : l.length ≤ 140737488355328) (d : Nat) : ∀ (k i : Nat), i + d = l.length → d < k → quitrentref06_Same.l0 k l l (i : Int) = some true := by
  induction d with
  | zero =>
    intro k i hi hk
    obtain ⟨k, rfl⟩ : ∃ j, k = j + 1 := ⟨k - 1, by omega⟩
    simp only [quitrentref06_Same.l0]; rw [if_neg (by omega)]
  | succ d ih =>
    intro k i hi hk
    obtain ⟨k, rfl⟩ : ∃ j, k = j + 1 := ⟨k - 1, by omega⟩
    simp only [quitrentref06_Same.l0]
    have := ih k (i + 1) (by omega) (by omega)
    rw [show ((i + 1 : Nat) : Int) = (i : Int) + 1 from by omega] at this
    rw [if_pos (by omega), if_pos (by omega), if_pos (by omega), if_pos trivial, w64 (n := (i : Int) + 1) (by omega) (by omega)]
    exact this

theorem same_f (k : Nat) (l : List ByteArray) (hl : l.length ≤ 140737488355328) (hk : l.length < k) : quitrentref06_Same.f k l l = some true := by
  unfold quitrentref06_Same.f
  rw [if_pos rfl]
  exact same_l l hl l.length k 0 (by omega) (by omega)

theorem partsS_bd (s : ByteArray) : (partsS s).1.length ≤ 1000 ∧ (∀ t ∈ (partsS s).1, t.size ≤ s.size) := by
  unfold partsS
  split
  · rename_i h
    split
    · rename_i a r hn
      obtain ⟨h1, h2, h3, h4⟩ := strs_flat _ _ _ _ hn
      split
      · refine ⟨by simp only; omega, fun t ht => ?_⟩
        have := h4 t ht
        have h5 := extract_size s (Cod.tk (bytesOf s)).2.1.toNat
        omega
      · exact ⟨by simp, fun t ht => by cases ht⟩
    · exact ⟨by simp, fun t ht => by cases ht⟩
  · exact ⟨by simp, fun t ht => by cases ht⟩
/- awake -/
theorem bytesOf_lit (l : List UInt8) : bytesOf (⟨l.toArray⟩ : ByteArray) = l.map fun b => (b.toNat : Int) := by unfold bytesOf; simp
theorem enc_0 : Cod.enc 0 = [0] := Cod.enc_lt (by omega)
theorem enc_1 : Cod.enc 1 = [1] := Cod.enc_lt (by omega)
theorem enc_2 : Cod.enc 2 = [2] := Cod.enc_lt (by omega)
theorem enc_4 : Cod.enc 4 = [4] := Cod.enc_lt (by omega)
theorem enc_128 : Cod.enc 128 = [128, 1] := by rw [Cod.enc_ge (by omega), show 128 / 128 = 1 from rfl, enc_1]; rfl
theorem aw_put : putS 7 [-1, 64] = (strOfNums [7, 2, 1, 128, 1], 0) := by
  unfold putS; rw [if_neg (by simp)]
  simp only [Cod.encs, show Cod.zig (-1) = 1 from rfl, show Cod.zig 64 = 128 from rfl, enc_1, enc_128]; rfl
theorem byt5 : Cod.Byt [7, 2, 1, 128, 1] := by intro b hb; simp at hb; omega
theorem byt4 : Cod.Byt [4, 2, 97, 0] := by intro b hb; simp at hb; omega
theorem aw_read : readS [7, 2, 1, 128, 1] = (7, [-1, 64], 0) := by decide +kernel
theorem aw_bad : readS [7, 1, 128, 0] = (0, [], 2) := by decide +kernel
theorem aw_take : Cod.tk [128, 1, 120] = (64, 2, 0) := by decide +kernel
theorem aw_list : listS [(⟨#[97]⟩ : ByteArray), (⟨#[]⟩ : ByteArray)] = (strOfNums [4, 2, 97, 0], 0) := by
  unfold listS; rw [if_neg (by simp [total, ByteArray.size])]
  have e1 : Cod.zig (([(⟨#[97]⟩ : ByteArray), (⟨#[]⟩ : ByteArray)].length : Nat) : Int) = 4 := by decide +kernel
  have e2 : Cod.zig (((⟨#[97]⟩ : ByteArray).size : Nat) : Int) = 2 := by decide +kernel
  have e3 : Cod.zig (((⟨#[]⟩ : ByteArray).size : Nat) : Int) = 0 := by decide +kernel
  simp only [flat, e1, e2, e3, enc_4, enc_2, enc_0]; rfl
theorem aw_tk4 : Cod.tk (bytesOf (strOfNums [4, 2, 97, 0])) = (2, 1, 0) := by rw [bytesOf_str _ byt4]; decide +kernel
theorem aw_parts : partsS (strOfNums [4, 2, 97, 0]) = ([(⟨#[97]⟩ : ByteArray), (⟨#[]⟩ : ByteArray)], 0) := by
  unfold partsS
  rw [aw_tk4]
  simp only
  rw [if_pos (by decide), show (2 : Int).toNat = 1 + 1 from rfl]
  have s1 : bytesOf ((strOfNums [4, 2, 97, 0]).extract (1 : Int).toNat (strOfNums [4, 2, 97, 0]).size) = [2, 97, 0] := by rw [bytesOf_drop, bytesOf_str _ byt4]; rfl
  generalize (strOfNums [4, 2, 97, 0]).extract (1 : Int).toNat (strOfNums [4, 2, 97, 0]).size = s at s1
  have z1 : s.size = 3 := by rw [← bytesOf_size, s1]; rfl
  have t1 : Cod.tk (bytesOf s) = (1, 1, 0) := by rw [s1]; decide +kernel
  have s2 : bytesOf (s.extract ((1 : Int) + 1).toNat s.size) = [0] := by rw [bytesOf_drop, s1]; rfl
  have p1 : s.extract (1 : Int).toNat ((1 : Int) + 1).toNat = (⟨#[97]⟩ : ByteArray) := by apply bytesOf_inj; rw [bytesOf_part, s1]; rfl
  simp only [strs, t1]
  rw [if_pos trivial, if_neg (by omega), p1]
  generalize s.extract ((1 : Int) + 1).toNat s.size = t at s2
  have z2 : t.size = 1 := by rw [← bytesOf_size, s2]; rfl
  have t2 : Cod.tk (bytesOf t) = (0, 1, 0) := by rw [s2]; decide +kernel
  have s3 : bytesOf (t.extract ((1 : Int) + 0).toNat t.size) = [] := by rw [bytesOf_drop, s2]; rfl
  have p2 : t.extract (1 : Int).toNat ((1 : Int) + 0).toNat = (⟨#[]⟩ : ByteArray) := by apply bytesOf_inj; rw [bytesOf_part, s2]; rfl
  simp only [t2]
  rw [if_pos trivial, if_neg (by omega), p2]
  simp only [s3]
  rw [if_pos ⟨trivial, by simp [total, ByteArray.size]⟩]

theorem str_toList (l : List Int) : (strOfNums l).toList = l.map fun n => UInt8.ofNat n.toNat := by rw [Lib.toList_data]; rfl

theorem awake_f (k : Nat) (hk : 4000 ≤ k) : quitrentlaw08_awake.f k = some true := by
  have h64 : I64 [-1, 64] := by intro n hn; simp at hn; omega
  have b1 : bytesOf (⟨#[128, 1, 120]⟩ : ByteArray) = [128, 1, 120] := rfl
  have b2 : bytesOf (⟨#[7, 1, 128, 0]⟩ : ByteArray) = [7, 1, 128, 0] := rfl
  have n0 : codec_Number.f k 0 = some (strOfNums [0]) := by rw [number_f k (by omega) 0 (by omega) (by omega), show Cod.zig 0 = 0 from rfl, enc_0]
  have n1 : codec_Number.f k (-1) = some (strOfNums [1]) := by rw [number_f k (by omega) (-1) (by omega) (by omega), show Cod.zig (-1) = 1 from rfl, enc_1]
  have hl : ∀ s ∈ [(⟨#[97]⟩ : ByteArray), (⟨#[]⟩ : ByteArray)], s.size ≤ 140737488355328 := by intro s hs; simp at hs; rcases hs with rfl | rfl <;> simp [ByteArray.size]
  unfold quitrentlaw08_awake.f
  rw [take_f k (by omega) _ (by simp [ByteArray.size]), b1, aw_take, Option.bind_some, put_f k (by omega) 7 _ h64, aw_put, Option.bind_some, read_f k (by omega) _ (by rw [strOfNums_size]; simp), bytesOf_str _ byt5, aw_read, Option.bind_some,
    read_f k (by omega) _ (by simp [ByteArray.size]), b2, aw_bad, Option.bind_some, list_f k (by omega) _ hl, aw_list, Option.bind_some, parts_f k (by omega) _ (by rw [strOfNums_size]; simp), aw_parts, Option.bind_some, n0, Option.bind_some,
    if_pos (by rw [str_toList]; rfl), n1, Option.bind_some, if_pos (by rw [str_toList]; rfl), if_pos rfl, if_pos rfl, if_pos rfl, if_pos (by rw [str_toList]; rfl), if_pos rfl, if_pos rfl, longs_f k _ (by simp) (by simp; omega), Option.bind_some,
    if_pos rfl, if_pos rfl, if_pos rfl, if_pos (by rw [str_toList]; rfl), if_pos rfl, same_f k _ (by simp) (by simp; omega), Option.bind_some, if_pos rfl]
  rfl

end Go.Proofs.Ytkfbmplhcigopab.PCod
