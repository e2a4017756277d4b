/- The plain law CodecLists. -/
import Derived.Test.YtkfbmplhcigopaaPCodF13
import Derived.Test.YtkfbmplhcigopaaPCodF55
import Derived.Test.YtkfbmplhcigopaaCodL
set_option linter.unusedSimpArgs false
set_option linter.unusedVariables false
namespace Go.Proofs.Ytkfbmplhcigopaa.PCod
open Go.RowKit Go.Proofs.Ytkfbmplhcigopaa Go.Proofs.YtkfbmplhcigopaaW.PrintWords Go.Proofs.YtkfbmplhcigopaaW.PrintLast Go.Proofs.YtkfbmplhcigopaaW.PrintMore

/- the reference: List, Parts -/
theorem rlist_l1 (l : List ByteArray) (hlen : l.length ≤ 1000) (hsz : ∀ s ∈ l, s.size ≤ 140737488355328) (d : Nat) : ∀ (k : Nat) (acc : ByteArray) (i : Nat), i + d = l.length → acc.size ≤ 10 + i * 140737488355400 → d + 60 < k →
    quitrentref08_List.l1 k l acc (i : Int) = some (acc ++ strOfNums (flat (l.drop i)), 0) := by
  induction d with
  | zero =>
    intro k acc i hi ha hk
    obtain ⟨k, rfl⟩ : ∃ j, k = j + 1 := ⟨k - 1, by omega⟩
    simp only [quitrentref08_List.l1]
    rw [if_neg (by omega), List.drop_of_length_le (by omega)]
    congr 2
    apply Go.WideShapes.bytes_inj; simp [flat, strOfNums]
  | succ d ih =>
    intro k acc i hi ha hk
    obtain ⟨k, rfl⟩ : ∃ j, k = j + 1 := ⟨k - 1, by omega⟩
    have hs : (l.getD i ByteArray.empty).size ≤ 140737488355328 := by
      apply hsz; simp [List.getD_eq_getElem?_getD, show i < l.length by omega]
    simp only [quitrentref08_List.l1]
    have he := Cod.enc_ten (Cod.zig_lt (n := ((l.getD i ByteArray.empty).size : Int)) (by omega) (by omega))
    have hi2 : i * 140737488355400 ≤ 999 * 140737488355400 := Nat.mul_le_mul_right _ (by omega)
    rw [if_pos (by omega), if_pos (by omega), rdOf_nat, rnumber_f k (by omega) _ (by omega) (by omega), Option.bind_some]
    have e1 : (acc ++ strOfNums (Cod.enc (Cod.zig ((l.getD i ByteArray.empty).size : Int)))).size = acc.size + (Cod.enc (Cod.zig ((l.getD i ByteArray.empty).size : Int))).length := by rw [ByteArray.size_append, strOfNums_size]
    rw [if_pos (by rw [strOfNums_size]; omega), if_pos (by rw [e1]; omega), w64 (n := (i : Int) + 1) (by omega) (by omega)]
    have := ih k (acc ++ strOfNums (Cod.enc (Cod.zig ((l.getD i ByteArray.empty).size : Int))) ++ l.getD i ByteArray.empty) (i + 1) (by omega) (by rw [ByteArray.size_append, e1]; omega) (by omega)
    rw [show ((i + 1 : Nat) : Int) = (i : Int) + 1 from by omega] at this
    rw [this, texts_drop l i (by omega)]
    congr 2
    apply bytesOf_inj
    simp only [bytesOf_append, flat]
    rw [bytesOf_str _ (Cod.enc_byt _), bytesOf_str _ (flat_byt _), bytesOf_str _ (((Cod.enc_byt _).append (byt_bytesOf _)).append (flat_byt _))]
    simp only [List.append_assoc]

theorem rlist_l0 (l : List ByteArray) (hlen : l.length ≤ 140737488355328) (hsz : ∀ s ∈ l, s.size ≤ 140737488355328) (d : Nat) : ∀ (k T i : Nat), i + d = min l.length 1000 → T + total (l.drop i) = total l → T ≤ 1048576 → d + 1200 < k →
    quitrentref08_List.l0 k l (T : Int) (i : Int) = some (listS l) := by
  induction d with
  | zero =>
    intro k T i hi hT hT2 hk
    obtain ⟨k, rfl⟩ : ∃ j, k = j + 1 := ⟨k - 1, by omega⟩
    simp only [quitrentref08_List.l0]
    by_cases h : (i : Int) < l.length
    · have hs : (l.getD i ByteArray.empty).size ≤ 140737488355328 := by
        apply hsz; simp [List.getD_eq_getElem?_getD, show i < l.length by omega]
      have ht := total_drop l i (by omega)
      rw [if_pos h, if_pos (by omega), rdOf_nat, w64 (n := (T : Int) + ((l.getD i ByteArray.empty).size : Int)) (by omega) (by omega)]
      have e : listS l = (⟨#[]⟩, 4) := by unfold listS; rw [if_pos (Or.inl (by omega))]
      rw [e]
      by_cases hbig : (T : Int) + ((l.getD i ByteArray.empty).size : Int) > 1048576
      · rw [if_pos hbig]
      · rw [if_neg hbig, if_pos (by omega)]
    · rw [if_neg h, rnumber_f k (by omega) _ (by omega) (by omega), Option.bind_some]
      have hd : l.drop i = [] := List.drop_of_length_le (by omega)
      have hT3 : total l ≤ 1048576 := by rw [hd] at hT; simp [total] at hT; omega
      have e : listS l = (strOfNums (Cod.enc (Cod.zig (l.length : Int)) ++ flat l), 0) := by unfold listS; rw [if_neg (by omega)]
      have he := Cod.enc_ten (Cod.zig_lt (n := (l.length : Int)) (by omega) (by omega))
      have := rlist_l1 l (by omega) hsz l.length k (strOfNums (Cod.enc (Cod.zig (l.length : Int)))) 0 (by omega) (by rw [strOfNums_size]; omega) (by omega)
      rw [show ((0 : Nat) : Int) = 0 from rfl] at this
      rw [this, e, List.drop_zero, str_append]
  | succ d ih =>
    intro k T i hi hT hT2 hk
    obtain ⟨k, rfl⟩ : ∃ j, k = j + 1 := ⟨k - 1, by omega⟩
    have hs : (l.getD i ByteArray.empty).size ≤ 140737488355328 := by
      apply hsz; simp [List.getD_eq_getElem?_getD, show i < l.length by omega]
    have ht := total_drop l i (by omega)
    simp only [quitrentref08_List.l0]
    rw [if_pos (by omega), if_pos (by omega), rdOf_nat, w64 (n := (T : Int) + ((l.getD i ByteArray.empty).size : Int)) (by omega) (by omega)]
    by_cases hbig : (T : Int) + ((l.getD i ByteArray.empty).size : Int) > 1048576
    · rw [if_pos hbig]
      unfold listS; rw [if_pos (Or.inr (by omega))]
    · rw [if_neg hbig, if_neg (by omega), w64 (n := (i : Int) + 1) (by omega) (by omega)]
      have := ih k (T + (l.getD i ByteArray.empty).size) (i + 1) (by omega) (by omega) (by omega) (by omega)
      rw [show ((i + 1 : Nat) : Int) = (i : Int) + 1 from by omega, show ((T + (l.getD i ByteArray.empty).size : Nat) : Int) = (T : Int) + ((l.getD i ByteArray.empty).size : Int) from by omega] at this
      exact this

theorem rlist_f (k : Nat) (hk : 2300 ≤ k) (l : List ByteArray) (hlen : l.length ≤ 140737488355328) (hsz : ∀ s ∈ l, s.size ≤ 140737488355328) : quitrentref08_List.f k l = some (listS l) := by
  unfold quitrentref08_List.f
  exact rlist_l0 l hlen hsz (min l.length 1000) k 0 0 (by omega) (by simp) (by omega) (by omega)

theorem extract_comp (s : ByteArray) (a b c : Nat) (h : a + c ≤ s.size) : (s.extract a s.size).extract b c = s.extract (a + b) (a + c) := by
  apply bytesOf_inj
  rw [bytesOf_part, bytesOf_drop, bytesOf_part, List.drop_drop]
  congr 1; omega
theorem extract_comp_end (s : ByteArray) (a b : Nat) : (s.extract a s.size).extract b (s.extract a s.size).size = s.extract (a + b) s.size := by
  apply bytesOf_inj
  rw [bytesOf_drop, bytesOf_drop, bytesOf_drop, List.drop_drop]

theorem rparts_l (s : ByteArray) (hs : s.size ≤ 140737488355328) (m : Nat) (hm : m ≤ 1000) (d : Nat) : ∀ (k at_ i : Nat) (acc : List ByteArray), i + d = m → at_ ≤ s.size → acc.length = i → (∀ t ∈ acc, t.size ≤ s.size) → d + 2500 < k →
    quitrentref08_Parts.l0 k s (m : Int) (at_ : Int) acc (i : Int) = some (match strs d (s.extract at_ s.size) with
      | some (a, _) => if (listS (acc ++ a)).2 = 0 ∧ (listS (acc ++ a)).1 = s then (acc ++ a, 0) else ([], 2)
      | none => ([], 2)) := by
  induction d with
  | zero =>
    intro k at_ i acc hi hat ha hsz hk
    obtain ⟨k, rfl⟩ : ∃ j, k = j + 1 := ⟨k - 1, by omega⟩
    simp only [quitrentref08_Parts.l0]
    rw [if_neg (by omega), rlist_f k (by omega) acc (by omega) (fun t ht => by have := hsz t ht; omega), Option.bind_some]
    simp only [strs, List.append_nil]
    by_cases e : (listS acc).2 = 0
    · rw [if_pos e]
      by_cases e2 : (listS acc).1 = s
      · rw [if_pos ((toList_iff _ _).2 e2), if_pos ⟨e, e2⟩]
      · rw [if_neg (fun x => e2 ((toList_iff _ _).1 x)), if_neg (fun x => e2 x.2)]
    · rw [if_neg e, if_neg (fun x => e x.1)]
  | succ d ih =>
    intro k at_ i acc hi hat ha hsz hk
    obtain ⟨k, rfl⟩ : ∃ j, k = j + 1 := ⟨k - 1, by omega⟩
    simp only [quitrentref08_Parts.l0]
    have hes := extract_size s at_
    rw [if_pos (by omega), if_pos (by omega), if_pos (by omega), show (at_ : Int).toNat = at_ from by omega, rtake_f k (by omega) _ (by omega), Option.bind_some]
    simp only [strs]
    rcases take_parts (s.extract at_ s.size) with ⟨u, r, hu, e, ht⟩ | ht
    · have hle : (Cod.enc u).length ≤ s.size - at_ := by rw [← hes, ← bytesOf_size, e]; simp
      obtain ⟨z1, z2⟩ := Cod.unzig_bd hu
      rw [ht]
      simp only [if_true]
      by_cases hn : Cod.unzig u < 0
      · rw [if_pos hn, if_pos (Or.inl hn)]
      rw [if_neg hn]
      by_cases hn1 : Cod.unzig u > (s.size : Int)
      · rw [if_pos hn1, if_pos (show Cod.unzig u < 0 ∨ Cod.unzig u > ((s.extract at_ s.size).size : Int) - ((Cod.enc u).length : Int) by omega)]
      rw [if_neg hn1, w64 (n := (at_ : Int) + ((Cod.enc u).length : Int)) (by omega) (by omega), w64 (n := (at_ : Int) + ((Cod.enc u).length : Int) + Cod.unzig u) (by omega) (by omega)]
      by_cases hn2 : (at_ : Int) + ((Cod.enc u).length : Int) + Cod.unzig u > (s.size : Int)
      · rw [if_pos hn2, if_pos (show Cod.unzig u < 0 ∨ Cod.unzig u > ((s.extract at_ s.size).size : Int) - ((Cod.enc u).length : Int) by omega)]
      rw [if_neg hn2, if_neg (show ¬ (Cod.unzig u < 0 ∨ Cod.unzig u > ((s.extract at_ s.size).size : Int) - ((Cod.enc u).length : Int)) by omega), if_pos (by omega), if_pos (by omega), if_pos (by omega), if_pos (by omega),
        w64 (n := (i : Int) + 1) (by omega) (by omega)]
      have c1 : (s.extract at_ s.size).extract (((Cod.enc u).length : Int)).toNat (((Cod.enc u).length : Int) + Cod.unzig u).toNat = s.extract ((at_ : Int) + ((Cod.enc u).length : Int)).toNat ((at_ : Int) + ((Cod.enc u).length : Int) + Cod.unzig u).toNat := by
        rw [extract_comp s at_ _ _ (by omega)]; congr 1 <;> omega
      have c2 : (s.extract at_ s.size).extract (((Cod.enc u).length : Int) + Cod.unzig u).toNat (s.extract at_ s.size).size = s.extract (at_ + (((Cod.enc u).length : Int) + Cod.unzig u).toNat) s.size := extract_comp_end s at_ _
      rw [c1, c2]
      have p1 := part_size s ((at_ : Int) + ((Cod.enc u).length : Int)).toNat ((at_ : Int) + ((Cod.enc u).length : Int) + Cod.unzig u).toNat (by omega) (by omega)
      have := ih k (at_ + (((Cod.enc u).length : Int) + Cod.unzig u).toNat) (i + 1) (acc ++ [s.extract ((at_ : Int) + ((Cod.enc u).length : Int)).toNat ((at_ : Int) + ((Cod.enc u).length : Int) + Cod.unzig u).toNat]) (by omega) (by omega) (by simp; omega)
        (fun t htm => by
          rcases List.mem_append.1 htm with x | x
          · exact hsz t x
          · simp at x; subst x; omega) (by omega)
      rw [show ((i + 1 : Nat) : Int) = (i : Int) + 1 from by omega, show ((at_ + (((Cod.enc u).length : Int) + Cod.unzig u).toNat : Nat) : Int) = (at_ : Int) + ((Cod.enc u).length : Int) + Cod.unzig u from by omega] at this
      rw [this]
      cases strs d (s.extract (at_ + (((Cod.enc u).length : Int) + Cod.unzig u).toNat) s.size) with
      | none => rfl
      | some p =>
        obtain ⟨a, q⟩ := p
        simp only [List.append_assoc, List.cons_append, List.nil_append]
    · rw [ht]; simp

theorem rparts_f (k : Nat) (hk : 4000 ≤ k) (s : ByteArray) (hs : s.size ≤ 140737488355328) : quitrentref08_Parts.f k s = some (partsS s) := by
  obtain ⟨k, rfl⟩ : ∃ j, k = j + 1 := ⟨k - 1, by omega⟩
  unfold quitrentref08_Parts.f partsS
  rw [rtake_f (k + 1) (by omega) s hs, Option.bind_some]
  have bad : ∀ a b, quitrentref08_Parts.j0 (k + 1) s a b true = some ([], 2) := by intro a b; simp only [quitrentref08_Parts.j0]; rfl
  rcases take_parts s with ⟨u, r, hu, e, ht⟩ | ht
  · have hle : (Cod.enc u).length ≤ s.size := by rw [← bytesOf_size, e]; simp
    rw [ht]
    simp only
    rw [if_pos trivial]
    by_cases h1 : Cod.unzig u < 0
    · rw [if_pos h1, bad, if_neg (by omega)]
    rw [if_neg h1]
    by_cases h2 : Cod.unzig u > 1000
    · rw [decide_eq_true h2, bad, if_neg (by omega)]
    rw [decide_eq_false h2, if_pos ⟨trivial, by omega, by omega⟩]
    simp only [quitrentref08_Parts.j0]
    rw [if_neg (by decide)]
    have := rparts_l s hs (Cod.unzig u).toNat (by omega) (Cod.unzig u).toNat k (Cod.enc u).length 0 [] (by omega) hle rfl (fun t ht => by cases ht) (by omega)
    rw [show (((Cod.unzig u).toNat : Nat) : Int) = Cod.unzig u from by omega, show ((0 : Nat) : Int) = 0 from rfl] at this
    rw [this, show (((Cod.enc u).length : Int)).toNat = (Cod.enc u).length from by omega]
    simp only [List.nil_append]
    cases hn : strs (Cod.unzig u).toNat (s.extract (Cod.enc u).length s.size) with
    | none => rfl
    | some p =>
      obtain ⟨a, r'⟩ := p
      obtain ⟨n1, n2, n3, n4⟩ := strs_flat _ _ _ _ hn
      simp only
      congr 1
      have hr : r = (bytesOf s).drop (Cod.enc u).length := by rw [e]; simp
      rw [bytesOf_drop, ← hr] at n1
      by_cases ht2 : total a > 1048576
      · have e4 : listS a = (⟨#[]⟩, 4) := by unfold listS; rw [if_pos (Or.inr ht2)]
        rw [e4, if_neg (by simp), if_neg (by omega)]
      · have e4 : listS a = (strOfNums (Cod.enc (Cod.zig (a.length : Int)) ++ flat a), 0) := by unfold listS; rw [if_neg (by omega)]
        have hz : Cod.zig (a.length : Int) = u := by rw [show (a.length : Int) = Cod.unzig u from by omega, Cod.zig_unzig]
        rw [e4, hz]
        simp only [true_and]
        have hiff : strOfNums (Cod.enc u ++ flat a) = s ↔ bytesOf r' = [] := by
          constructor
          · intro h
            have h2 := congrArg bytesOf h
            rw [bytesOf_str _ ((Cod.enc_byt _).append (flat_byt _)), e, n1] at h2
            have h4 := congrArg List.length h2
            simp at h4
            exact h4
          · intro h
            apply bytesOf_inj
            rw [bytesOf_str _ ((Cod.enc_byt _).append (flat_byt _)), e, n1, h]; simp
        by_cases hx : bytesOf r' = []
        · rw [if_pos (hiff.2 hx), if_pos ⟨hx, by omega⟩]
        · rw [if_neg (fun h => hx (hiff.1 h)), if_neg (fun h => hx h.1)]
  · rw [ht]
    simp only
    rw [if_neg (by decide), bad, if_neg (by simp)]
theorem large_l (l : List ByteArray) (hlen : l.length ≤ 140737488355328) (hsz : ∀ s ∈ l, s.size ≤ 140737488355328) (c : Nat) : ∀ (k T i : Nat), i ≤ l.length → T ≤ 140737488360000 → 3001 - T ≤ c → c + 1 < k → ∃ b, quitrentlaw08_large.l0 k l (T : Int) (i : Int) = some b := by
  induction c with
  | zero =>
    intro k T i hi hT hc hk
    obtain ⟨k, rfl⟩ : ∃ j, k = j + 1 := ⟨k - 1, by omega⟩
    simp only [quitrentlaw08_large.l0]
    by_cases h : (i : Int) < l.length
    · rw [if_pos h, if_neg (by omega)]; exact ⟨_, rfl⟩
    · rw [if_neg h]; exact ⟨_, rfl⟩
  | succ c ih =>
    intro k T i hi hT hc hk
    obtain ⟨k, rfl⟩ : ∃ j, k = j + 1 := ⟨k - 1, by omega⟩
    simp only [quitrentlaw08_large.l0]
    by_cases h : (i : Int) < l.length
    · by_cases h2 : (T : Int) ≤ 3000
      · have hs : (l.getD i ByteArray.empty).size ≤ 140737488355328 := by
          apply hsz; simp [List.getD_eq_getElem?_getD, show i < l.length by omega]
        rw [if_pos h, if_pos h2, if_pos (by omega), rdOf_nat, w64 (n := ((l.getD i ByteArray.empty).size : Int) + 1) (by omega) (by omega), w64 (n := (T : Int) + (((l.getD i ByteArray.empty).size : Int) + 1)) (by omega) (by omega), w64 (n := (i : Int) + 1) (by omega) (by omega)]
        have := ih k (T + ((l.getD i ByteArray.empty).size + 1)) (i + 1) (by omega) (by omega) (by omega) (by omega)
        rw [show ((i + 1 : Nat) : Int) = (i : Int) + 1 from by omega, show ((T + ((l.getD i ByteArray.empty).size + 1) : Nat) : Int) = (T : Int) + (((l.getD i ByteArray.empty).size : Int) + 1) from by omega] at this
        exact this
      · rw [if_pos h, if_neg h2]; exact ⟨_, rfl⟩
    · rw [if_neg h]; exact ⟨_, rfl⟩

theorem large_f (k : Nat) (hk : 4000 ≤ k) (l : List ByteArray) (hlen : l.length ≤ 140737488355328) (hsz : ∀ s ∈ l, s.size ≤ 140737488355328) : ∃ b, quitrentlaw08_large.f k l = some b := by
  unfold quitrentlaw08_large.f
  exact large_l l hlen hsz 3001 k 0 0 (by omega) (by omega) (by omega) (by omega)
theorem lists (l : List ByteArray) (s : ByteArray) (hlen : l.length ≤ 140737488355328) (hsz : ∀ s ∈ l, s.size ≤ 140737488355328) (hs : s.size ≤ 140737488355328) : quitrentlaw08_CodecLists.f 5000 l s = some true := by
  have bad : quitrentlaw08_CodecLists.j0 5000 l s true = some true := by simp only [quitrentlaw08_CodecLists.j0]; rfl
  obtain ⟨b, hb⟩ := large_f 5000 (by omega) l hlen hsz
  unfold quitrentlaw08_CodecLists.f
  rw [awake_f 5000 (by omega), Option.bind_some, if_pos rfl, hb, Option.bind_some]
  cases b with
  | true => rw [if_pos rfl, bad]
  | false =>
    rw [if_neg (by decide)]
    by_cases h2 : (s.size : Int) > 3000
    · rw [decide_eq_true h2, bad]
    rw [decide_eq_false h2]
    simp only [quitrentlaw08_CodecLists.j0]
    have hp := (partsS_bd s).1
    rw [if_neg (by decide), list_f 4999 (by omega) l hsz, rlist_f 4999 (by omega) l hlen hsz, parts_f 4999 (by omega) s hs, rparts_f 4999 (by omega) s hs]
    simp only [Option.bind_some]
    rw [if_pos trivial, if_pos trivial, same_f 4999 _ (by omega) (by omega), Option.bind_some, if_pos rfl]
    simp

end Go.Proofs.Ytkfbmplhcigopaa.PCod
