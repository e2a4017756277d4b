/- What the printed functions of the reference tell: numbers, commands. -/
import Derived.Test.YtkfbmplhcigopaaPCodF45
import Derived.Test.YtkfbmplhcigopaaCodP
set_option linter.unusedSimpArgs false
set_option linter.unusedVariables false
namespace Go.Proofs.Ytkfbmplhcigopaa.PCod
open Go.RowKit Go.Proofs.Ytkfbmplhcigopaa Go.Proofs.YtkfbmplhcigopaaW.PrintWords Go.Proofs.YtkfbmplhcigopaaW.PrintLast Go.Proofs.YtkfbmplhcigopaaW.PrintMore

/- the reference: Number, Put, Take, Read -/
theorem rnum_l (c : Nat) : ∀ (k : Nat) (s : ByteArray) (u : Nat), u < 18446744073709551616 → (Cod.enc u).length = c → s.size + c ≤ 9000000000000000000 → c < k → quitrentref08_Number.l0 k (u : Int) s = some (s ++ strOfNums (Cod.enc u)) := by
  induction c with
  | zero => intro k s u _ hc; have := Cod.enc_pos u; omega
  | succ c ih =>
    intro k s u hu hc hs hk
    have he := Cod.enc_ten hu
    obtain ⟨k, rfl⟩ : ∃ j, k = j + 1 := ⟨k - 1, by omega⟩
    simp only [quitrentref08_Number.l0]
    by_cases h : u < 128
    · rw [if_neg (by omega)]
      simp only [Option.bind_some]
      rw [if_pos (by rw [strOfNums_size]; simp; omega), Cod.enc_lt h, show (u : Int) % 256 = u from by omega]
    · rw [if_pos (by omega)]
      simp only [Option.bind_some]
      rw [if_pos (by rw [strOfNums_size]; simp; omega), tm (by omega), td (by omega), uw (n := (u : Int) % 128 + 128) (by omega) (by omega), uw (n := (u : Int) / 128) (by omega) (by omega)]
      rw [Cod.enc_ge h] at hc ⊢
      rw [show ((u : Int) % 128 + 128) % 256 = ((u % 128 + 128 : Nat) : Int) from by omega, show (u : Int) / 128 = ((u / 128 : Nat) : Int) from by omega]
      have hsz : (s ++ strOfNums [((u % 128 + 128 : Nat) : Int)]).size = s.size + 1 := by rw [← bytesOf_size, bytesOf_append, List.length_append, bytesOf_size, bytesOf_size, strOfNums_size]; rfl
      have := ih k (s ++ strOfNums [((u % 128 + 128 : Nat) : Int)]) (u / 128) (by omega) (by simpa using hc) ?_ (by omega)
      · rw [this]
        congr 1
        rw [show ((u % 128 + 128 : Nat) : Int) :: Cod.enc (u / 128) = [((u % 128 + 128 : Nat) : Int)] ++ Cod.enc (u / 128) from rfl, str_append]
        exact ByteArray.append_assoc
      · rw [hsz]; omega

theorem rnum_l' (k : Nat) (hk : 20 ≤ k) (s : ByteArray) (u : Nat) (hu : u < 18446744073709551616) (hs : s.size ≤ 8000000000000000000) : quitrentref08_Number.l0 k (u : Int) s = some (s ++ strOfNums (Cod.enc u)) := by
  obtain ⟨k, rfl⟩ : ∃ j, k = j + 1 := ⟨k - 1, by omega⟩
  have := Cod.enc_ten hu
  exact rnum_l _ _ _ _ hu rfl (by omega) (by omega)

theorem rnumber_f (k : Nat) (hk : 30 ≤ k) (n : Int) (h : -9223372036854775808 ≤ n) (h' : n ≤ 9223372036854775807) :
    quitrentref08_Number.f k n = some (strOfNums (Cod.enc (Cod.zig n))) := by
  obtain ⟨k, rfl⟩ : ∃ j, k = j + 1 := ⟨k - 1, by omega⟩
  have hz := Cod.zig_lt h h'
  have e : ∀ s : ByteArray, (⟨#[]⟩ : ByteArray) ++ s = s := fun s => by apply Go.WideShapes.bytes_inj; simp
  unfold quitrentref08_Number.f
  by_cases h0 : n ≥ 0
  · rw [if_pos h0]
    simp only [quitrentref08_Number.j0]
    rw [uw (n := n) (by omega) (by omega), uw (by omega) (by omega), show 2 * n = (Cod.zig n : Int) from by unfold Cod.zig; rw [if_pos h0]; omega, rnum_l' k (by omega) _ _ hz (by decide), e]
  · rw [if_neg h0]
    simp only [quitrentref08_Number.j0]
    rw [w64 (n := n + 1) (by omega) (by omega), w64 (n := -(n + 1)) (by omega) (by omega), uw (n := -(n + 1)) (by omega) (by omega), uw (n := 2 * -(n + 1)) (by omega) (by omega), uw (by omega) (by omega),
      show 2 * -(n + 1) + 1 = (Cod.zig n : Int) from by unfold Cod.zig; rw [if_neg h0]; omega, rnum_l' k (by omega) _ _ hz (by decide), e]

theorem rput_l (kind : Int) (l : List Int) (hl : I64 l) (hlen : l.length ≤ 64) (d : Nat) : ∀ (k : Nat) (s : ByteArray) (i : Nat), i + d = l.length → s.size ≤ 2 + 10 * i → d + 40 < k →
    quitrentref08_Put.l0 k s (i : Int) kind l = some (s ++ strOfNums (Cod.encs (l.drop i)), 0) := by
  induction d with
  | zero =>
    intro k s i hi ha hk
    obtain ⟨k, rfl⟩ : ∃ j, k = j + 1 := ⟨k - 1, by omega⟩
    simp only [quitrentref08_Put.l0]
    rw [if_neg (by omega), List.drop_of_length_le (by omega)]
    congr 2
    apply Go.WideShapes.bytes_inj; simp [Cod.encs, strOfNums]
  | succ d ih =>
    intro k s i hi ha hk
    obtain ⟨k, rfl⟩ : ∃ j, k = j + 1 := ⟨k - 1, by omega⟩
    obtain ⟨b1, b2⟩ := hl.at i (by omega)
    have he := Cod.enc_ten (Cod.zig_lt b1 b2)
    simp only [quitrentref08_Put.l0]
    rw [if_pos (by omega), if_pos (by omega), rd_nat, rnumber_f k (by omega) _ b1 b2]
    simp only [Option.bind_some]
    rw [if_pos (by rw [strOfNums_size]; omega), w64 (n := (i : Int) + 1) (by omega) (by omega)]
    have hsz : (s ++ strOfNums (Cod.enc (Cod.zig (l.getD i 0)))).size = s.size + (Cod.enc (Cod.zig (l.getD i 0))).length := by rw [← bytesOf_size, bytesOf_append, List.length_append, bytesOf_size, bytesOf_size, strOfNums_size]
    have := ih k (s ++ strOfNums (Cod.enc (Cod.zig (l.getD i 0)))) (i + 1) (by omega) (by rw [hsz]; omega) (by omega)
    rw [show ((i + 1 : Nat) : Int) = (i : Int) + 1 from by omega] at this
    rw [this, list_drop l i (by omega)]
    congr 2
    simp only [Cod.encs]
    rw [str_append]; exact ByteArray.append_assoc

theorem rput_f (k : Nat) (hk : 120 ≤ k) (kind : Int) (l : List Int) (hl : I64 l) : quitrentref08_Put.f k kind l = some (putS kind l) := by
  obtain ⟨k, rfl⟩ : ∃ j, k = j + 1 := ⟨k - 1, by omega⟩
  have bad : quitrentref08_Put.j0 (k + 1) true kind l = some (⟨#[]⟩, 2) := by simp only [quitrentref08_Put.j0]; rfl
  unfold quitrentref08_Put.f putS
  by_cases h1 : kind < 0
  · rw [if_pos h1, bad, if_pos (Or.inl h1)]
  rw [if_neg h1]
  by_cases h2 : kind > 255
  · rw [if_pos h2, bad, if_pos (Or.inr (Or.inl h2))]
  rw [if_neg h2]
  by_cases h3 : (l.length : Int) > 64
  · rw [decide_eq_true h3, bad, if_pos (Or.inr (Or.inr h3))]
  · rw [decide_eq_false h3, if_neg (by omega)]
    simp only [quitrentref08_Put.j0]
    rw [if_neg (by decide), show kind % 256 = kind from by omega, show (l.length : Int) % 256 = l.length from by omega]
    have := rput_l kind l hl (by omega) l.length k (strOfNums [kind, (l.length : Int)]) 0 (by omega) (by rw [strOfNums_size]; simp) (by omega)
    rw [show ((0 : Nat) : Int) = 0 from rfl] at this
    rw [this, List.drop_zero, ← str_append]; simp

theorem take_getD (l : List Int) (i j : Nat) (h : j < i) : (l.take i).getD j 0 = l.getD j 0 := by
  simp [List.getD_eq_getElem?_getD, List.getElem?_take, h]

theorem val_take (s : ByteArray) (i : Nat) (h : i < s.size) : Cod.val ((bytesOf s).take (i + 1)) = Cod.val ((bytesOf s).take i) + 128 ^ i * (bt s i % 128).toNat := by
  have hl : i < (bytesOf s).length := by rw [bytesOf_size]; exact h
  rw [List.take_succ_eq_append_getElem hl, Cod.val_append, List.length_take]
  rw [show min i (bytesOf s).length = i from by omega, bt_getD]
  simp [Cod.val, List.getD_eq_getElem?_getD, hl]

theorem mod_sum (M v P b : Int) : (v % M + (P % M * b) % M) % M = (v + P * b) % M := by
  rw [Int.mul_emod (P % M), Int.emod_emod, ← Int.mul_emod, ← Int.add_emod]

theorem wsum (U E : Int) (v P : Nat) (b : Int) (hU : U = (v : Int) % 18446744073709551616) (hE : E = (P : Int) % 18446744073709551616) (h0 : 0 ≤ b) (h1 : b < 128) :
    IntKind.u64.wrap (U + IntKind.u64.wrap (E * IntKind.u64.wrap b)) = ((v + P * b.toNat : Nat) : Int) % 18446744073709551616 := by
  rw [uw (n := b) h0 (by omega), u64w, u64w, hU, hE, mod_sum, Int.natCast_add, Int.natCast_mul, show ((b.toNat : Nat) : Int) = b from by omega]

theorem weach (E : Int) (P : Nat) (hE : E = (P : Int) % 18446744073709551616) : IntKind.u64.wrap (128 * E) = ((P * 128 : Nat) : Int) % 18446744073709551616 := by
  rw [u64w, hE, Int.natCast_mul]; omega

theorem rt_none (s : ByteArray) (i : Nat) (hall : ∀ j, j < i → 128 ≤ (bytesOf s).getD j 0) (hend : i = s.size ∨ i = 10) : Cod.tk (bytesOf s) = (0, 0, 2) := by
  rcases take_parts s with ⟨u, r, hu, e, ht⟩ | ht
  · have h1 := Cod.enc_where u r i (by rw [← e]; exact hall)
    have h2 := Cod.enc_ten hu
    have h3 : (Cod.enc u).length ≤ s.size := by rw [← bytesOf_size, e]; simp
    omega
  · exact ht

theorem rt_cmp (s : ByteArray) (i V : Nat) (hi : i < s.size) (hVlt : V < 18446744073709551616) (hall : ∀ j, j < i → 128 ≤ (bytesOf s).getD j 0) (hlast : (bytesOf s).getD i 0 < 128)
    (hV : ∀ u, u < 18446744073709551616 → Cod.val ((bytesOf s).take (i + 1)) = u → V = u) (r : Int × Int × Int) (hr : r = (Cod.unzig V, (i : Int) + 1, 0)) :
    (if (strOfNums (Cod.enc V)).toList = (s.extract 0 (i + 1)).toList then (some r) else (some (0, 0, 2))) = some (Cod.tk (bytesOf s)) := by
  subst hr
  by_cases heq : strOfNums (Cod.enc V) = s.extract 0 (i + 1)
  · rw [if_pos ((toList_iff _ _).2 heq)]
    have h2 : Cod.enc V = (bytesOf s).take (i + 1) := by
      have := congrArg bytesOf heq
      rw [bytesOf_str _ (Cod.enc_byt V), bytesOf_part] at this
      simpa using this
    have h3 : bytesOf s = Cod.enc V ++ (bytesOf s).drop (i + 1) := by rw [h2, List.take_append_drop]
    have h4 : ((Cod.enc V).length : Int) = (i : Int) + 1 := by rw [h2, List.length_take, bytesOf_size]; omega
    rw [h3, Cod.tk_enc hVlt, h4]
  · rw [if_neg (fun x => heq ((toList_iff _ _).1 x))]
    rcases take_parts s with ⟨u, r, hu, e, htk⟩ | htk
    · exfalso
      apply heq
      have h1 := Cod.enc_where u r i (by rw [← e]; exact hall)
      have h2 := Cod.enc_there u r i (by rw [← e]; exact hlast) h1
      have h3 : (bytesOf s).take (i + 1) = Cod.enc u := by rw [e, ← h2]; simp
      have h4 : V = u := hV u hu (by rw [h3, Cod.val_enc])
      subst h4
      apply bytesOf_inj
      rw [bytesOf_str _ (Cod.enc_byt V), bytesOf_part, ← h3]; simp
    · rw [htk]

theorem rt_odd (k : Nat) (hk : 30 ≤ k) (s : ByteArray) (hs : s.size ≤ 140737488355328) (i V : Nat) (hi : i < s.size) (hVlt : V < 18446744073709551616) (hall : ∀ j, j < i → 128 ≤ (bytesOf s).getD j 0) (hlast : (bytesOf s).getD i 0 < 128)
    (hV : ∀ u, u < 18446744073709551616 → Cod.val ((bytesOf s).take (i + 1)) = u → V = u) (n : Int) (hn : n = Cod.unzig V) :
    ((quitrentref08_Number.f k n).bind fun t206 => (if 0 ≤ (wrap64 ((i : Int) + 1)) then (if (wrap64 ((i : Int) + 1)) ≤ (s.size : Int) then (if t206.toList = (s.extract 0 ((wrap64 ((i : Int) + 1)) : Int).toNat).toList then (some (n, wrap64 ((i : Int) + 1), (0 : Int))) else (some (0, 0, 2))) else (none)) else (none))) = some (Cod.tk (bytesOf s)) := by
  obtain ⟨z1, z2⟩ := Cod.unzig_bd hVlt
  subst hn
  have e1 : wrap64 ((i : Int) + 1) = (i : Int) + 1 := w64 (by omega) (by omega)
  have e2 : ((i : Int) + 1).toNat = i + 1 := by omega
  have p1 : (0 : Int) ≤ (i : Int) + 1 := by omega
  have p2 : (i : Int) + 1 ≤ s.size := by omega
  -- by 'rw': 'simp only [Option.bind_some]' here costs the kernel all its memory
  rw [rnumber_f k hk _ z1 z2, Cod.zig_unzig, Option.bind_some, e1, if_pos p1, if_pos p2, e2]
  exact rt_cmp s i V hi hVlt hall hlast hV _ rfl

theorem rtake_l (s : ByteArray) (hs : s.size ≤ 140737488355328) (c : Nat) : ∀ (k i : Nat) (U E : Int), i ≤ s.size → i ≤ 10 → 10 - i = c → (∀ j, j < i → 128 ≤ (bytesOf s).getD j 0) →
    U = ((Cod.val ((bytesOf s).take i) : Nat) : Int) % 18446744073709551616 → E = ((128 ^ i : Nat) : Int) % 18446744073709551616 → 2 * c + 60 < k →
    quitrentref08_Take.l0 k s U E (i : Int) = some (Cod.tk (bytesOf s)) := by
  induction c with
  | zero =>
    intro k i U E hi h10 hc hall hU hE hk
    obtain ⟨k, rfl⟩ : ∃ j, k = j + 2 := ⟨k - 2, by omega⟩
    rw [rt_none s i hall (Or.inr (by omega))]
    simp only [quitrentref08_Take.l0]
    rw [show decide ((i : Int) < 10) = false from by simp; omega]
    split <;> simp only [quitrentref08_Take.j1] <;> rfl
  | succ c ih =>
    intro k i U E hi h10 hc hall hU hE hk
    obtain ⟨k, rfl⟩ : ∃ j, k = j + 2 := ⟨k - 2, by omega⟩
    simp only [quitrentref08_Take.l0]
    by_cases h : (i : Int) < s.size
    · have hr := bt_range s i
      have hbd := bt_getD s i
      rw [if_pos h, show decide ((i : Int) < 10) = true from by simp; omega]
      simp only [quitrentref08_Take.j1]
      rw [if_pos trivial, if_pos (by omega), if_pos h, tm (by omega)]
      have hv := val_take s i (by omega)
      have hW := wsum U E _ _ (bt s i % 128) hU hE (by omega) (by omega)
      rw [← hv] at hW
      rw [hW]
      by_cases hb8 : bt s i ≥ 128
      · rw [if_pos hb8, w64 (n := (i : Int) + 1) (by omega) (by omega)]
        have hE2 := weach E _ hE
        rw [← Nat.pow_succ] at hE2
        have := ih k (i + 1) _ _ (by omega) (by omega) (by omega) (fun j hj => by
          by_cases hji : j < i
          · exact hall j hji
          · have : j = i := by omega
            subst this; omega) rfl hE2 (by omega)
        rw [show ((i + 1 : Nat) : Int) = (i : Int) + 1 from by omega] at this
        exact this
      · rw [if_neg hb8]
        obtain ⟨V, hV⟩ : ∃ V : Nat, (V : Int) = ((Cod.val ((bytesOf s).take (i + 1)) : Nat) : Int) % 18446744073709551616 := ⟨(((Cod.val ((bytesOf s).take (i + 1)) : Nat) : Int) % 18446744073709551616).toNat, by omega⟩
        rw [← hV]
        have hVlt : V < 18446744073709551616 := by omega
        have hVu : ∀ u, u < 18446744073709551616 → Cod.val ((bytesOf s).take (i + 1)) = u → V = u := fun u hu e => by rw [e] at hV; omega
        rw [td (by omega), tm (by omega), uw (n := (V : Int) / 2) (by omega) (by omega), w64 (n := (V : Int) / 2) (by omega) (by omega), w64 (n := -((V : Int) / 2)) (by omega) (by omega), w64 (n := -((V : Int) / 2) - 1) (by omega) (by omega)]
        by_cases hodd : (V : Int) % 2 = 1
        · rw [if_pos hodd]
          exact rt_odd k (by omega) s hs i V (by omega) hVlt hall (by omega) hVu _ (by unfold Cod.unzig; rw [if_neg (by omega)]; omega)
        · rw [if_neg hodd]
          exact rt_odd k (by omega) s hs i V (by omega) hVlt hall (by omega) hVu _ (by unfold Cod.unzig; rw [if_pos (by omega)]; omega)
    · rw [if_neg h, rt_none s i hall (Or.inl (by omega))]
      simp only [quitrentref08_Take.j1]; rfl

theorem rtake_f (k : Nat) (hk : 100 ≤ k) (s : ByteArray) (hs : s.size ≤ 140737488355328) : quitrentref08_Take.f k s = some (Cod.tk (bytesOf s)) := by
  unfold quitrentref08_Take.f
  have := rtake_l s hs 10 k 0 0 1 (by omega) (by omega) (by omega) (fun j hj => by omega) (by simp [Cod.val]) (by simp) (by omega)
  rw [show ((0 : Nat) : Int) = 0 from rfl] at this
  exact this
theorem rread_l (s : ByteArray) (hs : s.size ≤ 140737488355328) (h2 : 2 ≤ s.size) (kind : Int) (d : Nat) : ∀ (k at_ i : Nat) (args : List Int), i + d = (bt s 1).toNat → at_ ≤ s.size → args.length ≤ i → I64 args → d + 200 < k →
    quitrentref08_Read.l0 k s (at_ : Int) (i : Int) kind args = some (match Cod.nums d ((bytesOf s).drop at_) with
      | some (a, _) => if (putS kind (args ++ a)).2 = 0 ∧ (putS kind (args ++ a)).1 = s then (kind, args ++ a, 0) else (0, [], 2)
      | none => (0, [], 2)) := by
  have h1r := bt_range s 1
  induction d with
  | zero =>
    intro k at_ i args hi hat ha h64 hk
    obtain ⟨k, rfl⟩ : ∃ j, k = j + 1 := ⟨k - 1, by omega⟩
    simp only [quitrentref08_Read.l0]
    rw [if_pos (by omega), w64 (n := bt s 1) (by omega) (by omega), if_neg (by omega), rput_f k (by omega) kind args h64, Option.bind_some]
    simp only [Cod.nums, List.append_nil]
    by_cases e : (putS kind args).2 = 0
    · rw [if_pos e]
      by_cases e2 : (putS kind args).1 = s
      · rw [if_pos ((toList_iff _ _).2 e2), if_pos ⟨e, e2⟩]
      · rw [if_neg (fun x => e2 ((toList_iff _ _).1 x)), if_neg (fun x => e2 x.2)]
    · rw [if_neg e, if_neg (fun x => e x.1)]
  | succ d ih =>
    intro k at_ i args hi hat ha h64 hk
    obtain ⟨k, rfl⟩ : ∃ j, k = j + 1 := ⟨k - 1, by omega⟩
    simp only [quitrentref08_Read.l0]
    have hb : bytesOf (s.extract (at_ : Int).toNat s.size) = (bytesOf s).drop at_ := by rw [bytesOf_drop]; simp
    have hsz : (s.extract (at_ : Int).toNat s.size).size = s.size - at_ := by rw [← bytesOf_size, hb, List.length_drop, bytesOf_size]
    rw [if_pos (by omega), w64 (n := bt s 1) (by omega) (by omega), if_pos (by omega), if_pos (by omega), if_pos (by omega), rtake_f k (by omega) _ (by omega), Option.bind_some, hb]
    simp only [Cod.nums]
    have hB : Cod.Byt ((bytesOf s).drop at_) := fun b h => byt_bytesOf s b (List.mem_of_mem_drop h)
    rcases Cod.tk_cases _ hB with ⟨u, r, hu, e, ht⟩ | ht
    · have hl : (Cod.enc u).length ≤ s.size - at_ := by
        have := congrArg List.length e
        rw [List.length_drop, bytesOf_size, List.length_append] at this; omega
      rw [ht]
      simp only [if_true]
      rw [if_pos (by omega), w64 (n := (at_ : Int) + ((Cod.enc u).length : Int)) (by omega) (by omega), w64 (n := (i : Int) + 1) (by omega) (by omega)]
      have := ih k (at_ + (Cod.enc u).length) (i + 1) (args ++ [Cod.unzig u]) (by omega) (by omega) (by simp; omega) (fun n hn => by
        rcases List.mem_append.1 hn with x | x
        · exact h64 n x
        · simp at x; subst x; exact Cod.unzig_bd hu) (by omega)
      rw [show ((at_ + (Cod.enc u).length : Nat) : Int) = (at_ : Int) + ((Cod.enc u).length : Int) from by omega, show ((i + 1 : Nat) : Int) = (i : Int) + 1 from by omega] at this
      rw [this, List.drop_drop, show (((Cod.enc u).length : Int)).toNat = (Cod.enc u).length from by omega]
      cases Cod.nums d ((bytesOf s).drop (at_ + (Cod.enc u).length)) with
      | none => rfl
      | some p =>
        obtain ⟨a, q⟩ := p
        simp only [List.append_assoc, List.cons_append, List.nil_append]
    · rw [ht]; simp

theorem rread_f (k : Nat) (hk : 500 ≤ k) (s : ByteArray) (hs : s.size ≤ 140737488355328) : quitrentref08_Read.f k s = some (readS (bytesOf s)) := by
  have hz := bytesOf_size s
  have h0r := bt_range s 0
  have h1r := bt_range s 1
  have e1 : bt s 1 = (bytesOf s).getD 1 0 := bt_getD s 1
  have e0 : bt s 0 = (bytesOf s).getD 0 0 := bt_getD s 0
  unfold quitrentref08_Read.f readS
  by_cases h1 : (s.size : Int) < 2
  · rw [if_pos h1, if_pos (Or.inl (by omega))]
  rw [if_neg h1, if_pos (by omega), w64 (n := bt s 0) (by omega) (by omega)]
  have := rread_l s hs (by omega) (bt s 0) (bt s 1).toNat k 2 0 [] (by omega) (by omega) (by simp) (fun n hn => by cases hn) (by omega)
  rw [show ((2 : Nat) : Int) = 2 from rfl, show ((0 : Nat) : Int) = 0 from rfl] at this
  rw [this, ← e1, ← e0]
  simp only [List.nil_append]
  have hsplit : bytesOf s = bt s 0 :: bt s 1 :: (bytesOf s).drop 2 := by
    have a := drop_cons s 0 (by omega)
    have b := drop_cons s 1 (by omega)
    rw [List.drop_zero] at a
    rw [show ((0 : Nat) : Int) = 0 from rfl] at a
    rw [show ((1 : Nat) : Int) = 1 from rfl] at b
    rw [← b]; exact a
  have hB : Cod.Byt ((bytesOf s).drop 2) := fun b h => byt_bytesOf s b (List.mem_of_mem_drop h)
  cases hn : Cod.nums (bt s 1).toNat ((bytesOf s).drop 2) with
  | none =>
    by_cases c : (bytesOf s).length < 2 ∨ bt s 1 > 64
    · rw [if_pos c]
    · rw [if_neg c]
  | some p =>
    obtain ⟨a, r⟩ := p
    obtain ⟨n1, n2, n3⟩ := Cod.nums_encs _ _ _ _ hB hn
    simp only
    by_cases h64 : bt s 1 > 64
    · rw [if_pos (Or.inr h64), if_neg]
      intro h
      have := h.1
      unfold putS at this
      rw [if_pos (Or.inr (Or.inr (by omega)))] at this
      simp at this
    · rw [if_neg (show ¬ ((bytesOf s).length < 2 ∨ bt s 1 > 64) by omega)]
      have hput : putS (bt s 0) a = (strOfNums (bt s 0 :: (a.length : Int) :: Cod.encs a), 0) := by
        unfold putS; rw [if_neg (by omega)]
      have hbyt : Cod.Byt (bt s 0 :: (a.length : Int) :: Cod.encs a) := by
        intro b hb
        rcases List.mem_cons.1 hb with x | x
        · subst x; omega
        · rcases List.mem_cons.1 x with y | y
          · subst y; omega
          · exact Cod.encs_byt a b y
      rw [hput]
      simp only [true_and]
      have hiff : strOfNums (bt s 0 :: (a.length : Int) :: Cod.encs a) = s ↔ r = [] := by
        constructor
        · intro h
          have h2 := congrArg bytesOf h
          rw [bytesOf_str _ hbyt] at h2
          have h3 : bytesOf s = bt s 0 :: bt s 1 :: (Cod.encs a ++ r) := by rw [← n1]; exact hsplit
          rw [h3] at h2
          have h4 := congrArg List.length h2
          simp at h4
          exact h4
        · intro h
          subst h
          apply bytesOf_inj
          rw [bytesOf_str _ hbyt, hsplit, n1]
          have : (a.length : Int) = bt s 1 := by omega
          rw [this]; simp
      cases r with
      | nil => rw [if_pos (hiff.2 rfl)]
      | cons b r =>
        rw [if_neg (fun h => by have := hiff.1 h; cases this)]

theorem longs_l (l : List Int) (hl : l.length ≤ 140737488355328) (d : Nat) : ∀ (k i : Nat), i + d = l.length → d < k → quitrentref08_Longs.l0 k l l (i : Int) = some true := by
  induction d with
  | zero =>
    intro k i hi hk
    obtain ⟨k, rfl⟩ : ∃ j, k = j + 1 := ⟨k - 1, by omega⟩
    simp only [quitrentref08_Longs.l0]; rw [if_neg (by omega)]
  | succ d ih =>
    intro k i hi hk
    obtain ⟨k, rfl⟩ : ∃ j, k = j + 1 := ⟨k - 1, by omega⟩
    simp only [quitrentref08_Longs.l0]
    have := ih k (i + 1) (by omega) (by omega)
    rw [show ((i + 1 : Nat) : Int) = (i : Int) + 1 from by omega] at this
    rw [if_pos (by omega), if_pos (by omega), if_pos (by omega), if_pos trivial, w64 (n := (i : Int) + 1) (by omega) (by omega)]
    exact this

theorem longs_f (k : Nat) (l : List Int) (hl : l.length ≤ 140737488355328) (hk : l.length < k) : quitrentref08_Longs.f k l l = some true := by
  unfold quitrentref08_Longs.f
  rw [if_pos rfl]
  have := longs_l l hl l.length k 0 (by omega) (by omega)
  exact this

theorem readS_len (s : ByteArray) : (readS (bytesOf s)).2.1.length ≤ 64 := by
  unfold readS
  split
  · simp
  · rename_i h
    split
    · rename_i a hn
      have hB : Cod.Byt ((bytesOf s).drop 2) := fun b h => byt_bytesOf s b (List.mem_of_mem_drop h)
      have := (Cod.nums_encs _ _ _ _ hB hn).2.1
      simp only; omega
    · simp

end Go.Proofs.Ytkfbmplhcigopaa.PCod
