/- What the printed functions of package codec tell. -/
import Derived.Test.YtkfbmplhcigopabPCodF8
import Derived.Test.YtkfbmplhcigopabCod
import Derived.Laws.BitsLemmas
import Derived.WideShapes
import Derived.Lib.IndexBytes
set_option linter.unusedSimpArgs false
set_option linter.unusedVariables false
namespace Go.Proofs.Ytkfbmplhcigopab.PCod
open Go.RowKit Go.Proofs.Ytkfbmplhcigopab Go.Proofs.YtkfbmplhcigopabW.PrintWords Go.Proofs.YtkfbmplhcigopabW.PrintLast Go.Proofs.YtkfbmplhcigopabW.PrintMore

theorem w64 {n : Int} (h : -9223372036854775808 ≤ n) (h' : n ≤ 9223372036854775807) : wrap64 n = n := by unfold wrap64; omega
theorem u64w (n : Int) : IntKind.u64.wrap n = n % 18446744073709551616 := by simp [IntKind.wrap, IntKind.bits, IntKind.signed]
theorem uw {n : Int} (h : 0 ≤ n) (h' : n < 18446744073709551616) : IntKind.u64.wrap n = n := by rw [u64w]; omega
theorem td {a b : Int} (h : 0 ≤ a) : Int.tdiv a b = a / b := Int.tdiv_eq_ediv_of_nonneg h
theorem tm {a b : Int} (h : 0 ≤ a) : Int.tmod a b = a % b := Int.tmod_eq_emod_of_nonneg h
theorem wf_bd {n : Int} (h : (Lit.int .i64 n).wf = true) : -9223372036854775808 ≤ n ∧ n ≤ 9223372036854775807 := by
  simp [Lit.wf] at h; exact h

/- bytes -/
theorem byt_bytesOf (s : ByteArray) : Cod.Byt (bytesOf s) := by
  intro b hb; unfold bytesOf at hb
  obtain ⟨c, _, rfl⟩ := List.mem_map.1 hb
  have := c.toNat_lt; omega
theorem bytesOf_inj {s t : ByteArray} (h : bytesOf s = bytesOf t) : s = t := by
  apply Go.WideShapes.bytes_inj
  unfold bytesOf at h
  refine List.map_inj_right (f := fun b : UInt8 => (b.toNat : Int)) (fun a b hab => ?_) |>.1 h
  exact UInt8.toNat_inj.1 (by have : (a.toNat : Int) = (b.toNat : Int) := hab; omega)
theorem bytesOf_str (l : List Int) (h : Cod.Byt l) : bytesOf (strOfNums l) = l := by
  unfold bytesOf; rw [strOfNums_data, List.map_map]
  conv => rhs; rw [← List.map_id l]
  refine List.map_congr_left fun b hb => ?_
  have := h b hb
  simp; omega
theorem str_bytesOf (s : ByteArray) : strOfNums (bytesOf s) = s := bytesOf_inj (bytesOf_str _ (byt_bytesOf s))
theorem str_append (l m : List Int) : strOfNums (l ++ m) = strOfNums l ++ strOfNums m := by
  apply Go.WideShapes.bytes_inj
  simp [strOfNums_data]
theorem bytesOf_append (s t : ByteArray) : bytesOf (s ++ t) = bytesOf s ++ bytesOf t := by
  unfold bytesOf; simp
theorem bytesOf_drop (s : ByteArray) (a : Nat) : bytesOf (s.extract a s.size) = (bytesOf s).drop a := by
  unfold bytesOf; rw [Lib.extract_to_end, List.map_drop]
theorem bytesOf_part (s : ByteArray) (a b : Nat) : bytesOf (s.extract a b) = ((bytesOf s).drop a).take (b - a) := by
  unfold bytesOf; rw [Lib.extract_data, List.map_take, List.map_drop]
theorem bytesOf_size (s : ByteArray) : (bytesOf s).length = s.size := bytesOf_length s
theorem bt_getD (s : ByteArray) (i : Nat) : bt s i = (bytesOf s).getD i 0 := by rw [← rd_bytesOf]; unfold rd; simp
theorem drop_cons (s : ByteArray) (i : Nat) (h : i < s.size) : (bytesOf s).drop i = bt s i :: (bytesOf s).drop (i + 1) := by
  have hl : i < (bytesOf s).length := by rw [bytesOf_size]; exact h
  rw [List.drop_eq_getElem_cons hl, bt_getD]; simp [List.getD_eq_getElem?_getD, hl]
theorem toList_iff (s t : ByteArray) : s.toList = t.toList ↔ s = t := by
  rw [Lib.toList_data, Lib.toList_data]; exact ⟨fun h => Go.WideShapes.bytes_inj h, fun h => by rw [h]⟩
theorem toList_nil (s : ByteArray) : s.toList = ([] : List UInt8) ↔ bytesOf s = [] := by
  rw [Lib.toList_data]; unfold bytesOf; simp

/- bits -/
theorem or_u8 (x : Int) (h : 0 ≤ x) (h' : x < 256) : Go.bits .or .u8 x 128 = x % 128 + 128 := by
  obtain ⟨a, rfl⟩ := Int.eq_ofNat_of_zero_le h
  have H : ∀ a : Fin 256, Go.bits .or .u8 ((a.val : Nat) : Int) 128 = ((a.val : Nat) : Int) % 128 + 128 := by decide +kernel
  exact H ⟨a, by omega⟩
theorem andNot_u8 (x : Int) (h : 0 ≤ x) (h' : x < 256) : Go.bits .andNot .u8 x 128 = x % 128 := by
  obtain ⟨a, rfl⟩ := Int.eq_ofNat_of_zero_le h
  have H : ∀ a : Fin 256, Go.bits .andNot .u8 ((a.val : Nat) : Int) 128 = ((a.val : Nat) : Int) % 128 := by decide +kernel
  exact H ⟨a, by omega⟩
theorem xor_u64_0 (x : Int) (h : 0 ≤ x) (h' : x < 18446744073709551616) : Go.bits .xor .u64 x 0 = x := by
  unfold Go.bits
  have e : (BitVec.ofInt (IntKind.u64).bits 0) = 0#(IntKind.u64).bits := by simp
  simp only [e, BitVec.xor_zero, BitVec.toNat_ofInt]
  rw [u64w]; simp [IntKind.bits]; omega
theorem xor_u64_1 (x : Int) (h : 0 ≤ x) (h' : x < 18446744073709551616) : Go.bits .xor .u64 x 18446744073709551615 = 18446744073709551615 - x := by
  unfold Go.bits
  have e : (BitVec.ofInt (IntKind.u64).bits 18446744073709551615) = BitVec.allOnes (IntKind.u64).bits := by decide +kernel
  simp only [e, BitVec.xor_allOnes, BitVec.toNat_not, BitVec.toNat_ofInt]
  rw [u64w]; simp [IntKind.bits]; omega
theorem xor_i64_0 (x : Int) (h : -9223372036854775808 ≤ x) (h' : x ≤ 9223372036854775807) : Go.bits .xor .i64 x 0 = x := by
  unfold Go.bits
  have e : (BitVec.ofInt (IntKind.i64).bits 0) = 0#(IntKind.i64).bits := by simp
  simp only [e, BitVec.xor_zero, BitVec.toNat_ofInt]
  rw [IntKind.wrap_i64]; simp [IntKind.bits]; omega
theorem xor_i64_1 (x : Int) (h : -9223372036854775808 ≤ x) (h' : x ≤ 9223372036854775807) : Go.bits .xor .i64 x (-1) = -x - 1 := by
  unfold Go.bits
  have e : (BitVec.ofInt (IntKind.i64).bits (-1)) = BitVec.allOnes (IntKind.i64).bits := by decide +kernel
  simp only [e, BitVec.xor_allOnes, BitVec.toNat_not, BitVec.toNat_ofInt]
  rw [IntKind.wrap_i64]; simp [IntKind.bits]; omega
theorem and_u64_1 (x : Int) (h : 0 ≤ x) (h' : x < 18446744073709551616) : Go.bits .and .u64 x 1 = x % 2 := by
  have := bits_mask .u64 64 (by decide) (fun n h0 h1 => uw h0 (by simpa using h1)) 1 (by omega) x h (by simpa using h')
  simpa using this
theorem or_comm (k : IntKind) (x y : Int) : Go.bits .or k x y = Go.bits .or k y x := by unfold Go.bits; simp only [BitVec.or_comm]

theorem zig_bits (n : Int) (h : -9223372036854775808 ≤ n) (h' : n ≤ 9223372036854775807) :
    Go.bits .xor .u64 (IntKind.u64.wrap ((IntKind.u64.wrap (n)) * 2)) (IntKind.u64.wrap (n / 9223372036854775808)) = (Cod.zig n : Int) := by
  unfold Cod.zig
  rw [u64w n, u64w, u64w]
  by_cases h0 : 0 ≤ n
  · rw [if_pos h0, show n / 9223372036854775808 = 0 from by omega, show n % 18446744073709551616 = n from by omega, show (0 : Int) % 18446744073709551616 = 0 from rfl, xor_u64_0 _ (by omega) (by omega)]; omega
  · rw [if_neg h0, show n / 9223372036854775808 % 18446744073709551616 = 18446744073709551615 from by omega, xor_u64_1 _ (by omega) (by omega)]; omega

theorem unzig_bits (u : Nat) (h : u < 18446744073709551616) :
    Go.bits .xor .i64 (wrap64 ((u : Int) / 2)) (wrap64 (-(wrap64 (Go.bits .and .u64 (u : Int) 1)))) = Cod.unzig u := by
  rw [and_u64_1 _ (by omega) (by omega), w64 (n := (u : Int) / 2) (by omega) (by omega), w64 (n := (u : Int) % 2) (by omega) (by omega), w64 (by omega) (by omega)]
  unfold Cod.unzig
  by_cases h2 : u % 2 = 0
  · rw [if_pos h2, show -((u : Int) % 2) = 0 from by omega, xor_i64_0 _ (by omega) (by omega)]; omega
  · rw [if_neg h2, show -((u : Int) % 2) = -1 from by omega, xor_i64_1 _ (by omega) (by omega)]; omega

theorem pow_128 (i : Nat) : (128 : Int) ^ i = 2 ^ (7 * i) := by rw [Int.pow_mul]; rfl

/-- a shifted byte: it stays the same there and back just where it fits -/
theorem ovf (i : Nat) (hi : i ≤ 9) (low : Int) (h : 0 ≤ low) (h' : low < 128) :
    (shr .u64 (shl .u64 low (7 * (i : Int))) (7 * (i : Int)) = low ↔ low * 128 ^ i < 18446744073709551616) ∧
    (low * 128 ^ i < 18446744073709551616 → shl .u64 low (7 * (i : Int)) = low * 128 ^ i) := by
  have : i = 0 ∨ i = 1 ∨ i = 2 ∨ i = 3 ∨ i = 4 ∨ i = 5 ∨ i = 6 ∨ i = 7 ∨ i = 8 ∨ i = 9 := by omega
  rcases this with rfl | rfl | rfl | rfl | rfl | rfl | rfl | rfl | rfl | rfl <;>
    simp [shr, shl, u64w, IntKind.bits] <;> omega

theorem or_join (i : Nat) (hi : i ≤ 9) (U : Nat) (low : Int) (hU : U < 128 ^ i) (h : 0 ≤ low) (h' : low * 128 ^ i < 18446744073709551616) :
    Go.bits .or .u64 (U : Int) (low * 128 ^ i) = U + low * 128 ^ i ∧ (U : Int) + low * 128 ^ i < 18446744073709551616 := by
  have hlt : (U : Int) + low * 128 ^ i < 18446744073709551616 := by
    have : i = 0 ∨ i = 1 ∨ i = 2 ∨ i = 3 ∨ i = 4 ∨ i = 5 ∨ i = 6 ∨ i = 7 ∨ i = 8 ∨ i = 9 := by omega
    rcases this with rfl | rfl | rfl | rfl | rfl | rfl | rfl | rfl | rfl | rfl <;> simp at hU h' ⊢ <;> omega
  refine ⟨?_, hlt⟩
  have hp : (0 : Int) < 128 ^ i := Int.pow_pos (by omega)
  have hm : 0 ≤ low * 128 ^ i := Int.mul_nonneg h (by omega)
  rw [or_comm]
  have hU' : (U : Int) < 2 ^ (7 * i) := by rw [← pow_128]; exact_mod_cast hU
  have := bits_join .u64 64 (by decide) (fun n h0 h1 => uw h0 (by simpa using h1)) (7 * i) (low * 128 ^ i) U hm (by rw [pow_128]; exact Int.mul_emod_left _ _) (by simpa using h') (by omega) hU' (by simp; omega)
  rw [this]; omega
/- the program -/
theorem lay64_l (c : Nat) : ∀ (k : Nat) (l : List Int) (u : Nat), u < 18446744073709551616 → (Cod.enc u).length = c → l.length + c ≤ 140737488355000 → c < k → codec_lay_int64.l0 k l (u : Int) = some (l ++ Cod.enc u) := by
  induction c with
  | zero => intro k l u _ hc; have := Cod.enc_pos u; omega
  | succ c ih =>
    intro k l u hu hc hl hk
    obtain ⟨k, rfl⟩ : ∃ j, k = j + 1 := ⟨k - 1, by omega⟩
    simp only [codec_lay_int64.l0]
    by_cases h : u < 128
    · rw [if_neg (by omega), if_pos (by omega), Cod.enc_lt h, show (u : Int) % 256 = u from by omega]
    · rw [if_pos (by omega), if_pos (by omega), or_u8 _ (by omega) (by omega)]
      rw [Cod.enc_ge h] at hc ⊢
      have := ih k (l ++ [((u % 128 + 128 : Nat) : Int)]) (u / 128) (by omega) (by simpa using hc) (by simp; omega) (by omega)
      rw [show (u : Int) % 256 % 128 + 128 = ((u % 128 + 128 : Nat) : Int) from by omega, show (u : Int) / 128 = ((u / 128 : Nat) : Int) from by omega, this]
      simp

theorem lay_l (c : Nat) : ∀ (k : Nat) (l : List Int) (u : Nat), u < 18446744073709551616 → (Cod.enc u).length = c → l.length + c ≤ 140737488355000 → c < k → codec_lay_int.l0 k l (u : Int) = some (l ++ Cod.enc u) := by
  induction c with
  | zero => intro k l u _ hc; have := Cod.enc_pos u; omega
  | succ c ih =>
    intro k l u hu hc hl hk
    obtain ⟨k, rfl⟩ : ∃ j, k = j + 1 := ⟨k - 1, by omega⟩
    simp only [codec_lay_int.l0]
    by_cases h : u < 128
    · rw [if_neg (by omega), if_pos (by omega), Cod.enc_lt h, show (u : Int) % 256 = u from by omega]
    · rw [if_pos (by omega), if_pos (by omega), or_u8 _ (by omega) (by omega)]
      rw [Cod.enc_ge h] at hc ⊢
      have := ih k (l ++ [((u % 128 + 128 : Nat) : Int)]) (u / 128) (by omega) (by simpa using hc) (by simp; omega) (by omega)
      rw [show (u : Int) % 256 % 128 + 128 = ((u % 128 + 128 : Nat) : Int) from by omega, show (u : Int) / 128 = ((u / 128 : Nat) : Int) from by omega, this]
      simp

theorem lay64_f (k : Nat) (hk : 20 ≤ k) (l : List Int) (n : Int) (h : -9223372036854775808 ≤ n) (h' : n ≤ 9223372036854775807) (hl : l.length ≤ 140737488354000) :
    codec_lay_int64.f k l n = some (l ++ Cod.enc (Cod.zig n)) := by
  have hz := Cod.zig_lt h h'
  have he := Cod.enc_ten hz
  unfold codec_lay_int64.f
  rw [zig_bits n h h']
  exact lay64_l _ k l _ hz rfl (by omega) (by omega)

theorem lay_f (k : Nat) (hk : 20 ≤ k) (l : List Int) (n : Int) (h : -9223372036854775808 ≤ n) (h' : n ≤ 9223372036854775807) (hl : l.length ≤ 140737488354000) :
    codec_lay_int.f k l n = some (l ++ Cod.enc (Cod.zig n)) := by
  have hz := Cod.zig_lt h h'
  have he := Cod.enc_ten hz
  unfold codec_lay_int.f
  rw [zig_bits n h h']
  exact lay_l _ k l _ hz rfl (by omega) (by omega)

theorem number_f (k : Nat) (hk : 20 ≤ k) (n : Int) (h : -9223372036854775808 ≤ n) (h' : n ≤ 9223372036854775807) :
    codec_Number.f k n = some (strOfNums (Cod.enc (Cod.zig n))) := by
  unfold codec_Number.f
  rw [lay64_f k hk [] n h h' (by simp)]; rfl

/- Take: from a place on -/
def tkAt (size U i : Nat) (r : List Int) : Int × Int × Int := match Cod.dec r with
  | some (x, q) => if (0 < i ∧ x = 0) ∨ 18446744073709551616 ≤ U + 128 ^ i * x then (0, 0, 2) else (Cod.unzig (U + 128 ^ i * x), (size : Int) - q.length, 0)
  | none => (0, 0, 2)

theorem big_pow {i : Nat} (h : 10 ≤ i) : 18446744073709551616 < 128 ^ i := Nat.lt_of_lt_of_le (by decide : 18446744073709551616 < 128 ^ 10) (Nat.pow_le_pow_right (by omega) h)

theorem tkAt_top (size U i : Nat) (hi : 10 ≤ i) (r : List Int) : tkAt size U i r = (0, 0, 2) := by
  unfold tkAt
  cases Cod.dec r with
  | none => rfl
  | some p =>
    obtain ⟨x, q⟩ := p
    simp only
    have := big_pow hi
    by_cases hx : x = 0
    · rw [if_pos (Or.inl ⟨by omega, hx⟩)]
    · rw [if_pos (Or.inr (by have : 128 ^ i * 1 ≤ 128 ^ i * x := Nat.mul_le_mul_left _ (by omega); omega))]

theorem take_l (s : ByteArray) (hs : s.size ≤ 140737488355328) (c : Nat) : ∀ (k U i : Nat), i ≤ s.size → 11 - i = c → U < 128 ^ i → 2 * c + 2 < k →
    codec_Take.l0 k s (U : Int) (i : Int) = some (tkAt s.size U i ((bytesOf s).drop i)) := by
  induction c with
  | zero =>
    intro k U i hi hc hU hk
    obtain ⟨k, rfl⟩ : ∃ j, k = j + 2 := ⟨k - 2, by omega⟩
    rw [tkAt_top _ _ _ (by omega)]
    simp only [codec_Take.l0]
    by_cases h : (i : Int) < s.size
    · rw [if_pos h, if_pos (by omega), w64 (n := 7 * (i : Int)) (by omega) (by omega), if_pos (by omega)]
      simp only [codec_Take.j1]; rfl
    · rw [if_neg h]
  | succ c ih =>
    intro k U i hi hc hU hk
    obtain ⟨k, rfl⟩ : ∃ j, k = j + 2 := ⟨k - 2, by omega⟩
    simp only [codec_Take.l0]
    by_cases h : (i : Int) < s.size
    · have hb := byt_bytesOf s
      have hr := bt_range s i
      rw [if_pos h, if_pos (by omega), w64 (n := 7 * (i : Int)) (by omega) (by omega), andNot_u8 _ (by omega) (by omega), uw (n := bt s i % 128) (by omega) (by omega)]
      by_cases h10 : 10 ≤ i
      · rw [if_pos (by omega), tkAt_top _ _ _ h10]; simp only [codec_Take.j1]; rfl
      rw [if_neg (by omega), if_pos (by omega)]
      obtain ⟨o1, o2⟩ := ovf i (by omega) (bt s i % 128) (by omega) (by omega)
      rw [drop_cons s i (by omega)]
      have hpI : (0 : Int) < 128 ^ i := Int.pow_pos (by omega)
      have hcast : ((128 ^ i : Nat) : Int) = 128 ^ i := by simp
      by_cases hov : bt s i % 128 * 128 ^ i < 18446744073709551616
      · rw [if_pos (o1.2 hov)]
        obtain ⟨j1, j2⟩ := or_join i (by omega) U (bt s i % 128) hU (by omega) hov
        have goon : ∀ t : Bool, (t = false) → codec_Take.j1 (k + 1) s (U : Int) (i : Int) (bt s i % 128) (7 * (i : Int)) t =
            if bt s i < 128 then some (Cod.unzig (U + (bt s i % 128).toNat * 128 ^ i), (i : Int) + 1, 0) else some (tkAt s.size (U + (bt s i % 128).toNat * 128 ^ i) (i + 1) ((bytesOf s).drop (i + 1))) := by
          intro t ht
          subst ht
          have hV : ((U + (bt s i % 128).toNat * 128 ^ i : Nat) : Int) = (U : Int) + bt s i % 128 * 128 ^ i := by
            rw [Int.natCast_add, Int.natCast_mul, hcast]; congr 2; omega
          have hVlt : U + (bt s i % 128).toNat * 128 ^ i < 18446744073709551616 := by omega
          simp only [codec_Take.j1]
          rw [if_neg (by decide), if_pos (by omega), if_pos (by omega), if_pos h, o2 hov, j1, ← hV]
          by_cases hb8 : bt s i < 128
          · rw [if_pos hb8, if_pos hb8, unzig_bits _ hVlt, w64 (n := (i : Int) + 1) (by omega) (by omega)]
          · rw [if_neg hb8, if_neg hb8, w64 (n := (i : Int) + 1) (by omega) (by omega)]
            have hlow : (bt s i % 128).toNat ≤ 127 := by omega
            have hUV : U + (bt s i % 128).toNat * 128 ^ i < 128 ^ (i + 1) := by
              rw [Nat.pow_succ]
              have : (bt s i % 128).toNat * 128 ^ i ≤ 127 * 128 ^ i := Nat.mul_le_mul_right _ hlow
              omega
            have := ih k (U + (bt s i % 128).toNat * 128 ^ i) (i + 1) (by omega) (by omega) hUV (by omega)
            rw [show (((i + 1 : Nat)) : Int) = (i : Int) + 1 from by omega] at this
            exact this
        have bad : codec_Take.j1 (k + 1) s (U : Int) (i : Int) (bt s i % 128) (7 * (i : Int)) true = some (0, 0, 2) := by simp only [codec_Take.j1]; rfl
        unfold tkAt
        simp only [Cod.dec]
        by_cases hb8 : bt s i < 128
        · rw [if_pos hb8]
          simp only
          have hx : (bt s i % 128).toNat = (bt s i).toNat := by omega
          have hm : 128 ^ i * (bt s i).toNat = (bt s i % 128).toNat * 128 ^ i := by rw [hx, Nat.mul_comm]
          have hlen : (s.size : Int) - ((bytesOf s).drop (i + 1)).length = (i : Int) + 1 := by rw [List.length_drop, bytesOf_size]; omega
          have hVlt : U + (bt s i % 128).toNat * 128 ^ i < 18446744073709551616 := by
            have hV : ((U + (bt s i % 128).toNat * 128 ^ i : Nat) : Int) = (U : Int) + bt s i % 128 * 128 ^ i := by
              rw [Int.natCast_add, Int.natCast_mul, hcast]; congr 2; omega
            omega
          by_cases h0 : (i : Int) > 0
          · rw [if_pos h0]
            by_cases hz : bt s i = 0
            · rw [show (bt s i == 0) = true from by simp [hz], bad, if_pos (Or.inl ⟨by omega, by omega⟩)]
            · rw [goon _ (by simp [hz]), if_pos hb8, if_neg (by rw [hm]; omega), hm, hlen]
          · rw [if_neg h0, goon _ rfl, if_pos hb8, if_neg (by rw [hm]; omega), hm, hlen]
        · rw [if_neg hb8]
          have hn0 : (bt s i == 0) = false := by simp; omega
          have e : (if (i : Int) > 0 then codec_Take.j1 (k + 1) s (U : Int) (i : Int) (bt s i % 128) (7 * (i : Int)) (bt s i == 0) else codec_Take.j1 (k + 1) s (U : Int) (i : Int) (bt s i % 128) (7 * (i : Int)) false)
              = some (tkAt s.size (U + (bt s i % 128).toNat * 128 ^ i) (i + 1) ((bytesOf s).drop (i + 1))) := by
            rw [hn0]; split <;> rw [goon _ rfl, if_neg hb8]
          rw [e]
          congr 1
          unfold tkAt
          cases Cod.dec ((bytesOf s).drop (i + 1)) with
          | none => rfl
          | some p =>
            obtain ⟨x, q⟩ := p
            simp only
            by_cases hx : x = 0
            · rw [if_pos (Or.inl ⟨by omega, hx⟩), if_pos hx]
            · rw [if_neg hx]
              simp only
              have hy : 128 ^ i * ((bt s i - 128).toNat + 128 * x) = (bt s i % 128).toNat * 128 ^ i + 128 ^ (i + 1) * x := by
                rw [Nat.mul_add, Nat.pow_succ, Nat.mul_comm (128 ^ i) ((bt s i - 128).toNat), show (bt s i - 128).toNat = (bt s i % 128).toNat from by omega, Nat.mul_assoc]
              rw [hy, ← Nat.add_assoc]
              have hne : (bt s i - 128).toNat + 128 * x ≠ 0 := by omega
              by_cases hbig : 18446744073709551616 ≤ U + (bt s i % 128).toNat * 128 ^ i + 128 ^ (i + 1) * x
              · rw [if_pos (Or.inr hbig), if_pos (Or.inr hbig)]
              · rw [if_neg (by omega), if_neg (by omega)]
      · rw [if_neg (fun hh => hov (o1.1 hh))]
        have bad : codec_Take.j1 (k + 1) s (U : Int) (i : Int) (bt s i % 128) (7 * (i : Int)) true = some (0, 0, 2) := by simp only [codec_Take.j1]; rfl
        rw [bad]
        congr 1
        have hV : (((bt s i % 128).toNat * 128 ^ i : Nat) : Int) = bt s i % 128 * 128 ^ i := by
          rw [Int.natCast_mul, hcast]; congr 1; omega
        unfold tkAt
        simp only [Cod.dec]
        by_cases hb8 : bt s i < 128
        · rw [if_pos hb8]
          simp only
          rw [if_pos (Or.inr ?_)]
          rw [show (bt s i).toNat = (bt s i % 128).toNat from by omega, Nat.mul_comm]; omega
        · rw [if_neg hb8]
          cases Cod.dec ((bytesOf s).drop (i + 1)) with
          | none => rfl
          | some p =>
            obtain ⟨x, q⟩ := p
            simp only
            by_cases hx : x = 0
            · rw [if_pos hx]
            · rw [if_neg hx]
              simp only
              rw [if_pos (Or.inr ?_)]
              rw [Nat.mul_add, Nat.mul_comm (128 ^ i) ((bt s i - 128).toNat), show (bt s i - 128).toNat = (bt s i % 128).toNat from by omega]; omega
    · rw [if_neg h]
      have : (bytesOf s).drop i = [] := by rw [List.drop_eq_nil_iff, bytesOf_size]; omega
      rw [this]; rfl

theorem take_f (k : Nat) (hk : 40 ≤ k) (s : ByteArray) (hs : s.size ≤ 140737488355328) : codec_Take.f k s = some (Cod.tk (bytesOf s)) := by
  unfold codec_Take.f
  have := take_l s hs 11 k 0 0 (by omega) (by omega) (by omega) (by omega)
  rw [show ((0 : Nat) : Int) = 0 from rfl] at this
  rw [this]
  congr 1
  unfold tkAt Cod.tk
  simp only [List.drop_zero, bytesOf_size]
  cases Cod.dec (bytesOf s) with
  | none => rfl
  | some p =>
    obtain ⟨x, q⟩ := p
    simp only [Nat.pow_zero, Nat.one_mul, Nat.zero_add]
    by_cases h : x < 18446744073709551616
    · rw [if_pos h, if_neg (by omega)]
    · rw [if_neg h, if_pos (by omega)]
/- Put, Read, of the program -/
def I64 (l : List Int) : Prop := ∀ n ∈ l, -9223372036854775808 ≤ n ∧ n ≤ 9223372036854775807

theorem I64.at {l : List Int} (h : I64 l) (i : Nat) (hi : i < l.length) : -9223372036854775808 ≤ l.getD i 0 ∧ l.getD i 0 ≤ 9223372036854775807 := by
  have : l.getD i 0 ∈ l := by simp [List.getD_eq_getElem?_getD, hi]
  exact h _ this
theorem rd_nat (l : List Int) (i : Nat) : rd l (i : Int) = l.getD i 0 := by unfold rd; simp
theorem list_drop (l : List Int) (i : Nat) (h : i < l.length) : l.drop i = l.getD i 0 :: l.drop (i + 1) := by
  rw [List.drop_eq_getElem_cons h]; simp [List.getD_eq_getElem?_getD, h]

def putS (kind : Int) (a : List Int) : ByteArray × Int := if kind < 0 ∨ kind > 255 ∨ (a.length : Int) > 64 then (⟨#[]⟩, 2) else (strOfNums (kind :: (a.length : Int) :: Cod.encs a), 0)

theorem put_l (l : List Int) (hl : I64 l) (hlen : l.length ≤ 64) (d : Nat) : ∀ (k : Nat) (acc : List Int) (i : Nat), i + d = l.length → acc.length ≤ 2 + 10 * i → d + 30 < k →
    codec_Put.l0 k acc l (l.length : Int) (i : Int) = some (strOfNums (acc ++ Cod.encs (l.drop i)), 0) := by
  induction d with
  | zero =>
    intro k acc i hi ha hk
    obtain ⟨k, rfl⟩ : ∃ j, k = j + 1 := ⟨k - 1, by omega⟩
    simp only [codec_Put.l0]
    rw [if_neg (by omega), List.drop_of_length_le (by omega)]; simp [Cod.encs]
  | succ d ih =>
    intro k acc i hi ha hk
    obtain ⟨k, rfl⟩ : ∃ j, k = j + 1 := ⟨k - 1, by omega⟩
    obtain ⟨b1, b2⟩ := hl.at i (by omega)
    have he := Cod.enc_ten (Cod.zig_lt b1 b2)
    simp only [codec_Put.l0]
    rw [if_pos (by omega), if_pos (by omega), if_pos (by omega), rd_nat, lay64_f k (by omega) acc _ b1 b2 (by omega)]
    simp only [Option.bind_some]
    rw [w64 (n := (i : Int) + 1) (by omega) (by omega)]
    have := ih k (acc ++ Cod.enc (Cod.zig (l.getD i 0))) (i + 1) (by omega) (by rw [List.length_append]; omega) (by omega)
    rw [show ((i + 1 : Nat) : Int) = (i : Int) + 1 from by omega] at this
    rw [this, list_drop l i (by omega)]
    simp [Cod.encs]

theorem put_f (k : Nat) (hk : 120 ≤ k) (kind : Int) (l : List Int) (hl : I64 l) : codec_Put.f k kind l = some (putS kind l) := by
  obtain ⟨k, rfl⟩ : ∃ j, k = j + 1 := ⟨k - 1, by omega⟩
  have bad : codec_Put.j0 (k + 1) true kind l = some (⟨#[]⟩, 2) := by simp only [codec_Put.j0]; rfl
  unfold codec_Put.f putS
  by_cases h1 : kind < 0
  · rw [if_pos h1, bad, if_pos (Or.inl h1)]
  rw [if_neg h1]
  by_cases h2 : kind > 255
  · rw [if_pos h2, bad, if_pos (Or.inr (Or.inl h2))]
  rw [if_neg h2]
  by_cases h3 : (l.length : Int) > 64
  · rw [decide_eq_true h3, bad, if_pos (Or.inr (Or.inr h3))]
  · rw [decide_eq_false h3, if_neg (by omega)]
    simp only [codec_Put.j0]
    rw [if_neg (by decide), show kind % 256 = kind from by omega, show (l.length : Int) % 256 = l.length from by omega]
    have := put_l l hl (by omega) l.length k [kind, (l.length : Int)] 0 (by omega) (by simp) (by omega)
    rw [show ((0 : Nat) : Int) = 0 from rfl] at this
    rw [this]; simp

/-- what Read tells of bytes -/
def readS (l : List Int) : Int × List Int × Int := if l.length < 2 ∨ l.getD 1 0 > 64 then (0, [], 2) else
  match Cod.nums (l.getD 1 0).toNat (l.drop 2) with
  | some (a, []) => (l.getD 0 0, a, 0)
  | _ => (0, [], 2)

theorem take_parts (s : ByteArray) : (∃ u r, u < 18446744073709551616 ∧ bytesOf s = Cod.enc u ++ r ∧ Cod.tk (bytesOf s) = (Cod.unzig u, ((Cod.enc u).length : Int), 0)) ∨ Cod.tk (bytesOf s) = (0, 0, 2) :=
  Cod.tk_cases _ (byt_bytesOf s)

theorem read_l (kind : Int) (m : Nat) (hm : m ≤ 64) (d : Nat) : ∀ (k : Nat) (s : ByteArray) (i : Nat) (args : List Int), s.size ≤ 140737488355328 → i + d = m → args.length ≤ i → d + 60 < k →
    codec_Read.l0 k s (m : Int) (i : Int) kind args = some (match Cod.nums d (bytesOf s) with
      | some (a, []) => (kind, args ++ a, 0)
      | _ => (0, [], 2)) := by
  induction d with
  | zero =>
    intro k s i args hs hi ha hk
    obtain ⟨k, rfl⟩ : ∃ j, k = j + 1 := ⟨k - 1, by omega⟩
    simp only [codec_Read.l0]
    rw [if_neg (by omega)]
    simp only [Cod.nums]
    by_cases h : bytesOf s = []
    · rw [if_pos ((toList_nil s).2 h), h]; simp
    · rw [if_neg (fun x => h ((toList_nil s).1 x))]
      cases hb : bytesOf s with
      | nil => exact absurd hb h
      | cons a l => rfl
  | succ d ih =>
    intro k s i args hs hi ha hk
    obtain ⟨k, rfl⟩ : ∃ j, k = j + 1 := ⟨k - 1, by omega⟩
    simp only [codec_Read.l0]
    rw [if_pos (by omega), take_f k (by omega) s hs]
    simp only [Option.bind_some, Cod.nums]
    rcases take_parts s with ⟨u, r, hu, e, ht⟩ | ht
    · have he := Cod.enc_ten hu
      have hle : (Cod.enc u).length ≤ s.size := by rw [← bytesOf_size, e]; simp
      rw [ht]
      simp only [if_true]
      rw [if_pos (by omega), if_pos (by omega), if_pos (by omega), show ((i : Int) + 1) % 256 = ((i + 1 : Nat) : Int) from by omega]
      have hb : bytesOf (s.extract (((Cod.enc u).length : Int)).toNat s.size) = (bytesOf s).drop (((Cod.enc u).length : Int)).toNat := bytesOf_drop s _
      have hsz : (s.extract (((Cod.enc u).length : Int)).toNat s.size).size ≤ 140737488355328 := by
        rw [← bytesOf_size, hb, List.length_drop, bytesOf_size]; omega
      rw [ih k _ (i + 1) (args ++ [Cod.unzig u]) hsz (by omega) (by simp; omega) (by omega), hb]
      cases Cod.nums d ((bytesOf s).drop (((Cod.enc u).length : Int)).toNat) with
      | none => rfl
      | some p =>
        obtain ⟨a, q⟩ := p
        cases q with
        | nil => simp
        | cons b q => rfl
    · rw [ht]; simp

theorem read_f (k : Nat) (hk : 140 ≤ k) (s : ByteArray) (hs : s.size ≤ 140737488355328) : codec_Read.f k s = some (readS (bytesOf s)) := by
  obtain ⟨k, rfl⟩ : ∃ j, k = j + 1 := ⟨k - 1, by omega⟩
  have bad : codec_Read.j0 (k + 1) s true = some (0, [], 2) := by simp only [codec_Read.j0]; rfl
  have hz := bytesOf_size s
  have h0r := bt_range s 0
  have h1r := bt_range s 1
  unfold codec_Read.f readS
  by_cases h1 : (s.size : Int) < 2
  · rw [if_pos h1, bad, if_pos (Or.inl (by omega))]
  rw [if_neg h1, if_pos (by omega)]
  have e1 : bt s 1 = (bytesOf s).getD 1 0 := bt_getD s 1
  have e0 : bt s 0 = (bytesOf s).getD 0 0 := bt_getD s 0
  by_cases h2 : bt s 1 > 64
  · rw [decide_eq_true h2, bad, if_pos (Or.inr (by omega))]
  rw [decide_eq_false h2, if_neg (by omega)]
  simp only [codec_Read.j0]
  rw [if_neg (by decide), if_pos (by omega), if_pos (by omega), if_pos (by omega), w64 (n := bt s 0) (by omega) (by omega)]
  have hb : bytesOf (s.extract 2 s.size) = (bytesOf s).drop 2 := bytesOf_drop s 2
  have hsz : (s.extract 2 s.size).size ≤ 140737488355328 := by rw [← bytesOf_size, hb, List.length_drop]; omega
  have := read_l (bt s 0) (bt s 1).toNat (by omega) (bt s 1).toNat k (s.extract 2 s.size) 0 [] hsz (by omega) (by simp) (by omega)
  rw [show (((bt s 1).toNat : Nat) : Int) = bt s 1 from by omega, show ((0 : Nat) : Int) = 0 from rfl, hb] at this
  rw [this, ← e1, ← e0]
  simp

end Go.Proofs.Ytkfbmplhcigopab.PCod
