/- Numbers as bytes (chapter 18): what program and document get and put. -/
import Derived.Test.YtfajpcinmpbhgaaMWireA
import Derived.Test.YtfajpcinmpbhgaaPx4
import Derived.Test.YtfajpcinmpbhgaaPx1
import Derived.Test.YtfajpcinmpbhgaaPx2
import Derived.Test.YtfajpcinmpbhgaaPx4
import Derived.Test.YtfajpcinmpbhgaaPx4
import Derived.Test.YtfajpcinmpbhgaaPx4
import Derived.Test.YtfajpcinmpbhgaaPx4
import Derived.Test.YtfajpcinmpbhgaaPx2
namespace Go.Proofs.Ytfajpcinmpbhgaa.M
open Go.RowKit Go.Proofs.Ytfajpcinmpbhgaa.P Go.Proofs.YtfajpcinmpbhgaaW.PrintWords Go.Proofs.YtfajpcinmpbhgaaW.PrintLast Go.Proofs.YtfajpcinmpbhgaaW.PrintMore

/-- The three numbers, as Go has them. -/
def gi (p : Nat × Nat × Nat) : Int × Int × Int := ((p.1 : Int), (p.2.1 : Int), (p.2.2 : Int))
theorem byte_at (s : ByteArray) (i : Nat) (c : UInt8) (rest : List UInt8) (h : s.data.toList.drop i = c :: rest) : i < s.size ∧ bt s (i : Int) = (c.toNat : Int) ∧ s.data.toList.drop (i + 1) = rest := by
  have hlt : i < s.data.toList.length := by
    rcases Nat.lt_or_ge i s.data.toList.length with h1 | h1
    · exact h1
    · rw [List.drop_of_length_le h1] at h; cases h
  rw [List.drop_eq_getElem_cons hlt] at h
  obtain ⟨h1, h2⟩ := List.cons.inj h
  have hs : i < s.size := by simpa using hlt
  refine ⟨hs, ?_, h2⟩
  unfold bt
  rw [Int.toNat_natCast, dif_pos hs, ← h1]
  rfl
theorem end_at (s : ByteArray) (i : Nat) (h : s.data.toList.drop i = []) (hi : i ≤ s.size) : i = s.size := by
  have := List.drop_eq_nil_iff.mp h
  simp at this
  omega
theorem or_nat (a b : Nat) (ha : a < 18446744073709551616) (hb : b < 18446744073709551616) : Go.bits .or .u64 (a : Int) (b : Int) = ((a ||| b : Nat) : Int) := by
  have hx : a ||| b < 2 ^ 64 := Nat.or_lt_two_pow ha hb
  have h1 : (BitVec.ofInt 64 (a : Int)).toNat = a := by
    rw [BitVec.ofInt_natCast, BitVec.toNat_ofNat]; exact Nat.mod_eq_of_lt ha
  have h2 : (BitVec.ofInt 64 (b : Int)).toNat = b := by
    rw [BitVec.ofInt_natCast, BitVec.toNat_ofNat]; exact Nat.mod_eq_of_lt hb
  show IntKind.u64.wrap ((BitVec.ofInt 64 (a : Int) ||| BitVec.ofInt 64 (b : Int)).toNat : Int) = _
  rw [BitVec.toNat_or, h1, h2, IntKind.wrap_u64]
  have e : (2 : Nat) ^ 64 = 18446744073709551616 := by decide
  omega
theorem low7_fin : ∀ c : Fin 256, Go.bits .and .u8 (c.val : Int) 127 = ((c.val % 128 : Nat) : Int) := by decide +kernel
theorem pow_cast (n : Nat) : ((2 ^ n : Nat) : Int) = (2 : Int) ^ n := by simp
theorem acc_lt (v c i : Nat) (hi : i ≤ 9) (hv : v < 2 ^ (7 * i)) (h9 : ¬ ((i = 9 ∧ 1 < c) ∨ (0 < i ∧ c = 0))) : v + c % 128 * 2 ^ (7 * i) < 18446744073709551616 ∧ v < 18446744073709551616 ∧ c % 128 * 2 ^ (7 * i) < 18446744073709551616 := by
  have e63 : (2 : Nat) ^ (7 * 9) = 9223372036854775808 := by decide
  by_cases h : i = 9
  · subst h
    have : c ≤ 1 := by omega
    have : c % 128 * 2 ^ (7 * 9) ≤ 1 * 2 ^ (7 * 9) := Nat.mul_le_mul_right _ (by omega)
    omega
  · have h1 : (2 : Nat) ^ (7 * i) ≤ 2 ^ (7 * 8) := Nat.pow_le_pow_right (by decide) (by omega)
    have e56 : (2 : Nat) ^ (7 * 8) = 72057594037927936 := by decide
    have : c % 128 * 2 ^ (7 * i) ≤ 127 * 2 ^ (7 * 8) := Nat.mul_le_mul (by omega) h1
    omega
theorem acc_or (v c i : Nat) (hc : c < 256) (hi : i ≤ 9) (hv : v < 2 ^ (7 * i)) (h9 : ¬ ((i = 9 ∧ 1 < c) ∨ (0 < i ∧ c = 0))) :
    Go.bits .or .u64 (v : Int) (shl .u64 (IntKind.u64.wrap (Go.bits .and .u8 (c : Int) 127)) (wrap64 (7 * (i : Int)))) = ((v + c % 128 * 2 ^ (7 * i) : Nat) : Int) := by
  obtain ⟨h1, h2, h3⟩ := acc_lt v c i hi hv h9
  have hl : Go.bits .and .u8 (c : Int) 127 = ((c % 128 : Nat) : Int) := low7_fin ⟨c, hc⟩
  rw [hl, u64_self ((c % 128 : Nat) : Int) (by omega) (by omega), wrap64_self _ (by omega) (by omega), show (7 * (i : Int)) = ((7 * i : Nat) : Int) by omega, shl_nat _ _ _ (by show 7 * i ≤ 64; omega), ← pow_cast, ← Int.natCast_mul, u64_self ((c % 128 * 2 ^ (7 * i) : Nat) : Int) (by omega) (by omega), or_nat _ _ h2 h3]
  congr 1
  rw [Nat.or_comm, Nat.mul_comm, ← Nat.two_pow_add_eq_or_of_lt hv, Nat.add_comm]
theorem get_j (k : Nat) (s : ByteArray) (v i c : Nat) (hi : i < s.size) (hi9 : i ≤ 9) (hb : bt s (i : Int) = (c : Int)) :
    wire_Get.l0 (k + 1) s (v : Int) (s.size : Int) (i : Int) = wire_Get.j1 k s (v : Int) (i : Int) (c : Int) (s.size : Int) (i : Int) (decide ((i = 9 ∧ 1 < c) ∨ (0 < i ∧ c = 0))) := by
  simp only [wire_Get.l0]
  rw [if_pos (by omega), if_pos (by omega), if_pos (by omega), hb]
  by_cases h9 : i = 9
  · rw [if_pos (by omega)]
    by_cases h1 : 1 < c
    · rw [if_pos (by omega), decide_eq_true (.inl ⟨h9, h1⟩)]
    · rw [if_neg (by omega), if_pos (by omega)]
      congr 1
      rw [Bool.eq_iff_iff, beq_iff_eq, decide_eq_true_eq]; omega
  · rw [if_neg (by omega)]
    by_cases h0 : 0 < i
    · rw [if_pos (by omega)]
      congr 1
      rw [Bool.eq_iff_iff, beq_iff_eq, decide_eq_true_eq]; omega
    · rw [if_neg (by omega), decide_eq_false (by omega)]
theorem get_loop (s : ByteArray) : ∀ (l : List UInt8) (i v k : Nat), s.data.toList.drop i = l → i ≤ s.size → i ≤ 9 → v < 2 ^ (7 * i) → 22 ≤ k + 2 * i → wire_Get.l0 k s (v : Int) (s.size : Int) (i : Int) = some (gi (getL l i v))
  | [], i, v, k, h, his, hi9, hv, hk => by
    obtain ⟨k, rfl⟩ : ∃ m, k = m + 1 := ⟨k - 1, by omega⟩
    have := end_at s i h his
    subst this
    simp only [wire_Get.l0]
    rw [if_neg (by omega)]
    rfl
  | c :: l, i, v, k, h, his, hi9, hv, hk => by
    obtain ⟨k, rfl⟩ : ∃ m, k = m + 2 := ⟨k - 2, by omega⟩
    obtain ⟨h1, h2, h3⟩ := byte_at s i c l h
    have hc : c.toNat < 256 := c.toNat_lt
    rw [get_j (k + 1) s v i c.toNat h1 hi9 h2]
    simp only [wire_Get.j1, getL]
    by_cases h9 : (i = 9 ∧ 1 < c.toNat) ∨ (0 < i ∧ c.toNat = 0)
    · rw [if_pos h9, if_pos (decide_eq_true h9)]; rfl
    · rw [if_neg h9, if_neg (by rw [decide_eq_false h9]; decide), if_pos (by rw [wrap64_self _ (by omega) (by omega)]; omega), acc_or v c.toNat i hc hi9 hv h9]
      by_cases hlt : c.toNat < 128
      · rw [if_pos hlt, if_pos (by omega), wrap64_self _ (by omega) (by omega), Nat.mod_eq_of_lt hlt]
        rfl
      · have hp := Nat.two_pow_pos (7 * i)
        have hv2 : v + c.toNat % 128 * 2 ^ (7 * i) < 2 ^ (7 * (i + 1)) := by
          rw [pow7]
          have : c.toNat % 128 * 2 ^ (7 * i) ≤ 127 * 2 ^ (7 * i) := Nat.mul_le_mul_right _ (by omega)
          omega
        rw [if_neg hlt, if_neg (by omega), wrap64_self _ (by omega) (by omega), show ((i : Int) + 1) = ((i + 1 : Nat) : Int) by omega]
        exact get_loop s l (i + 1) _ k h3 (by omega) (by omega) hv2 (by omega)
theorem get_spec (k : Nat) (s : ByteArray) (hk : 22 ≤ k) : wire_Get.f k s = some (gi (getL s.data.toList 0 0)) := by
  unfold wire_Get.f
  exact get_loop s _ 0 0 k rfl (Nat.zero_le _) (by decide) (by decide) (by omega)

theorem power7_fin : ∀ i : Fin 10, cleatref01_Power.f 70 (7 * (i.val : Int)) = some ((2 ^ (7 * i.val) : Nat) : Int) := by decide +kernel
theorem ref_get_j (k : Nat) (s : ByteArray) (v i c : Nat) (hi : i < s.size) (hc : c < 256) (hb : bt s (i : Int) = (c : Int)) :
    cleatref18_Get.l0 (k + 1) s (v : Int) (i : Int) = cleatref18_Get.j1 k s (v : Int) (i : Int) (c : Int) (decide ((i = 9 ∧ 1 < c) ∨ (0 < i ∧ c = 0))) := by
  simp only [cleatref18_Get.l0]
  rw [if_pos (by omega), if_pos (by omega), hb, u64_self _ (by omega) (by omega)]
  by_cases h9 : i = 9
  · rw [if_pos (by omega)]
    by_cases h1 : 1 < c
    · rw [if_pos (by omega), decide_eq_true (.inl ⟨h9, h1⟩)]
    · rw [if_neg (by omega), if_pos (by omega)]
      congr 1
      rw [Bool.eq_iff_iff, beq_iff_eq, decide_eq_true_eq]; omega
  · rw [if_neg (by omega)]
    by_cases h0 : 0 < i
    · rw [if_pos (by omega)]
      congr 1
      rw [Bool.eq_iff_iff, beq_iff_eq, decide_eq_true_eq]; omega
    · rw [if_neg (by omega), decide_eq_false (by omega)]
theorem ref_get_loop (s : ByteArray) : ∀ (l : List UInt8) (i v k : Nat), s.data.toList.drop i = l → i ≤ s.size → i ≤ 9 → v < 2 ^ (7 * i) → 92 ≤ k + 2 * i → cleatref18_Get.l0 k s (v : Int) (i : Int) = some (gi (getL l i v))
  | [], i, v, k, h, his, hi9, hv, hk => by
    obtain ⟨k, rfl⟩ : ∃ m, k = m + 1 := ⟨k - 1, by omega⟩
    have := end_at s i h his
    subst this
    simp only [cleatref18_Get.l0]
    rw [if_neg (by omega)]
    rfl
  | c :: l, i, v, k, h, his, hi9, hv, hk => by
    obtain ⟨k, rfl⟩ : ∃ m, k = m + 2 := ⟨k - 2, by omega⟩
    obtain ⟨h1, h2, h3⟩ := byte_at s i c l h
    have hc : c.toNat < 256 := c.toNat_lt
    rw [ref_get_j (k + 1) s v i c.toNat h1 hc h2]
    simp only [cleatref18_Get.j1, getL]
    by_cases h9 : (i = 9 ∧ 1 < c.toNat) ∨ (0 < i ∧ c.toNat = 0)
    · rw [if_pos h9, if_pos (decide_eq_true h9)]; rfl
    · obtain ⟨a1, a2, a3⟩ := acc_lt v c.toNat i hi9 hv h9
      have hpw : cleatref01_Power.f k (wrap64 (7 * (i : Int))) = some ((2 ^ (7 * i) : Nat) : Int) := by
        rw [wrap64_self _ (by omega) (by omega)]
        exact at_rounds (cleatref01_Power.mono _) (show 70 ≤ k by omega) (power7_fin ⟨i, by omega⟩)
      have hacc : IntKind.u64.wrap ((v : Int) + IntKind.u64.wrap (Int.tmod (c.toNat : Int) 128 * ((2 ^ (7 * i) : Nat) : Int))) = ((v + c.toNat % 128 * 2 ^ (7 * i) : Nat) : Int) := by
        rw [show Int.tmod (c.toNat : Int) 128 = ((c.toNat % 128 : Nat) : Int) by rw [Int.tmod_eq_emod_of_nonneg (by omega)]; omega, ← Int.natCast_mul, u64_self ((c.toNat % 128 * 2 ^ (7 * i) : Nat) : Int) (by omega) (by omega), ← Int.natCast_add, u64_self _ (by omega) (by omega)]
      rw [if_neg h9, if_neg (by rw [decide_eq_false h9]; decide), hpw, Option.bind_some, hacc]
      by_cases hlt : c.toNat < 128
      · rw [if_pos hlt, if_pos (by omega), wrap64_self _ (by omega) (by omega), Nat.mod_eq_of_lt hlt]
        rfl
      · have hp := Nat.two_pow_pos (7 * i)
        have hv2 : v + c.toNat % 128 * 2 ^ (7 * i) < 2 ^ (7 * (i + 1)) := by
          rw [pow7]
          have : c.toNat % 128 * 2 ^ (7 * i) ≤ 127 * 2 ^ (7 * i) := Nat.mul_le_mul_right _ (by omega)
          omega
        rw [if_neg hlt, if_neg (by omega), wrap64_self _ (by omega) (by omega), show ((i : Int) + 1) = ((i + 1 : Nat) : Int) by omega]
        exact ref_get_loop s l (i + 1) _ k h3 (by omega) (by omega) hv2 (by omega)
theorem ref_get_spec (k : Nat) (s : ByteArray) (hk : 92 ≤ k) : cleatref18_Get.f k s = some (gi (getL s.data.toList 0 0)) := by
  unfold cleatref18_Get.f
  exact ref_get_loop s _ 0 0 k rfl (Nat.zero_le _) (by decide) (by decide) (by omega)

/-- Ints. -/
theorem minus_xor (a : Nat) (h : a < 9223372036854775808) : Go.bits .xor .i64 (a : Int) (-1) = -1 - (a : Int) := by
  have h1 : (BitVec.ofInt 64 (a : Int)) = BitVec.ofNat 64 a := BitVec.ofInt_natCast ..
  have h2 : (BitVec.ofInt 64 (-1 : Int)) = BitVec.allOnes 64 := by decide
  show IntKind.i64.wrap ((BitVec.ofInt 64 (a : Int) ^^^ BitVec.ofInt 64 (-1)).toNat : Int) = _
  rw [h1, h2, BitVec.xor_allOnes, BitVec.toNat_not, BitVec.toNat_ofNat, Nat.mod_eq_of_lt (by omega)]
  have e : (2 : Nat) ^ 64 = 18446744073709551616 := by decide
  rw [e, i64_w]
  unfold wrap64
  omega
theorem zero_xor (a : Nat) (h : a < 9223372036854775808) : Go.bits .xor .i64 (a : Int) 0 = (a : Int) := by
  have h1 : (BitVec.ofInt 64 (a : Int)) = BitVec.ofNat 64 a := BitVec.ofInt_natCast ..
  have h2 : (BitVec.ofInt 64 (0 : Int)) = 0#64 := by decide
  show IntKind.i64.wrap ((BitVec.ofInt 64 (a : Int) ^^^ BitVec.ofInt 64 0).toNat : Int) = _
  rw [h1, h2, BitVec.xor_zero, BitVec.toNat_ofNat, Nat.mod_eq_of_lt (by omega), i64_w]
  unfold wrap64
  omega
theorem zag_bits (v : Nat) (h : v < 18446744073709551616) : Go.bits .xor .i64 (wrap64 ((v : Int) / 2)) (wrap64 (-(wrap64 (Go.bits .and .u64 (v : Int) 1)))) = zag v := by
  have ha : Go.bits .and .u64 (v : Int) 1 = ((v % 2 : Nat) : Int) := by
    have := and_ones_u64 (v : Int) 1 (by decide) (by omega) (by omega)
    rw [show ((2 : Int) ^ 1 - 1) = 1 by decide, show ((2 : Int) ^ 1) = 2 by decide] at this
    rw [this]; omega
  rw [ha, show (v : Int) / 2 = ((v / 2 : Nat) : Int) by omega, wrap64_self ((v / 2 : Nat) : Int) (by omega) (by omega), wrap64_self ((v % 2 : Nat) : Int) (by omega) (by omega), wrap64_self _ (by omega) (by omega)]
  unfold zag
  by_cases h0 : v % 2 = 0
  · rw [if_pos h0, h0]; exact zero_xor _ (by omega)
  · rw [if_neg h0, show v % 2 = 1 by omega]; exact minus_xor _ (by omega)
theorem getint_spec (k : Nat) (s : ByteArray) (hk : 22 ≤ k) : wire_GetInt.f k s = some (zag (getL s.data.toList 0 0).1, ((getL s.data.toList 0 0).2.1 : Int), ((getL s.data.toList 0 0).2.2 : Int)) := by
  unfold wire_GetInt.f
  rw [get_spec k s hk, Option.bind_some]
  have hv : (getL s.data.toList 0 0).1 < 18446744073709551616 := by
    rcases get_cases0 s.data.toList with ⟨y, rest, _, h2, h4⟩ | ⟨e, _, h4⟩
    · rw [h4]; exact h2
    · rw [h4]; exact Nat.zero_lt_of_lt (Nat.lt_succ_self _)
  show some (Go.bits .xor .i64 (wrap64 (((getL s.data.toList 0 0).1 : Int) / 2)) (wrap64 (-(wrap64 (Go.bits .and .u64 ((getL s.data.toList 0 0).1 : Int) 1)))), _, _) = _
  rw [zag_bits _ hv]
  rfl
theorem ref_getint_spec (k : Nat) (s : ByteArray) (hk : 92 ≤ k) : cleatref18_GetInt.f k s = some (zag (getL s.data.toList 0 0).1, ((getL s.data.toList 0 0).2.1 : Int), ((getL s.data.toList 0 0).2.2 : Int)) := by
  unfold cleatref18_GetInt.f
  rw [ref_get_spec k s hk, Option.bind_some]
  rcases get_cases0 s.data.toList with ⟨y, rest, _, h2, h4⟩ | ⟨e, he, h4⟩
  · rw [h4]
    show (if (0 : Int) = 0 then _ else _) = _
    rw [if_pos rfl]
    show (if Int.tmod (y : Int) 2 = 0 then some (wrap64 (IntKind.u64.wrap (Int.tdiv (y : Int) 2)), ((wire_putL y).length : Int), (0 : Int)) else some (wrap64 (-1 - wrap64 (IntKind.u64.wrap (Int.tdiv (y : Int) 2))), ((wire_putL y).length : Int), (0 : Int))) = _
    rw [show Int.tdiv (y : Int) 2 = ((y / 2 : Nat) : Int) by rw [Int.tdiv_eq_ediv_of_nonneg (by omega)]; omega, show Int.tmod (y : Int) 2 = ((y % 2 : Nat) : Int) by rw [Int.tmod_eq_emod_of_nonneg (by omega)]; omega, u64_self _ (by omega) (by omega), wrap64_self ((y / 2 : Nat) : Int) (by omega) (by omega), wrap64_self _ (by omega) (by omega)]
    unfold zag
    by_cases h0 : y % 2 = 0
    · rw [if_pos (by omega), if_pos h0]; rfl
    · rw [if_neg (by omega), if_neg h0]; rfl
  · rw [h4]
    show (if ((e : Nat) : Int) = 0 then _ else _) = _
    rw [if_neg (by omega)]
    show some ((0 : Int), (0 : Int), ((e : Nat) : Int)) = some (zag 0, ((0 : Nat) : Int), ((e : Nat) : Int))
    rw [show zag 0 = 0 by simp [zag]]
    rfl
end Go.Proofs.Ytfajpcinmpbhgaa.M
