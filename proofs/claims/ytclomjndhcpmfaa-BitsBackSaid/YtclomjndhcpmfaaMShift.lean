/- Shifts: what flag.Shift and the document's answer tell, as plain numbers (chapter 3). -/
import Derived.Test.YtclomjndhcpmfaaMRot
import Derived.Test.YtclomjndhcpmfaaPx4
import Derived.Test.YtclomjndhcpmfaaPx5
namespace Go.Proofs.Ytclomjndhcpmfaa.M
open Go.RowKit Go.Proofs.Ytclomjndhcpmfaa.P Go.Proofs.YtclomjndhcpmfaaW.PrintWords Go.Proofs.YtclomjndhcpmfaaW.PrintLast Go.Proofs.YtclomjndhcpmfaaW.PrintMore

/-- V's bits shifted by B places, of a kind. -/
def shN (V B kind : Nat) : Nat := if kind = 0 then V * 2 ^ B % 2 ^ 64 else if kind = 1 then V / 2 ^ B else if kind = 2 then (if V < 2 ^ 63 then V / 2 ^ B else 2 ^ (64 - B) * (2 ^ B - 1) + V / 2 ^ B) else rotN V B 64
def shV (v kind b : Int) : Int × Int := if 0 ≤ kind ∧ kind ≤ 3 ∧ 0 ≤ b ∧ b ≤ 63 then (((shN v.toNat b.toNat kind.toNat : Nat) : Int), 0) else (0, 1)
theorem shV_nat (V B K : Nat) (hB : B ≤ 63) (hK : K ≤ 3) : shV V K B = (((shN V B K : Nat) : Int), 0) := by
  unfold shV; rw [if_pos (by omega)]; simp only [Int.toNat_natCast]
theorem shV_bad (v kind b : Int) (h : ¬ (0 ≤ kind ∧ kind ≤ 3 ∧ 0 ≤ b ∧ b ≤ 63)) : shV v kind b = (0, 1) := by unfold shV; rw [if_neg h]

theorem sar_arith (B : Nat) (hB : B ≤ 63) : (2 ^ (64 - B) * (2 ^ B - 1) : Nat) = 2 ^ 64 - 2 ^ (64 - B) := by
  rw [Nat.mul_sub, ← Nat.pow_add, show 64 - B + B = 64 by omega, Nat.mul_one]
theorem pow64 : (2 : Nat) ^ 64 = 18446744073709551616 := by decide
theorem pow63 : (2 : Nat) ^ 63 = 9223372036854775808 := by decide
theorem shN_lt (V B K : Nat) (hV : V < 2 ^ 64) (hB : B ≤ 63) : shN V B K < 2 ^ 64 := by
  have hd : V / 2 ^ B ≤ V := Nat.div_le_self _ _
  have hm := rot_hi V B 64 (by omega) hV
  have hs := sar_arith B hB
  have hp := Nat.pow_le_pow_right (show 0 < 2 by decide) (show 64 - B ≤ 64 by omega)
  have hr := rot_lt V B 64 (by omega) hV
  have h0 : V * 2 ^ B % 2 ^ 64 < 2 ^ 64 := Nat.mod_lt _ (by decide)
  unfold shN
  split
  · exact h0
  · split
    · omega
    · split
      · split <;> omega
      · exact hr

theorem sh_prog (k V B K : Nat) (hk : 1 ≤ k) (hV : V < 2 ^ 64) (hB : B ≤ 63) (hK : K ≤ 3) : flag_Shift.f k V K B = some (((shN V B K : Nat) : Int), 0) := by
  obtain ⟨k, rfl⟩ : ∃ m, k = m + 1 := ⟨k - 1, by omega⟩
  have hv64 := nat_64 64 V (Nat.le_refl _) hV
  have hd : V / 2 ^ B ≤ V := Nat.div_le_self _ _
  have hm : V * 2 ^ (64 - B) % 2 ^ 64 < 2 ^ 64 := Nat.mod_lt _ (by decide)
  have ediv : (V : Int) / 2 ^ B = ((V / 2 ^ B : Nat) : Int) := by simp
  have hc : K = 0 ∨ K = 1 ∨ K = 2 ∨ K = 3 := by omega
  unfold flag_Shift.f
  rw [if_neg (by omega), decide_eq_false (by omega), flag_Shift.j0, if_neg (by decide)]
  rcases hc with rfl | rfl | rfl | rfl
  · rw [if_pos (by decide), if_pos (by omega), shl_nat _ _ _ (by simp [IntKind.bits]; omega), IntKind.wrap_u64]
    simp [shN]
  · rw [if_neg (by decide), if_neg (by decide), if_pos (by decide), if_pos (by omega), shr_nat _ _ _ (by simp [IntKind.bits]; omega), ediv, show (0 : Int) = ((0 : Nat) : Int) from rfl, u64_or_nat _ _ (by rw [← pow64]; omega) (by decide)]
    simp [shN]
  · rw [if_neg (by decide), if_neg (by decide), if_neg (by decide), if_pos (by decide), if_pos (by omega), shr_nat _ _ _ (by simp [IntKind.bits]; omega), IntKind.wrap_u64]
    have hp := pow_pos B
    by_cases c : V < 2 ^ 63
    · rw [wrap64_self V (by omega) (by rw [pow63] at c; omega), ediv]
      have : ((V / 2 ^ B : Nat) : Int) % 18446744073709551616 = ((V / 2 ^ B : Nat) : Int) := Int.emod_eq_of_lt (Int.natCast_nonneg _) (nat_64 63 _ (by decide) (Nat.lt_of_le_of_lt hd c))
      rw [this]
      simp [shN, c]
    · have hw : wrap64 (V : Int) = V - 18446744073709551616 := by unfold wrap64; rw [pow63] at c; omega
      have e : ((V : Int) - 18446744073709551616) / 2 ^ B = ((V / 2 ^ B : Nat) : Int) - 2 ^ (64 - B) := by
        have e64 : (18446744073709551616 : Int) = 2 ^ (64 - B) * 2 ^ B := by rw [← pow_split, show 64 - B + B = 64 by omega]; rfl
        rw [e64, Int.sub_mul_ediv_right _ _ (by omega), ediv]
      have hs := sar_arith B hB
      have hh := rot_hi V B 64 (by omega) hV
      have hq : (2 : Nat) ^ (64 - B) ≤ 2 ^ 64 := Nat.pow_le_pow_right (by decide) (by omega)
      have hn : shN V B 2 = 2 ^ (64 - B) * (2 ^ B - 1) + V / 2 ^ B := by simp [shN, c]
      rw [hw, e, hn, hs, ← cast_pow]
      congr 2
      rw [pow64] at hq ⊢
      generalize V / 2 ^ B = X at *
      generalize 2 ^ (64 - B) = Y at *
      omega
  · rw [if_neg (by decide), if_pos (by decide), wrap64_self ((64 : Int) - B) (by omega) (by omega), if_pos (by omega), if_pos (by omega), shr_nat _ _ _ (by simp [IntKind.bits]; omega), show (64 : Int) - B = ((64 - B : Nat) : Int) by omega,
      shl_nat _ _ _ (by simp [IntKind.bits]), IntKind.wrap_u64, ediv, show (V : Int) * 2 ^ (64 - B) % 18446744073709551616 = ((V * 2 ^ (64 - B) % 2 ^ 64 : Nat) : Int) by rw [pow64]; simp,
      u64_or_nat _ _ (by rw [← pow64]; omega) (by rw [← pow64]; exact hm)]
    have h1 := rot_or V B 64 (by omega) (by omega) hV
    have ho : V / 2 ^ B ||| V * 2 ^ (64 - B) % 2 ^ 64 < 2 ^ 64 := Nat.or_lt_two_pow (by omega) hm
    rw [Nat.mod_eq_of_lt ho] at h1
    rw [h1]
    simp [shN]
theorem shift_spec (k : Nat) (v kind b : Int) (hk : 1 ≤ k) (v0 : 0 ≤ v) (v1 : v < 18446744073709551616) : flag_Shift.f k v kind b = some (shV v kind b) := by
  by_cases c : 0 ≤ kind ∧ kind ≤ 3 ∧ 0 ≤ b ∧ b ≤ 63
  · obtain ⟨V, rfl⟩ := Int.eq_ofNat_of_zero_le v0
    obtain ⟨K, rfl⟩ := Int.eq_ofNat_of_zero_le c.1
    obtain ⟨B, rfl⟩ := Int.eq_ofNat_of_zero_le c.2.2.1
    rw [sh_prog k V B K hk (by rw [pow64]; omega) (by omega) (by omega), shV_nat V B K (by omega) (by omega)]
  · rw [shV_bad v kind b c]
    obtain ⟨k, rfl⟩ : ∃ m, k = m + 1 := ⟨k - 1, by omega⟩
    unfold flag_Shift.f
    by_cases h : b < 0
    · rw [if_pos h, flag_Shift.j0, if_pos rfl]
    · rw [if_neg h]
      by_cases h2 : b ≥ 64
      · rw [decide_eq_true h2, flag_Shift.j0, if_pos rfl]
      · rw [decide_eq_false h2, flag_Shift.j0, if_neg (by decide), if_neg (by omega), if_neg (by omega), if_neg (by omega), if_neg (by omega)]

/-- From which bit the document takes the bit i. -/
def src (kind B i : Int) : Int :=
  if kind = 3 then Int.tmod (if kind = 2 then mn (if kind = 0 then wrap64 (i - B) else wrap64 (i + B)) 63 else (if kind = 0 then wrap64 (i - B) else wrap64 (i + B))) 64
  else (if kind = 2 then mn (if kind = 0 then wrap64 (i - B) else wrap64 (i + B)) 63 else (if kind = 0 then wrap64 (i - B) else wrap64 (i + B)))
theorem src0 (B i : Nat) (hB : B ≤ 63) (hi : i < 64) : src (0 : Nat) B i = (i : Int) - B := by
  unfold src; rw [wrap64_self ((i : Int) - B) (by omega) (by omega)]; simp
theorem src1 (B i : Nat) (hB : B ≤ 63) (hi : i < 64) : src (1 : Nat) B i = ((i + B : Nat) : Int) := by
  unfold src; rw [wrap64_self ((i : Int) + B) (by omega) (by omega)]; simp
theorem src2 (B i : Nat) (hB : B ≤ 63) (hi : i < 64) : src (2 : Nat) B i = ((min (i + B) 63 : Nat) : Int) := by
  unfold src; rw [wrap64_self ((i : Int) + B) (by omega) (by omega)]; simp [mn]; omega
theorem src3 (B i : Nat) (hB : B ≤ 63) (hi : i < 64) : src (3 : Nat) B i = (((i + B) % 64 : Nat) : Int) := by
  unfold src; rw [wrap64_self ((i : Int) + B) (by omega) (by omega), show ((3 : Nat) : Int) = 3 from rfl, if_pos rfl, if_neg (by decide), if_neg (by decide), show (i : Int) + B = ((i + B : Nat) : Int) by omega, Int.tmod_eq_emod_of_nonneg (by omega)]; simp
theorem sh_bit (V B K i : Nat) (hV : V < 2 ^ 64) (hB : B ≤ 63) (hK : K ≤ 3) (hi : i < 64) : (shN V B K).testBit i = (decide (0 ≤ src K B i ∧ src K B i ≤ 63) && V.testBit (src K B i).toNat) := by
  have hc : K = 0 ∨ K = 1 ∨ K = 2 ∨ K = 3 := by omega
  rcases hc with rfl | rfl | rfl | rfl
  · rw [src0 B i hB hi]
    have : shN V B 0 = V * 2 ^ B % 2 ^ 64 := rfl
    rw [this, Nat.testBit_mod_two_pow, Nat.mul_comm, Nat.testBit_two_pow_mul, show decide (i < 64) = true from decide_eq_true hi, Bool.true_and]
    by_cases c : B ≤ i
    · rw [decide_eq_true (show i ≥ B from c), decide_eq_true (show 0 ≤ (i : Int) - B ∧ (i : Int) - B ≤ 63 by omega), show ((i : Int) - B).toNat = i - B by omega]
    · rw [decide_eq_false (show ¬ i ≥ B from c), decide_eq_false (show ¬ (0 ≤ (i : Int) - B ∧ (i : Int) - B ≤ 63) by omega)]; rfl
  · rw [src1 B i hB hi]
    have : shN V B 1 = V / 2 ^ B := rfl
    rw [this, Nat.testBit_div_two_pow, Int.toNat_natCast]
    by_cases c : i + B ≤ 63
    · rw [decide_eq_true (show 0 ≤ ((i + B : Nat) : Int) ∧ ((i + B : Nat) : Int) ≤ 63 by omega), Bool.true_and]
    · rw [decide_eq_false (show ¬ (0 ≤ ((i + B : Nat) : Int) ∧ ((i + B : Nat) : Int) ≤ 63) by omega), Bool.false_and]
      exact Nat.testBit_lt_two_pow (Nat.lt_of_lt_of_le hV (Nat.pow_le_pow_right (by decide) (by omega)))
  · rw [src2 B i hB hi, Int.toNat_natCast, decide_eq_true (show 0 ≤ ((min (i + B) 63 : Nat) : Int) ∧ ((min (i + B) 63 : Nat) : Int) ≤ 63 by omega), Bool.true_and]
    have top := testBit_top V 63 hV
    by_cases c : V < 2 ^ 63
    · have : shN V B 2 = V / 2 ^ B := by simp [shN, c]
      rw [this, Nat.testBit_div_two_pow]
      by_cases d : i + B ≤ 63
      · rw [Nat.min_eq_left d]
      · rw [Nat.min_eq_right (by omega), top, decide_eq_false (by omega)]
        exact Nat.testBit_lt_two_pow (Nat.lt_of_lt_of_le hV (Nat.pow_le_pow_right (by decide) (by omega)))
    · have : shN V B 2 = 2 ^ (64 - B) * (2 ^ B - 1) + V / 2 ^ B := by simp [shN, c]
      rw [this, Nat.testBit_two_pow_mul_add _ (rot_hi V B 64 (by omega) hV)]
      by_cases d : i < 64 - B
      · rw [if_pos d, Nat.testBit_div_two_pow, Nat.min_eq_left (by omega)]
      · rw [if_neg d, Nat.testBit_two_pow_sub_one, Nat.min_eq_right (by omega), top, decide_eq_true (show 2 ^ 63 ≤ V by omega), decide_eq_true (show i - (64 - B) < B by omega)]
  · rw [src3 B i hB hi, Int.toNat_natCast]
    have hm := Nat.mod_lt (i + B) (show 64 > 0 by decide)
    rw [decide_eq_true (show 0 ≤ (((i + B) % 64 : Nat) : Int) ∧ (((i + B) % 64 : Nat) : Int) ≤ 63 by omega), Bool.true_and]
    have : shN V B 3 = rotN V B 64 := rfl
    rw [this, rot_bit V B 64 i (by omega) hV hi]

theorem ref_round (k V B K i : Nat) (x8 : Int) : cleatref03_Shift.l0 (k + 4) V K B x8 (i : Int) = if (i : Int) < 64 then cleatref03_Shift.j4 (k + 1) V K B x8 i (src K B i) else some (x8, 0) := by
  rw [cleatref03_Shift.l0]
  by_cases c : (i : Int) < 64
  · rw [if_pos c, if_pos c]
    unfold src
    by_cases a : (K : Int) = 0
    · simp [a, cleatref03_Shift.j2, cleatref03_Shift.j3]
    · by_cases b : (K : Int) = 2
      · simp [b, cleatref03_Shift.j2, cleatref03_Shift.j3]
      · by_cases d : (K : Int) = 3
        · simp [d, cleatref03_Shift.j2, cleatref03_Shift.j3]
        · have a' : ¬ K = 0 := by omega
          simp [a', b, d, cleatref03_Shift.j2, cleatref03_Shift.j3]
  · rw [if_neg c, if_neg c]
theorem ref_shift_loop (V B K : Nat) (hV : V < 2 ^ 64) (hB : B ≤ 63) (hK : K ≤ 3) : ∀ (d i k : Nat), i + d = 64 → 80 + 4 * d ≤ k →
    cleatref03_Shift.l0 k V K B ((shN V B K % 2 ^ i : Nat) : Int) i = some (((shN V B K : Nat) : Int), 0) := by
  have hR := shN_lt V B K hV hB
  intro d
  induction d with
  | zero =>
    intro i k hi hk
    obtain ⟨k, rfl⟩ : ∃ m, k = m + 4 := ⟨k - 4, by omega⟩
    obtain rfl : i = 64 := by omega
    rw [ref_round, if_neg (by omega), Nat.mod_eq_of_lt hR]
  | succ d ih =>
    intro i k hi hk
    obtain ⟨k, rfl⟩ : ∃ m, k = m + 4 := ⟨k - 4, by omega⟩
    have hn := ih (i + 1) k (by omega) (by omega)
    have hp := Nat.pow_le_pow_right (show 0 < 2 by decide) (show i ≤ 63 by omega)
    have hm : shN V B K % 2 ^ i < 2 ^ i := Nat.mod_lt _ (Nat.two_pow_pos i)
    have e63 := pow63
    have hb := sh_bit V B K i hV hB hK (by omega)
    rw [mod_succ, hb] at hn
    rw [ref_round, if_pos (by omega), cleatref03_Shift.j4, wrap64_self ((i : Int) + 1) (by omega) (by omega)]
    by_cases c : 0 ≤ src K B i ∧ src K B i ≤ 63
    · rw [decide_eq_true c, Bool.true_and] at hn
      obtain ⟨n, hn2⟩ := Int.eq_ofNat_of_zero_le c.1
      rw [hn2] at hn c ⊢
      rw [if_pos c.1, if_pos c.2, bit_testBit _ V n (by omega) (by omega) hV, Option.bind_some]
      rw [Int.toNat_natCast] at hn
      cases ht : V.testBit n with
      | true =>
        rw [ht] at hn
        rw [if_pos rfl, power_nat _ _ (by omega) (by omega), Option.bind_some, u64_self _ (by have := pow_pos i; omega) (by rw [← cast_pow]; omega)]
        simpa using hn
      | false =>
        rw [ht] at hn
        rw [if_neg (by decide)]
        simpa using hn
    · rw [decide_eq_false c, Bool.false_and] at hn
      have hz : cleatref03_Shift.l0 k V K B ((shN V B K % 2 ^ i : Nat) : Int) ((i : Int) + 1) = some (((shN V B K : Nat) : Int), 0) := by simpa using hn
      by_cases a : src K B i ≥ 0
      · rw [if_pos a, if_neg (by omega)]; exact hz
      · rw [if_neg a]; exact hz
theorem ref_shift_spec (k : Nat) (v kind b : Int) (hk : 400 ≤ k) (v0 : 0 ≤ v) (v1 : v < 18446744073709551616) : cleatref03_Shift.f k v kind b = some (shV v kind b) := by
  obtain ⟨k, rfl⟩ : ∃ m, k = m + 1 := ⟨k - 1, by omega⟩
  unfold cleatref03_Shift.f
  by_cases c : 0 ≤ kind ∧ kind ≤ 3 ∧ 0 ≤ b ∧ b ≤ 63
  · obtain ⟨V, rfl⟩ := Int.eq_ofNat_of_zero_le v0
    obtain ⟨K, rfl⟩ := Int.eq_ofNat_of_zero_le c.1
    obtain ⟨B, rfl⟩ := Int.eq_ofNat_of_zero_le c.2.2.1
    rw [if_neg (by omega), if_neg (by omega), if_neg (by omega), decide_eq_false (by omega), cleatref03_Shift.j0, if_neg (by decide), shV_nat V B K (by omega) (by omega)]
    have := ref_shift_loop V B K (by rw [pow64]; omega) (by omega) (by omega) 64 0 k (by omega) (by omega)
    simpa [Nat.mod_one] using this
  · rw [shV_bad v kind b c]
    by_cases h : kind < 0
    · rw [if_pos h, cleatref03_Shift.j0, if_pos rfl]
    · rw [if_neg h]
      by_cases h1 : kind > 3
      · rw [if_pos h1, cleatref03_Shift.j0, if_pos rfl]
      · rw [if_neg h1]
        by_cases h2 : b < 0
        · rw [if_pos h2, cleatref03_Shift.j0, if_pos rfl]
        · rw [if_neg h2, decide_eq_true (by omega), cleatref03_Shift.j0, if_pos rfl]
end Go.Proofs.Ytclomjndhcpmfaa.M
