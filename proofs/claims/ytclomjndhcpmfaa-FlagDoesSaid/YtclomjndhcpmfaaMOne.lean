/- What the functions of package bits and the document's answers tell, as plain numbers (chapter 1): for numbers of their kinds, and enough rounds. -/
import Derived.Test.YtclomjndhcpmfaaMBits
import Derived.Test.YtclomjndhcpmfaaPx9
import Derived.Test.YtclomjndhcpmfaaPx8
import Derived.Test.YtclomjndhcpmfaaPx8
import Derived.Test.YtclomjndhcpmfaaPx10
import Derived.Test.YtclomjndhcpmfaaPx10
import Derived.Test.YtclomjndhcpmfaaPx8
import Derived.Test.YtclomjndhcpmfaaPx9
import Derived.Test.YtclomjndhcpmfaaPx10
namespace Go.Proofs.Ytclomjndhcpmfaa.M
open Go.RowKit Go.Proofs.Ytclomjndhcpmfaa.P Go.Proofs.YtclomjndhcpmfaaW.PrintWords Go.Proofs.YtclomjndhcpmfaaW.PrintLast Go.Proofs.YtclomjndhcpmfaaW.PrintMore

theorem bounds_u64 {a : Int} (h : (Lit.int .u64 a).wf = true) : 0 ≤ a ∧ a < 18446744073709551616 := by
  simp [Lit.wf, IntKind.min, IntKind.max, IntKind.bits, IntKind.signed] at h; omega
theorem bounds_u32 {a : Int} (h : (Lit.int .u32 a).wf = true) : 0 ≤ a ∧ a < 4294967296 := by
  simp [Lit.wf, IntKind.min, IntKind.max, IntKind.bits, IntKind.signed] at h; omega
theorem bounds_i64 {a : Int} (h : (Lit.int .i64 a).wf = true) : -9223372036854775808 ≤ a ∧ a < 9223372036854775808 := by
  simp [Lit.wf, IntKind.min, IntKind.max, IntKind.bits, IntKind.signed] at h; omega

theorem told_ok (k : Nat) (h : 100 ≤ k) : cleatlaw01_told.f k = some true :=
  at_rounds cleatlaw01_told.mono h (by decide +kernel)

theorem ones_fin : ∀ n : Fin 65, bits_ones.f (n.val : Int) = some ((2 : Int) ^ n.val - 1) := by decide +kernel
theorem ones_nat (n : Nat) (h : n ≤ 64) : bits_ones.f (n : Int) = some ((2 : Int) ^ n - 1) := ones_fin ⟨n, by omega⟩
theorem power_fin : ∀ n : Fin 64, cleatref01_Power.f 70 (n.val : Int) = some ((2 : Int) ^ n.val) := by decide +kernel
theorem power_nat (k n : Nat) (hk : 70 ≤ k) (h : n ≤ 63) : cleatref01_Power.f k (n : Int) = some ((2 : Int) ^ n) :=
  at_rounds (cleatref01_Power.mono _) hk (power_fin ⟨n, by omega⟩)

theorem pow_pos (n : Nat) : (0 : Int) < 2 ^ n := Int.pow_pos (by decide)
theorem pow_split (a b : Nat) : (2 : Int) ^ (a + b) = 2 ^ a * 2 ^ b := Int.pow_add 2 a b
theorem pow_le (a b : Nat) (h : a ≤ b) : (2 : Int) ^ a ≤ 2 ^ b := by
  obtain ⟨c, rfl⟩ := Nat.exists_eq_add_of_le h
  rw [pow_split]
  have h1 := pow_pos a
  have h2 := pow_pos c
  have := Int.mul_le_mul_of_nonneg_left (show (1 : Int) ≤ 2 ^ c by omega) (Int.le_of_lt h1)
  simpa using this

theorem bit_nat (k n : Nat) (v : Int) (hk : 70 ≤ k) (h : n ≤ 63) (v0 : 0 ≤ v) (v1 : v < 18446744073709551616) : cleatref01_Bit.f k v (n : Int) = some (decide (v / 2 ^ n % 2 = 1)) := by
  unfold cleatref01_Bit.f
  rw [power_nat k n hk h]
  have hp := pow_pos n
  have hd : 0 ≤ v / 2 ^ n := Int.ediv_nonneg v0 (Int.le_of_lt hp)
  have hl : v / 2 ^ n ≤ v := Int.ediv_le_self _ v0
  simp only [Option.bind_some]
  rw [if_neg (by omega), Int.tdiv_eq_ediv_of_nonneg v0, IntKind.wrap_u64, Int.emod_eq_of_lt hd (by omega), Int.tmod_eq_emod_of_nonneg hd]
  rfl
theorem small_nat (k n : Nat) (v : Int) (hk : 70 ≤ k) (h : n ≤ 64) (v1 : v < 18446744073709551616) : cleatref01_Small.f k v (n : Int) = some (decide (v < 2 ^ n)) := by
  unfold cleatref01_Small.f
  by_cases c : n = 64
  · subst c; rw [if_pos (by decide)]; congr 1; simp; omega
  · rw [if_neg (by omega), power_nat k n hk (by omega)]; rfl

theorem int_cases (n : Int) (lo hi : Nat) (h0 : lo ≤ n) (h1 : n ≤ hi) : ∃ m : Nat, n = m ∧ lo ≤ m ∧ m ≤ hi := ⟨n.toNat, by omega, by omega, by omega⟩
theorem wrap64_self (x : Int) (h0 : -9223372036854775808 ≤ x) (h1 : x < 9223372036854775808) : wrap64 x = x := by unfold wrap64; omega
theorem wrap64_small (x : Int) (h0 : -4294967296 ≤ x) (h1 : x ≤ 4294967296) : wrap64 x = x := wrap64_self x (by omega) (by omega)
theorem u64_self (x : Int) (h0 : 0 ≤ x) (h1 : x < 18446744073709551616) : IntKind.u64.wrap x = x := by rw [IntKind.wrap_u64]; omega
theorem shl_nat (k : IntKind) (x : Int) (n : Nat) (h : n ≤ k.bits) : shl k x (n : Int) = k.wrap (x * 2 ^ n) := by unfold shl; rw [Int.toNat_natCast, Nat.min_eq_left h]
theorem shr_nat (k : IntKind) (x : Int) (n : Nat) (h : n ≤ k.bits) : shr k x (n : Int) = x / 2 ^ n := by unfold shr; rw [Int.toNat_natCast, Nat.min_eq_left h]

/-- Bits as a number with a sign, and the error. -/
def sgnV (v n : Int) : Int × Int := if 1 ≤ n ∧ n ≤ 32 then (if v < 2 ^ n.toNat then (if v < 2 ^ (n.toNat - 1) then v else v - 2 ^ n.toNat, 0) else (0, 4)) else (0, 1)
theorem sgnV_bad (v n : Int) (h : ¬ (1 ≤ n ∧ n ≤ 32)) : sgnV v n = (0, 1) := by unfold sgnV; rw [if_neg h]
theorem sgnV_nat (v : Int) (m : Nat) (h : m ≤ 31) : sgnV v ((m + 1 : Nat) : Int) = if v < 2 ^ (m + 1) then (if v < 2 ^ m then v else v - 2 ^ (m + 1), 0) else (0, 4) := by
  unfold sgnV; rw [if_pos (by omega)]; simp only [Int.toNat_natCast, Nat.add_sub_cancel]
theorem pow_64 (m : Nat) (h : m ≤ 63) : (2 : Int) ^ m * 2 ^ (63 - m) = 9223372036854775808 := by
  rw [← pow_split, show m + (63 - m) = 63 by omega]; decide
theorem pow_small (m : Nat) (h : m ≤ 32) : (2 : Int) ^ m ≤ 4294967296 := pow_le m 32 h
theorem signed_spec (k : Nat) (v n : Int) (hk : 100 ≤ k) (v0 : 0 ≤ v) (v1 : v < 4294967296) (n0 : -9223372036854775808 ≤ n) (n1 : n < 9223372036854775808) : bits_Signed.f k v n = some (sgnV v n) := by
  obtain ⟨k, rfl⟩ : ∃ m, k = m + 1 := ⟨k - 1, by omega⟩
  unfold bits_Signed.f
  by_cases c : 1 ≤ n ∧ n ≤ 32
  · obtain ⟨m1, rfl, d1, d2⟩ := int_cases n 1 32 c.1 c.2
    obtain ⟨m, rfl⟩ : ∃ m, m1 = m + 1 := ⟨m1 - 1, by omega⟩
    rw [if_neg (by omega), sgnV_nat v m (by omega)]
    simp only [bits_Signed.j0]
    rw [if_neg (by simp; omega), ones_nat _ (by omega), wrap64_self (64 - _) (by omega) (by omega), u64_self v v0 (by omega), wrap64_self v (by omega) (by omega)]
    simp only [Option.bind_some]
    rw [show (64 : Int) - ((m + 1 : Nat) : Int) = ((63 - m : Nat) : Int) by omega, shl_nat _ _ _ (by simp [IntKind.bits]; omega), shr_nat _ _ _ (by simp [IntKind.bits]; omega), if_pos (Int.natCast_nonneg _), IntKind.wrap_i64]
    by_cases a : v < 2 ^ (m + 1)
    · rw [if_neg (by omega), if_pos a]
      have hq := pow_pos (63 - m)
      have hm := pow_pos m
      have h64 := pow_64 m (by omega)
      have h2 : (2 : Int) ^ (m + 1) = 2 ^ m * 2 := by rw [pow_split]; rfl
      generalize (2 : Int) ^ (63 - m) = Q at *
      rw [h2] at a ⊢
      generalize (2 : Int) ^ m = H at *
      by_cases b : v < H
      · rw [if_pos b]
        have h3 : v * Q < H * Q := Int.mul_lt_mul_of_pos_right b hq
        have h4 : 0 ≤ v * Q := Int.mul_nonneg v0 (by omega)
        rw [show (v * Q + 9223372036854775808) % 18446744073709551616 - 9223372036854775808 = v * Q by omega, Int.mul_ediv_cancel _ (by omega)]
      · rw [if_neg b]
        have h3 : v * Q < H * 2 * Q := Int.mul_lt_mul_of_pos_right a hq
        have h4 : H * Q ≤ v * Q := Int.mul_le_mul_of_nonneg_right (by omega) (by omega)
        have h5 : (v - H * 2) * Q = v * Q - 18446744073709551616 := by rw [Int.sub_mul, Int.mul_assoc, Int.mul_comm 2, ← Int.mul_assoc, h64]; omega
        have h6 : H * 2 * Q = 18446744073709551616 := by rw [Int.mul_assoc, Int.mul_comm 2, ← Int.mul_assoc, h64]; rfl
        rw [show (v * Q + 9223372036854775808) % 18446744073709551616 - 9223372036854775808 = (v - H * 2) * Q by omega, Int.mul_ediv_cancel _ (by omega)]
    · rw [if_pos (by omega), if_neg a]
  · rw [sgnV_bad v n c]
    by_cases c1 : n < 1
    · rw [if_pos c1]; rfl
    · rw [if_neg c1, show decide (n > 32) = true from decide_eq_true (by omega)]; rfl
theorem ref_signed_spec (k : Nat) (v n : Int) (hk : 100 ≤ k) (v0 : 0 ≤ v) (v1 : v < 4294967296) (n0 : -9223372036854775808 ≤ n) (n1 : n < 9223372036854775808) : cleatref01_Signed.f k v n = some (sgnV v n) := by
  obtain ⟨k, rfl⟩ : ∃ m, k = m + 1 := ⟨k - 1, by omega⟩
  unfold cleatref01_Signed.f
  by_cases c : 1 ≤ n ∧ n ≤ 32
  · obtain ⟨m1, rfl, d1, d2⟩ := int_cases n 1 32 c.1 c.2
    obtain ⟨m, rfl⟩ : ∃ m, m1 = m + 1 := ⟨m1 - 1, by omega⟩
    rw [if_neg (by omega), sgnV_nat v m (by omega)]
    simp only [cleatref01_Signed.j0]
    have hp := pow_small (m + 1) (by omega)
    have hp0 := pow_pos (m + 1)
    have hm := pow_pos m
    have h2 : (2 : Int) ^ (m + 1) = 2 ^ m * 2 := by rw [pow_split]; rfl
    rw [if_neg (by simp; omega), u64_self v v0 (by omega), wrap64_self v (by omega) (by omega), small_nat _ _ _ (by omega) (by omega) (by omega), wrap64_self (((m + 1 : Nat) : Int) - 1) (by omega) (by omega),
      show (((m + 1 : Nat) : Int) - 1) = (m : Int) by omega, bit_nat _ _ _ (by omega) (by omega) v0 (by omega), power_nat _ _ (by omega) (by omega)]
    simp only [Option.bind_some]
    rw [wrap64_self (2 ^ (m + 1)) (by omega) (by omega)]
    by_cases a : v < 2 ^ (m + 1)
    · rw [if_pos (by simpa using a), if_pos a, wrap64_self (v - 2 ^ (m + 1)) (by omega) (by omega)]
      have e : (v / 2 ^ m % 2 = 1) ↔ ¬ v < 2 ^ m := by
        rw [h2] at a
        generalize (2 : Int) ^ m = H at *
        by_cases b : v < H
        · have : v / H = 0 := Int.ediv_eq_zero_of_lt v0 b
          simp [this, b]
        · have : v / H = 1 := by
            have h5 : v = (v - H) + 1 * H := by omega
            rw [h5, Int.add_mul_ediv_right _ _ (by omega), Int.ediv_eq_zero_of_lt (by omega) (by omega)]; rfl
          simp [this, b]
      by_cases b : v < 2 ^ m
      · rw [if_neg (by simp [e, b]), if_pos b]
      · rw [if_pos (by simp [e, b]), if_neg b]
    · rw [if_neg (by simpa using a), if_neg a]
  · rw [sgnV_bad v n c]
    by_cases c1 : n < 1
    · rw [if_pos c1]; rfl
    · rw [if_neg c1, show decide (n > 32) = true from decide_eq_true (by omega)]; rfl

theorem toNat_pow (n : Nat) : ((2 : Int) ^ n - 1).toNat = 2 ^ n - 1 := by
  have : ((2 ^ n : Nat) : Int) = (2 : Int) ^ n := by simp
  have := Nat.two_pow_pos n
  omega
theorem and_ones_u32 (a : Int) (n : Nat) (h : n ≤ 32) (a0 : 0 ≤ a) (a1 : a < 4294967296) : bits .and .u32 a (2 ^ n - 1) = a % 2 ^ n := by
  have hp := pow_pos n
  have hs := pow_small n h
  rw [u32_and a _ a0 a1 (by omega) (by omega), toNat_pow, Nat.and_two_pow_sub_one_eq_mod]
  obtain ⟨m, rfl⟩ := Int.eq_ofNat_of_zero_le a0
  simp
theorem and_ones_u64 (a : Int) (n : Nat) (h : n ≤ 64) (a0 : 0 ≤ a) (a1 : a < 18446744073709551616) : bits .and .u64 a (2 ^ n - 1) = a % 2 ^ n := by
  have hp := pow_pos n
  have hs : (2 : Int) ^ n ≤ 2 ^ 64 := pow_le n 64 h
  rw [u64_and a _ a0 a1 (by omega) (by simp at hs; omega), toNat_pow, Nat.and_two_pow_sub_one_eq_mod]
  obtain ⟨m, rfl⟩ := Int.eq_ofNat_of_zero_le a0
  simp
theorem pow_dvd (a b : Nat) (h : a ≤ b) : (2 : Int) ^ a ∣ 2 ^ b := by
  obtain ⟨c, rfl⟩ := Nat.exists_eq_add_of_le h
  exact ⟨2 ^ c, pow_split a c⟩
theorem emod_pow_pow (x : Int) (a b : Nat) (h : a ≤ b) : x % 2 ^ b % 2 ^ a = x % 2 ^ a := Int.emod_emod_of_dvd _ (pow_dvd a b h)

/-- A number with a sign as bits, and the error. -/
def packV (s n : Int) : Int × Int := if 1 ≤ n ∧ n ≤ 32 then (if -(2 ^ (n.toNat - 1)) ≤ s ∧ s < 2 ^ (n.toNat - 1) then (s % 2 ^ n.toNat, 0) else (0, 4)) else (0, 1)
theorem packV_bad (v n : Int) (h : ¬ (1 ≤ n ∧ n ≤ 32)) : packV v n = (0, 1) := by unfold packV; rw [if_neg h]
theorem packV_nat (s : Int) (m : Nat) (h : m ≤ 31) : packV s ((m + 1 : Nat) : Int) = if -(2 ^ m) ≤ s ∧ s < 2 ^ m then (s % 2 ^ (m + 1), 0) else (0, 4) := by
  unfold packV; rw [if_pos (by omega)]; simp only [Int.toNat_natCast, Nat.add_sub_cancel]
theorem ediv_zero_iff (s H : Int) (h : 0 < H) : s / H = 0 ↔ 0 ≤ s ∧ s < H := by
  constructor
  · intro e
    have h1 := Int.mul_ediv_add_emod s H
    have h2 := Int.emod_nonneg s (show H ≠ 0 by omega)
    have h3 := Int.emod_lt_of_pos s h
    rw [e, Int.mul_zero] at h1
    omega
  · intro ⟨a, b⟩
    exact Int.ediv_eq_zero_of_lt a b
theorem ediv_neg_iff (s H : Int) (h : 0 < H) : s / H = -1 ↔ -H ≤ s ∧ s < 0 := by
  have h0 := ediv_zero_iff (s + H) H h
  have h1 : (s + H) / H = s / H + 1 := by
    have := Int.add_mul_ediv_right s 1 (show H ≠ 0 by omega)
    rw [Int.one_mul] at this
    exact this
  rw [h1] at h0
  omega
theorem pack_spec (k : Nat) (s n : Int) (hk : 100 ≤ k) (s0 : -9223372036854775808 ≤ s) (s1 : s < 9223372036854775808) (n0 : -9223372036854775808 ≤ n) (n1 : n < 9223372036854775808) : bits_Pack.f k s n = some (packV s n) := by
  obtain ⟨k, rfl⟩ : ∃ m, k = m + 1 := ⟨k - 1, by omega⟩
  unfold bits_Pack.f
  by_cases c : 1 ≤ n ∧ n ≤ 32
  · obtain ⟨m1, rfl, d1, d2⟩ := int_cases n 1 32 c.1 c.2
    obtain ⟨m, rfl⟩ : ∃ m, m1 = m + 1 := ⟨m1 - 1, by omega⟩
    have hm := pow_pos m
    have hs := pow_small m (by omega)
    have hs2 := pow_small (m + 1) (by omega)
    have hp2 := pow_pos (m + 1)
    rw [if_neg (by omega), packV_nat s m (by omega)]
    simp only [bits_Pack.j0]
    rw [if_neg (by simp; omega), wrap64_self (((m + 1 : Nat) : Int) - 1) (by omega) (by omega), show (((m + 1 : Nat) : Int) - 1) = (m : Int) by omega,
      if_pos (Int.natCast_nonneg _), shr_nat _ _ _ (by simp [IntKind.bits]; omega), ones_nat _ (by omega)]
    simp only [Option.bind_some]
    rw [Int.emod_eq_of_lt (show (0 : Int) ≤ 2 ^ (m + 1) - 1 by omega) (by omega), and_ones_u32 _ _ (by omega) (Int.emod_nonneg _ (by decide)) (Int.emod_lt_of_pos _ (by decide)),
      show (4294967296 : Int) = 2 ^ 32 from rfl, emod_pow_pow _ _ _ (by omega)]
    have e1 := ediv_zero_iff s (2 ^ m) hm
    have e2 := ediv_neg_iff s (2 ^ m) hm
    by_cases a : s / 2 ^ m = 0
    · rw [if_pos a, if_pos (by omega)]
    · rw [if_neg a]
      by_cases b : s / 2 ^ m = -1
      · rw [if_pos b, if_pos (by omega)]
      · rw [if_neg b, if_neg (by omega)]
  · rw [packV_bad s n c]
    by_cases c1 : n < 1
    · rw [if_pos c1]; rfl
    · rw [if_neg c1, show decide (n > 32) = true from decide_eq_true (by omega)]; rfl
theorem ref_pack_spec (k : Nat) (s n : Int) (hk : 100 ≤ k) (s0 : -9223372036854775808 ≤ s) (s1 : s < 9223372036854775808) (n0 : -9223372036854775808 ≤ n) (n1 : n < 9223372036854775808) : cleatref01_Pack.f k s n = some (packV s n) := by
  obtain ⟨k, rfl⟩ : ∃ m, k = m + 2 := ⟨k - 2, by omega⟩
  unfold cleatref01_Pack.f
  by_cases c : 1 ≤ n ∧ n ≤ 32
  · obtain ⟨m1, rfl, d1, d2⟩ := int_cases n 1 32 c.1 c.2
    obtain ⟨m, rfl⟩ : ∃ m, m1 = m + 1 := ⟨m1 - 1, by omega⟩
    have hm := pow_pos m
    have hs := pow_small m (by omega)
    have hs2 := pow_small (m + 1) (by omega)
    have h2 : (2 : Int) ^ (m + 1) = 2 ^ m * 2 := by rw [pow_split]; rfl
    rw [if_neg (by omega), packV_nat s m (by omega)]
    simp only [cleatref01_Pack.j0]
    rw [if_neg (by simp; omega), wrap64_self (((m + 1 : Nat) : Int) - 1) (by omega) (by omega), show (((m + 1 : Nat) : Int) - 1) = (m : Int) by omega, power_nat _ _ (by omega) (by omega)]
    rw [Option.bind_some]
    have w1 : wrap64 (2 ^ m) = 2 ^ m := wrap64_small _ (Int.le_trans (by decide) (Int.le_of_lt hm)) hs
    have w2 : wrap64 (-(2 ^ m)) = -(2 ^ m) := wrap64_small _ (Int.neg_le_neg hs) (Int.le_trans (Int.neg_nonpos_of_nonneg (Int.le_of_lt hm)) (by decide))
    rw [w1, w2]
    by_cases a : s < -(2 ^ m)
    · rw [if_pos a, if_neg (by omega)]; simp only [cleatref01_Pack.j1]; exact if_pos trivial
    · rw [if_neg a]
      by_cases b : s < 2 ^ m
      · rw [if_pos ⟨by omega, b⟩, show decide (s ≥ 2 ^ m) = false from decide_eq_false (by omega)]
        simp only [cleatref01_Pack.j1]
        rw [if_neg (by decide), wrap64_self (2 * 2 ^ m) (by omega) (by omega), wrap64_self (s + 2 * 2 ^ m) (by omega) (by omega)]
        by_cases d : s < 0
        · rw [if_pos d, Int.emod_eq_of_lt (show 0 ≤ s + 2 * 2 ^ m by omega) (by omega), show s % 2 ^ (m + 1) = (s + 2 ^ (m + 1)) % 2 ^ (m + 1) by simp,
            Int.emod_eq_of_lt (show 0 ≤ s + 2 ^ (m + 1) by omega) (by omega), h2, Int.mul_comm]
        · rw [if_neg d, Int.emod_eq_of_lt (show 0 ≤ s by omega) (show s < 4294967296 by omega), Int.emod_eq_of_lt (show 0 ≤ s by omega) (show s < 2 ^ (m + 1) by omega)]
      · rw [if_neg (by omega), show decide (s ≥ 2 ^ m) = true from decide_eq_true (by omega)]; simp only [cleatref01_Pack.j1]; exact if_pos trivial
  · rw [packV_bad s n c]
    by_cases c1 : n < 1
    · rw [if_pos c1]; simp only [cleatref01_Pack.j0]; exact if_pos trivial
    · rw [if_neg c1, show decide (n > 32) = true from decide_eq_true (by omega)]; simp only [cleatref01_Pack.j0]; exact if_pos trivial

theorem mod_64 (v : Int) (v0 : 0 ≤ v) (v1 : v < 18446744073709551616) : v % 2 ^ 64 = v := Int.emod_eq_of_lt v0 v1
/-- The lowest n bits. -/
def lowV (v n : Int) : Int := if n ≤ 0 then 0 else if 64 ≤ n then v else v % 2 ^ n.toNat
theorem clamp_le (n : Int) (h : n ≤ 0) : mn (mx n 0) 64 = ((0 : Nat) : Int) := by unfold mn mx; split <;> split <;> omega
theorem clamp_ge (n : Int) (h : 64 ≤ n) : mn (mx n 0) 64 = ((64 : Nat) : Int) := by unfold mn mx; split <;> split <;> omega
theorem clamp_in (n : Nat) (h : n ≤ 64) : mn (mx (n : Int) 0) 64 = (n : Int) := by unfold mn mx; split <;> split <;> omega
theorem low_nat (v : Int) (n : Nat) (h : n ≤ 64) (v0 : 0 ≤ v) (v1 : v < 18446744073709551616) (m : Int) (hm : mn (mx m 0) 64 = (n : Int)) : bits_Low.f v m = some (v % 2 ^ n) := by
  unfold bits_Low.f
  rw [hm, ones_nat n h]
  simp only [Option.bind_some]
  rw [and_ones_u64 v n h v0 v1]
theorem low_spec (v n : Int) (v0 : 0 ≤ v) (v1 : v < 18446744073709551616) : bits_Low.f v n = some (lowV v n) := by
  unfold lowV
  by_cases a : n ≤ 0
  · rw [if_pos a, low_nat v 0 (by decide) v0 v1 n (clamp_le n a), Int.pow_zero, Int.emod_one]
  · rw [if_neg a]
    by_cases b : 64 ≤ n
    · rw [if_pos b, low_nat v 64 (by decide) v0 v1 n (clamp_ge n b)]
      exact congrArg some (mod_64 v v0 v1)
    · rw [if_neg b]
      obtain ⟨m, rfl⟩ := Int.eq_ofNat_of_zero_le (show 0 ≤ n by omega)
      rw [low_nat v m (by omega) v0 v1 m (clamp_in m (by omega)), Int.toNat_natCast]
theorem ref_low_spec (k : Nat) (v n : Int) (hk : 70 ≤ k) (v0 : 0 ≤ v) : cleatref01_Low.f k v n = some (lowV v n) := by
  unfold cleatref01_Low.f lowV
  by_cases a : n ≤ 0
  · rw [if_pos a, if_pos a]
  · rw [if_neg a, if_neg a]
    by_cases b : 64 ≤ n
    · rw [if_pos b, if_pos b]
    · rw [if_neg b, if_neg (by omega)]
      obtain ⟨m, rfl⟩ := Int.eq_ofNat_of_zero_le (show 0 ≤ n by omega)
      have hp := pow_pos m
      rw [power_nat k m hk (by omega), Int.toNat_natCast]
      simp only [Option.bind_some]
      rw [if_neg (by omega), Int.tmod_eq_emod_of_nonneg v0]
end Go.Proofs.Ytclomjndhcpmfaa.M
