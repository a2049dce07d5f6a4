/- What bits.Low, bits.ones, the document's Power, Bit, Small, Low tell, as plain numbers; wraps, shifts and powers of two. -/
import Derived.Test.YtbklmlbmbnnjkaaDoorMBits
import Derived.Test.YtbklmlbmbnnjkaaDoorPx3
import Derived.Test.YtbklmlbmbnnjkaaDoorPx7
import Derived.Test.YtbklmlbmbnnjkaaDoorPx2
import Derived.Test.YtbklmlbmbnnjkaaDoorPx2
namespace Go.Proofs.YtbklmlbmbnnjkaaDoor.M
open Go.RowKit Go.Proofs.YtbklmlbmbnnjkaaDoor.P Go.Proofs.YtbklmlbmbnnjkaaDoorW.PrintWords Go.Proofs.YtbklmlbmbnnjkaaDoorW.PrintLast Go.Proofs.YtbklmlbmbnnjkaaDoorW.PrintMore

theorem bounds_u64 {a : Int} (h : (Lit.int .u64 a).wf = true) : 0 ≤ a ∧ a < 18446744073709551616 := by
  simp [Lit.wf, IntKind.min, IntKind.max, IntKind.bits, IntKind.signed] at h; omega
theorem bounds_u32 {a : Int} (h : (Lit.int .u32 a).wf = true) : 0 ≤ a ∧ a < 4294967296 := by
  simp [Lit.wf, IntKind.min, IntKind.max, IntKind.bits, IntKind.signed] at h; omega
theorem bounds_i64 {a : Int} (h : (Lit.int .i64 a).wf = true) : -9223372036854775808 ≤ a ∧ a < 9223372036854775808 := by
  simp [Lit.wf, IntKind.min, IntKind.max, IntKind.bits, IntKind.signed] at h; omega

theorem ones_fin : ∀ n : Fin 65, bits_ones.f (n.val : Int) = some ((2 : Int) ^ n.val - 1) := by decide +kernel
theorem ones_nat (n : Nat) (h : n ≤ 64) : bits_ones.f (n : Int) = some ((2 : Int) ^ n - 1) := ones_fin ⟨n, by omega⟩
theorem power_fin : ∀ n : Fin 64, cleatref01_Power.f 70 (n.val : Int) = some ((2 : Int) ^ n.val) := by decide +kernel
theorem power_nat (k n : Nat) (hk : 70 ≤ k) (h : n ≤ 63) : cleatref01_Power.f k (n : Int) = some ((2 : Int) ^ n) :=
  at_rounds (cleatref01_Power.mono _) hk (power_fin ⟨n, by omega⟩)

theorem pow_pos (n : Nat) : (0 : Int) < 2 ^ n := Int.pow_pos (by decide)
theorem pow_split (a b : Nat) : (2 : Int) ^ (a + b) = 2 ^ a * 2 ^ b := Int.pow_add 2 a b
theorem pow_le (a b : Nat) (h : a ≤ b) : (2 : Int) ^ a ≤ 2 ^ b := by
  obtain ⟨c, rfl⟩ := Nat.exists_eq_add_of_le h
  rw [pow_split]
  have h1 := pow_pos a
  have h2 := pow_pos c
  have := Int.mul_le_mul_of_nonneg_left (show (1 : Int) ≤ 2 ^ c by omega) (Int.le_of_lt h1)
  simpa using this

theorem bit_nat (k n : Nat) (v : Int) (hk : 70 ≤ k) (h : n ≤ 63) (v0 : 0 ≤ v) (v1 : v < 18446744073709551616) : cleatref01_Bit.f k v (n : Int) = some (decide (v / 2 ^ n % 2 = 1)) := by
  unfold cleatref01_Bit.f
  rw [power_nat k n hk h]
  have hp := pow_pos n
  have hd : 0 ≤ v / 2 ^ n := Int.ediv_nonneg v0 (Int.le_of_lt hp)
  have hl : v / 2 ^ n ≤ v := Int.ediv_le_self _ v0
  simp only [Option.bind_some]
  rw [if_neg (by omega), Int.tdiv_eq_ediv_of_nonneg v0, IntKind.wrap_u64, Int.emod_eq_of_lt hd (by omega), Int.tmod_eq_emod_of_nonneg hd]
  rfl
theorem small_nat (k n : Nat) (v : Int) (hk : 70 ≤ k) (h : n ≤ 64) (v1 : v < 18446744073709551616) : cleatref01_Small.f k v (n : Int) = some (decide (v < 2 ^ n)) := by
  unfold cleatref01_Small.f
  by_cases c : n = 64
  · subst c; rw [if_pos (by decide)]; congr 1; simp; omega
  · rw [if_neg (by omega), power_nat k n hk (by omega)]; rfl

theorem int_cases (n : Int) (lo hi : Nat) (h0 : lo ≤ n) (h1 : n ≤ hi) : ∃ m : Nat, n = m ∧ lo ≤ m ∧ m ≤ hi := ⟨n.toNat, by omega, by omega, by omega⟩
theorem wrap64_self (x : Int) (h0 : -9223372036854775808 ≤ x) (h1 : x < 9223372036854775808) : wrap64 x = x := by unfold wrap64; omega
theorem wrap64_small (x : Int) (h0 : -4294967296 ≤ x) (h1 : x ≤ 4294967296) : wrap64 x = x := wrap64_self x (by omega) (by omega)
theorem u64_self (x : Int) (h0 : 0 ≤ x) (h1 : x < 18446744073709551616) : IntKind.u64.wrap x = x := by rw [IntKind.wrap_u64]; omega
theorem shl_nat (k : IntKind) (x : Int) (n : Nat) (h : n ≤ k.bits) : shl k x (n : Int) = k.wrap (x * 2 ^ n) := by unfold shl; rw [Int.toNat_natCast, Nat.min_eq_left h]
theorem shr_nat (k : IntKind) (x : Int) (n : Nat) (h : n ≤ k.bits) : shr k x (n : Int) = x / 2 ^ n := by unfold shr; rw [Int.toNat_natCast, Nat.min_eq_left h]

/-- Bits as a number with a sign, and the error. -/
theorem pow_64 (m : Nat) (h : m ≤ 63) : (2 : Int) ^ m * 2 ^ (63 - m) = 9223372036854775808 := by
  rw [← pow_split, show m + (63 - m) = 63 by omega]; decide
theorem pow_small (m : Nat) (h : m ≤ 32) : (2 : Int) ^ m ≤ 4294967296 := pow_le m 32 h
theorem toNat_pow (n : Nat) : ((2 : Int) ^ n - 1).toNat = 2 ^ n - 1 := by
  have : ((2 ^ n : Nat) : Int) = (2 : Int) ^ n := by simp
  have := Nat.two_pow_pos n
  omega
theorem and_ones_u32 (a : Int) (n : Nat) (h : n ≤ 32) (a0 : 0 ≤ a) (a1 : a < 4294967296) : bits .and .u32 a (2 ^ n - 1) = a % 2 ^ n := by
  have hp := pow_pos n
  have hs := pow_small n h
  rw [u32_and a _ a0 a1 (by omega) (by omega), toNat_pow, Nat.and_two_pow_sub_one_eq_mod]
  obtain ⟨m, rfl⟩ := Int.eq_ofNat_of_zero_le a0
  simp
theorem and_ones_u64 (a : Int) (n : Nat) (h : n ≤ 64) (a0 : 0 ≤ a) (a1 : a < 18446744073709551616) : bits .and .u64 a (2 ^ n - 1) = a % 2 ^ n := by
  have hp := pow_pos n
  have hs : (2 : Int) ^ n ≤ 2 ^ 64 := pow_le n 64 h
  rw [u64_and a _ a0 a1 (by omega) (by simp at hs; omega), toNat_pow, Nat.and_two_pow_sub_one_eq_mod]
  obtain ⟨m, rfl⟩ := Int.eq_ofNat_of_zero_le a0
  simp
theorem pow_dvd (a b : Nat) (h : a ≤ b) : (2 : Int) ^ a ∣ 2 ^ b := by
  obtain ⟨c, rfl⟩ := Nat.exists_eq_add_of_le h
  exact ⟨2 ^ c, pow_split a c⟩
theorem emod_pow_pow (x : Int) (a b : Nat) (h : a ≤ b) : x % 2 ^ b % 2 ^ a = x % 2 ^ a := Int.emod_emod_of_dvd _ (pow_dvd a b h)

/-- A number with a sign as bits, and the error. -/
theorem ediv_zero_iff (s H : Int) (h : 0 < H) : s / H = 0 ↔ 0 ≤ s ∧ s < H := by
  constructor
  · intro e
    have h1 := Int.mul_ediv_add_emod s H
    have h2 := Int.emod_nonneg s (show H ≠ 0 by omega)
    have h3 := Int.emod_lt_of_pos s h
    rw [e, Int.mul_zero] at h1
    omega
  · intro ⟨a, b⟩
    exact Int.ediv_eq_zero_of_lt a b
theorem ediv_neg_iff (s H : Int) (h : 0 < H) : s / H = -1 ↔ -H ≤ s ∧ s < 0 := by
  have h0 := ediv_zero_iff (s + H) H h
  have h1 : (s + H) / H = s / H + 1 := by
    have := Int.add_mul_ediv_right s 1 (show H ≠ 0 by omega)
    rw [Int.one_mul] at this
    exact this
  rw [h1] at h0
  omega
theorem mod_64 (v : Int) (v0 : 0 ≤ v) (v1 : v < 18446744073709551616) : v % 2 ^ 64 = v := Int.emod_eq_of_lt v0 v1
/-- The lowest n bits. -/
def lowV (v n : Int) : Int := if n ≤ 0 then 0 else if 64 ≤ n then v else v % 2 ^ n.toNat
theorem clamp_le (n : Int) (h : n ≤ 0) : mn (mx n 0) 64 = ((0 : Nat) : Int) := by unfold mn mx; split <;> split <;> omega
theorem clamp_ge (n : Int) (h : 64 ≤ n) : mn (mx n 0) 64 = ((64 : Nat) : Int) := by unfold mn mx; split <;> split <;> omega
theorem clamp_in (n : Nat) (h : n ≤ 64) : mn (mx (n : Int) 0) 64 = (n : Int) := by unfold mn mx; split <;> split <;> omega
theorem low_nat (v : Int) (n : Nat) (h : n ≤ 64) (v0 : 0 ≤ v) (v1 : v < 18446744073709551616) (m : Int) (hm : mn (mx m 0) 64 = (n : Int)) : bits_Low.f v m = some (v % 2 ^ n) := by
  unfold bits_Low.f
  rw [hm, ones_nat n h]
  simp only [Option.bind_some]
  rw [and_ones_u64 v n h v0 v1]
theorem low_spec (v n : Int) (v0 : 0 ≤ v) (v1 : v < 18446744073709551616) : bits_Low.f v n = some (lowV v n) := by
  unfold lowV
  by_cases a : n ≤ 0
  · rw [if_pos a, low_nat v 0 (by decide) v0 v1 n (clamp_le n a), Int.pow_zero, Int.emod_one]
  · rw [if_neg a]
    by_cases b : 64 ≤ n
    · rw [if_pos b, low_nat v 64 (by decide) v0 v1 n (clamp_ge n b)]
      exact congrArg some (mod_64 v v0 v1)
    · rw [if_neg b]
      obtain ⟨m, rfl⟩ := Int.eq_ofNat_of_zero_le (show 0 ≤ n by omega)
      rw [low_nat v m (by omega) v0 v1 m (clamp_in m (by omega)), Int.toNat_natCast]
theorem ref_low_spec (k : Nat) (v n : Int) (hk : 70 ≤ k) (v0 : 0 ≤ v) : cleatref01_Low.f k v n = some (lowV v n) := by
  unfold cleatref01_Low.f lowV
  by_cases a : n ≤ 0
  · rw [if_pos a, if_pos a]
  · rw [if_neg a, if_neg a]
    by_cases b : 64 ≤ n
    · rw [if_pos b, if_pos b]
    · rw [if_neg b, if_neg (by omega)]
      obtain ⟨m, rfl⟩ := Int.eq_ofNat_of_zero_le (show 0 ≤ n by omega)
      have hp := pow_pos m
      rw [power_nat k m hk (by omega), Int.toNat_natCast]
      simp only [Option.bind_some]
      rw [if_neg (by omega), Int.tmod_eq_emod_of_nonneg v0]
end Go.Proofs.YtbklmlbmbnnjkaaDoor.M
