/- Plain lemmas on whole numbers: bounds, wraps, shifts, powers of two. -/
import Derived.Test.YtfajpcinmpbhgaaDoorWMore
import Derived.Test.YtfajpcinmpbhgaaDoorWWords
import Derived.Test.YtfajpcinmpbhgaaDoorWLast
import Derived.Test.YtfajpcinmpbhgaaDoorMBits
namespace Go.Proofs.YtfajpcinmpbhgaaDoor.M
open Go.RowKit Go.Proofs.YtfajpcinmpbhgaaDoorW.PrintWords Go.Proofs.YtfajpcinmpbhgaaDoorW.PrintLast Go.Proofs.YtfajpcinmpbhgaaDoorW.PrintMore

theorem bounds_u64 {a : Int} (h : (Lit.int .u64 a).wf = true) : 0 ≤ a ∧ a < 18446744073709551616 := by
  simp [Lit.wf, IntKind.min, IntKind.max, IntKind.bits, IntKind.signed] at h; omega
theorem bounds_u32 {a : Int} (h : (Lit.int .u32 a).wf = true) : 0 ≤ a ∧ a < 4294967296 := by
  simp [Lit.wf, IntKind.min, IntKind.max, IntKind.bits, IntKind.signed] at h; omega
theorem bounds_i64 {a : Int} (h : (Lit.int .i64 a).wf = true) : -9223372036854775808 ≤ a ∧ a < 9223372036854775808 := by
  simp [Lit.wf, IntKind.min, IntKind.max, IntKind.bits, IntKind.signed] at h; omega

theorem pow_pos (n : Nat) : (0 : Int) < 2 ^ n := Int.pow_pos (by decide)
theorem pow_split (a b : Nat) : (2 : Int) ^ (a + b) = 2 ^ a * 2 ^ b := Int.pow_add 2 a b
theorem pow_le (a b : Nat) (h : a ≤ b) : (2 : Int) ^ a ≤ 2 ^ b := by
  obtain ⟨c, rfl⟩ := Nat.exists_eq_add_of_le h
  rw [pow_split]
  have h1 := pow_pos a
  have h2 := pow_pos c
  have := Int.mul_le_mul_of_nonneg_left (show (1 : Int) ≤ 2 ^ c by omega) (Int.le_of_lt h1)
  simpa using this

theorem int_cases (n : Int) (lo hi : Nat) (h0 : lo ≤ n) (h1 : n ≤ hi) : ∃ m : Nat, n = m ∧ lo ≤ m ∧ m ≤ hi := ⟨n.toNat, by omega, by omega, by omega⟩
theorem wrap64_self (x : Int) (h0 : -9223372036854775808 ≤ x) (h1 : x < 9223372036854775808) : wrap64 x = x := by unfold wrap64; omega
theorem wrap64_small (x : Int) (h0 : -4294967296 ≤ x) (h1 : x ≤ 4294967296) : wrap64 x = x := wrap64_self x (by omega) (by omega)
theorem u64_self (x : Int) (h0 : 0 ≤ x) (h1 : x < 18446744073709551616) : IntKind.u64.wrap x = x := by rw [IntKind.wrap_u64]; omega
theorem shl_nat (k : IntKind) (x : Int) (n : Nat) (h : n ≤ k.bits) : shl k x (n : Int) = k.wrap (x * 2 ^ n) := by unfold shl; rw [Int.toNat_natCast, Nat.min_eq_left h]
theorem shr_nat (k : IntKind) (x : Int) (n : Nat) (h : n ≤ k.bits) : shr k x (n : Int) = x / 2 ^ n := by unfold shr; rw [Int.toNat_natCast, Nat.min_eq_left h]

theorem pow_64 (m : Nat) (h : m ≤ 63) : (2 : Int) ^ m * 2 ^ (63 - m) = 9223372036854775808 := by
  rw [← pow_split, show m + (63 - m) = 63 by omega]; decide
theorem pow_small (m : Nat) (h : m ≤ 32) : (2 : Int) ^ m ≤ 4294967296 := pow_le m 32 h
theorem toNat_pow (n : Nat) : ((2 : Int) ^ n - 1).toNat = 2 ^ n - 1 := by
  have : ((2 ^ n : Nat) : Int) = (2 : Int) ^ n := by simp
  have := Nat.two_pow_pos n
  omega
theorem and_ones_u32 (a : Int) (n : Nat) (h : n ≤ 32) (a0 : 0 ≤ a) (a1 : a < 4294967296) : bits .and .u32 a (2 ^ n - 1) = a % 2 ^ n := by
  have hp := pow_pos n
  have hs := pow_small n h
  rw [u32_and a _ a0 a1 (by omega) (by omega), toNat_pow, Nat.and_two_pow_sub_one_eq_mod]
  obtain ⟨m, rfl⟩ := Int.eq_ofNat_of_zero_le a0
  simp
theorem and_ones_u64 (a : Int) (n : Nat) (h : n ≤ 64) (a0 : 0 ≤ a) (a1 : a < 18446744073709551616) : bits .and .u64 a (2 ^ n - 1) = a % 2 ^ n := by
  have hp := pow_pos n
  have hs : (2 : Int) ^ n ≤ 2 ^ 64 := pow_le n 64 h
  rw [u64_and a _ a0 a1 (by omega) (by simp at hs; omega), toNat_pow, Nat.and_two_pow_sub_one_eq_mod]
  obtain ⟨m, rfl⟩ := Int.eq_ofNat_of_zero_le a0
  simp
theorem pow_dvd (a b : Nat) (h : a ≤ b) : (2 : Int) ^ a ∣ 2 ^ b := by
  obtain ⟨c, rfl⟩ := Nat.exists_eq_add_of_le h
  exact ⟨2 ^ c, pow_split a c⟩
theorem emod_pow_pow (x : Int) (a b : Nat) (h : a ≤ b) : x % 2 ^ b % 2 ^ a = x % 2 ^ a := Int.emod_emod_of_dvd _ (pow_dvd a b h)

theorem ediv_zero_iff (s H : Int) (h : 0 < H) : s / H = 0 ↔ 0 ≤ s ∧ s < H := by
  constructor
  · intro e
    have h1 := Int.mul_ediv_add_emod s H
    have h2 := Int.emod_nonneg s (show H ≠ 0 by omega)
    have h3 := Int.emod_lt_of_pos s h
    rw [e, Int.mul_zero] at h1
    omega
  · intro ⟨a, b⟩
    exact Int.ediv_eq_zero_of_lt a b
theorem ediv_neg_iff (s H : Int) (h : 0 < H) : s / H = -1 ↔ -H ≤ s ∧ s < 0 := by
  have h0 := ediv_zero_iff (s + H) H h
  have h1 : (s + H) / H = s / H + 1 := by
    have := Int.add_mul_ediv_right s 1 (show H ≠ 0 by omega)
    rw [Int.one_mul] at this
    exact this
  rw [h1] at h0
  omega
theorem mod_64 (v : Int) (v0 : 0 ≤ v) (v1 : v < 18446744073709551616) : v % 2 ^ 64 = v := Int.emod_eq_of_lt v0 v1
end Go.Proofs.YtfajpcinmpbhgaaDoor.M
