/- Plain laws on bits of whole numbers: no program in sight. -/
import Derived.Laws.BitsAllLaws
import Derived.RowKit
namespace Go.Proofs.YtfajpcinmpbhgaaDoor.M
open Go.RowKit

theorem testBit_top (x i : Nat) (h : x < 2 ^ (i + 1)) : x.testBit i = decide (2 ^ i ≤ x) := by
  rw [Nat.testBit_eq_decide_div_mod_eq]
  have h2 : x < 2 * 2 ^ i := by rw [Nat.pow_succ] at h; omega
  have hp : 0 < 2 ^ i := Nat.two_pow_pos i
  by_cases c : 2 ^ i ≤ x
  · have : x / 2 ^ i = 1 := by
      apply Nat.div_eq_of_lt_le <;> omega
    simp [this, c]
  · have : x / 2 ^ i = 0 := Nat.div_eq_of_lt (by omega)
    simp [this, c]

theorem xor_ones_u64 (b : Int) (h0 : 0 ≤ b) (h1 : b < 18446744073709551616) : bits .xor .u64 18446744073709551615 b = 18446744073709551615 - b := by
  rw [u64_xor _ _ (by omega) (by omega) h0 h1]
  obtain ⟨n, rfl⟩ := Int.eq_ofNat_of_zero_le h0
  have hn : n < 2 ^ 64 := by simp; omega
  have : (18446744073709551615 : Int).toNat ^^^ n = 18446744073709551615 - n := by
    have e : (18446744073709551615 : Int).toNat = 2 ^ 64 - 1 := by decide
    rw [e]
    apply Nat.eq_of_testBit_eq
    intro i
    rw [Nat.testBit_xor, Nat.testBit_two_pow_sub_one, show (18446744073709551615 : Nat) = 2 ^ 64 - 1 from rfl, Nat.sub_sub, Nat.add_comm 1 n, Nat.testBit_two_pow_sub_succ hn]
    by_cases c : i < 64
    · simp [c]
    · simp [c, Nat.testBit_lt_two_pow (Nat.lt_of_lt_of_le hn (Nat.pow_le_pow_right (by decide) (by omega : 64 ≤ i)))]
  rw [Int.toNat_natCast, this]
  omega

theorem wrap64_neg (x : Int) (h0 : 0 ≤ x) (h1 : x < 18446744073709551616) : (wrap64 x < 0) = (9223372036854775808 ≤ x) := by
  apply propext; unfold wrap64; omega

theorem sign_and_xor (a b s : Int) (a0 : 0 ≤ a) (a1 : a < 18446744073709551616) (b0 : 0 ≤ b) (b1 : b < 18446744073709551616) (s0 : 0 ≤ s) (s1 : s < 18446744073709551616) :
    (wrap64 (bits .and .u64 (bits .xor .u64 a s) (bits .xor .u64 b s)) < 0) =
      ((9223372036854775808 ≤ a ↔ ¬ 9223372036854775808 ≤ s) ∧ (9223372036854775808 ≤ b ↔ ¬ 9223372036854775808 ≤ s)) := by
  obtain ⟨a, rfl⟩ := Int.eq_ofNat_of_zero_le a0
  obtain ⟨b, rfl⟩ := Int.eq_ofNat_of_zero_le b0
  obtain ⟨s, rfl⟩ := Int.eq_ofNat_of_zero_le s0
  have ha : a < 2 ^ 64 := by simp; omega
  have hb : b < 2 ^ 64 := by simp; omega
  have hs : s < 2 ^ 64 := by simp; omega
  rw [u64_xor _ _ a0 a1 s0 s1, u64_xor _ _ b0 b1 s0 s1]
  simp only [Int.toNat_natCast]
  have hx : a ^^^ s < 2 ^ 64 := Nat.xor_lt_two_pow ha hs
  have hy : b ^^^ s < 2 ^ 64 := Nat.xor_lt_two_pow hb hs
  rw [u64_and _ _ (by omega) (by simp at hx; omega) (by omega) (by simp at hy; omega)]
  simp only [Int.toNat_natCast]
  have hz : (a ^^^ s) &&& (b ^^^ s) < 2 ^ 64 := Nat.and_lt_two_pow _ hy
  rw [wrap64_neg _ (by omega) (by simp at hz; omega)]
  have t := testBit_top ((a ^^^ s) &&& (b ^^^ s)) 63 hz
  rw [Nat.testBit_and, Nat.testBit_xor, Nat.testBit_xor, testBit_top a 63 ha, testBit_top b 63 hb, testBit_top s 63 hs] at t
  have t2 : ((9223372036854775808 : Int) ≤ (((a ^^^ s) &&& (b ^^^ s) : Nat) : Int)) = (2 ^ 63 ≤ (a ^^^ s) &&& (b ^^^ s)) := by
    apply propext; simp; omega
  have ca : ((9223372036854775808 : Int) ≤ (a : Int)) = (2 ^ 63 ≤ a) := by apply propext; simp; omega
  have cb : ((9223372036854775808 : Int) ≤ (b : Int)) = (2 ^ 63 ≤ b) := by apply propext; simp; omega
  have cs : ((9223372036854775808 : Int) ≤ (s : Int)) = (2 ^ 63 ≤ s) := by apply propext; simp; omega
  rw [t2, ca, cb, cs]
  apply propext
  rw [← decide_eq_true_iff (p := 2 ^ 63 ≤ (a ^^^ s) &&& (b ^^^ s)), ← t]
  by_cases p : 2 ^ 63 ≤ a <;> by_cases q : 2 ^ 63 ≤ b <;> by_cases r : 2 ^ 63 ≤ s <;> simp [p, q, r]
end Go.Proofs.YtfajpcinmpbhgaaDoor.M
