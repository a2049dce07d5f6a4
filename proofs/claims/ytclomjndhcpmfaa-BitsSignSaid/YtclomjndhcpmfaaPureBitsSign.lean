/- Signed and Pack turn one another back, and what is packed in more bits is told as the same: the Go law answers true for all numbers. -/
import Derived.Test.YtclomjndhcpmfaaPx11
import Derived.Test.YtclomjndhcpmfaaMOne
namespace Go.Proofs.Ytclomjndhcpmfaa.Pure
open Go.RowKit Go.Proofs.Ytclomjndhcpmfaa.P Go.Proofs.YtclomjndhcpmfaaW.PrintWords Go.Proofs.YtclomjndhcpmfaaW.PrintLast Go.Proofs.Ytclomjndhcpmfaa.M

theorem sgn_pack (v n : Int) (v0 : 0 ≤ v) (h : (sgnV v n).2 = 0) : packV (sgnV v n).1 n = (v, 0) ∧ -9223372036854775808 ≤ (sgnV v n).1 ∧ (sgnV v n).1 < 9223372036854775808 := by
  by_cases c : 1 ≤ n ∧ n ≤ 32
  · obtain ⟨m1, rfl, d1, d2⟩ := int_cases n 1 32 c.1 c.2
    obtain ⟨m, rfl⟩ : ∃ m, m1 = m + 1 := ⟨m1 - 1, by omega⟩
    have hm := pow_pos m
    have hs := pow_small (m + 1) (by omega)
    have h2 : (2 : Int) ^ (m + 1) = 2 ^ m * 2 := by rw [pow_split]; rfl
    rw [sgnV_nat v m (by omega)] at h ⊢
    by_cases a : v < 2 ^ (m + 1)
    · rw [if_pos a] at h ⊢
      rw [packV_nat _ m (by omega)]
      by_cases b : v < 2 ^ m
      · simp only [if_pos b]
        rw [if_pos (by omega), Int.emod_eq_of_lt v0 a]
        exact ⟨rfl, by omega, by omega⟩
      · simp only [if_neg b]
        rw [if_pos (by omega), show (v - 2 ^ (m + 1)) % 2 ^ (m + 1) = v by rw [Int.sub_emod_right]; exact Int.emod_eq_of_lt v0 a]
        exact ⟨rfl, by omega, by omega⟩
    · rw [if_neg a] at h
      exact absurd h (by decide)
  · rw [sgnV_bad v n c] at h
    exact absurd h (by decide)
theorem pack_sgn (s n : Int) (h : (packV s n).2 = 0) : 1 ≤ n ∧ n ≤ 32 ∧ 0 ≤ (packV s n).1 ∧ (packV s n).1 < 4294967296 ∧ sgnV (packV s n).1 n = (s, 0) ∧ (packV s n).1 = s % 2 ^ n.toNat ∧
    -(2 ^ (n.toNat - 1)) ≤ s ∧ s < 2 ^ (n.toNat - 1) := by
  by_cases c : 1 ≤ n ∧ n ≤ 32
  · obtain ⟨m1, rfl, d1, d2⟩ := int_cases n 1 32 c.1 c.2
    obtain ⟨m, rfl⟩ : ∃ m, m1 = m + 1 := ⟨m1 - 1, by omega⟩
    have hm := pow_pos m
    have hs := pow_small (m + 1) (by omega)
    have h2 : (2 : Int) ^ (m + 1) = 2 ^ m * 2 := by rw [pow_split]; rfl
    rw [packV_nat s m (by omega)] at h ⊢
    by_cases a : -(2 ^ m) ≤ s ∧ s < 2 ^ m
    · rw [if_pos a]
      have e0 := Int.emod_nonneg s (show (2 : Int) ^ (m + 1) ≠ 0 by omega)
      have e1 := Int.emod_lt_of_pos s (show (0 : Int) < 2 ^ (m + 1) by omega)
      simp only [Int.toNat_natCast, Nat.add_sub_cancel]
      refine ⟨c.1, c.2, e0, by omega, ?_, trivial, a.1, a.2⟩
      rw [sgnV_nat _ m (by omega), if_pos e1]
      by_cases b : s < 0
      · have : s % 2 ^ (m + 1) = s + 2 ^ (m + 1) := by rw [← Int.add_emod_right]; exact Int.emod_eq_of_lt (by omega) (by omega)
        rw [this, if_neg (by omega)]
        congr 1; omega
      · have : s % 2 ^ (m + 1) = s := Int.emod_eq_of_lt (by omega) (by omega)
        rw [this, if_pos (by omega)]
    · rw [if_neg a] at h
      exact absurd h (by decide)
  · rw [packV_bad s n c] at h
    exact absurd h (by decide)
theorem pack_bad (s n : Int) (h : (packV s n).2 ≠ 0) : (packV s n).1 = 0 := by
  unfold packV at h ⊢
  split
  · split
    · rename_i a b; rw [if_pos a, if_pos b] at h; exact absurd rfl h
    · rfl
  · rfl
theorem pack_wide (s n m : Int) (h : (packV s n).2 = 0) (h1 : n ≤ m) (h2 : m ≤ 32) : (packV s m).2 = 0 := by
  obtain ⟨n0, n1, _, _, _, _, b0, b1⟩ := pack_sgn s n h
  have hle := pow_le (n.toNat - 1) (m.toNat - 1) (by omega)
  unfold packV
  rw [if_pos (by omega), if_pos (by omega)]

theorem sign_j0 (k : Nat) (s n m : Int) (hk : 150 ≤ k) (s0 : -9223372036854775808 ≤ s) (s1 : s < 9223372036854775808) (n0 : -9223372036854775808 ≤ n) (n1 : n < 9223372036854775808) (m0 : -9223372036854775808 ≤ m) (m1 : m < 9223372036854775808) :
    cleatlaw01_BitsSign.j0 k s n m = some true := by
  obtain ⟨k, rfl⟩ : ∃ j, k = j + 3 := ⟨k - 3, by omega⟩
  rw [cleatlaw01_BitsSign.j0, pack_spec _ s n (by omega) s0 s1 n0 n1, Option.bind_some]
  by_cases h : (packV s n).2 = 0
  · obtain ⟨c0, c1, p0, p1, hs, he, _, _⟩ := pack_sgn s n h
    have hsx : (sgnV (packV s n).1 n).2 = 0 := by rw [hs]
    rw [if_pos h, signed_spec _ _ n (by omega) p0 p1 n0 n1, Option.bind_some, hs]
    dsimp only
    rw [if_pos rfl, show (s != s) = false by simp, cleatlaw01_BitsSign.j1, if_neg (by decide)]
    by_cases a : m < n
    · rw [if_pos a, cleatlaw01_BitsSign.j2, if_pos rfl, told_ok _ (by omega), Option.bind_some]
    · rw [if_neg a]
      by_cases b : m > 32
      · rw [decide_eq_true b, cleatlaw01_BitsSign.j2, if_pos rfl, told_ok _ (by omega), Option.bind_some]
      · have hw := pack_wide s n m h (by omega) (by omega)
        obtain ⟨_, _, q0, q1, ht, hf, _, _⟩ := pack_sgn s m hw
        rw [decide_eq_false b, cleatlaw01_BitsSign.j2, if_neg (by decide), pack_spec _ s m (by omega) s0 s1 m0 m1, Option.bind_some, signed_spec _ _ m (by omega) q0 q1 m0 m1, Option.bind_some, told_ok _ (by omega), Option.bind_some, if_pos rfl, if_pos hw, ht]
        dsimp only
        rw [if_pos rfl, if_pos rfl, u64_self _ q0 (by omega), u64_self _ p0 (by omega), low_spec _ n q0 (by omega), Option.bind_some]
        unfold lowV
        rw [if_neg (by omega), if_neg (by omega), hf, he, emod_pow_pow _ _ _ (by omega)]
        simp
  · rw [if_neg h, told_ok _ (by omega), Option.bind_some, if_pos rfl, pack_bad s n h]
    rfl
theorem BitsSign : cleatlaw01_BitsSign.Pure := by
  intro v s n m hv hs hn hm
  obtain ⟨v0, v1⟩ := bounds_u32 hv
  obtain ⟨s0, s1⟩ := bounds_i64 hs
  obtain ⟨n0, n1⟩ := bounds_i64 hn
  obtain ⟨m0, m1⟩ := bounds_i64 hm
  refine ⟨200, ?_⟩
  unfold cleatlaw01_BitsSign.f
  rw [signed_spec _ v n (by omega) v0 v1 n0 n1, Option.bind_some]
  by_cases h : (sgnV v n).2 = 0
  · obtain ⟨h1, h2, h3⟩ := sgn_pack v n v0 h
    rw [if_pos h, pack_spec _ _ n (by omega) h2 h3 n0 n1, Option.bind_some, h1]
    dsimp only
    rw [if_pos rfl, if_pos rfl]
    exact sign_j0 _ s n m (by omega) s0 s1 n0 n1 m0 m1
  · rw [if_neg h]
    exact sign_j0 _ s n m (by omega) s0 s1 n0 n1 m0 m1
end Go.Proofs.Ytclomjndhcpmfaa.Pure
