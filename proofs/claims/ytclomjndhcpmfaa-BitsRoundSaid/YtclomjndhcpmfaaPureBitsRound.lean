/- Rotated by one way, and by what is left of size, a number is as it was, and two ways are one: the Go law answers true for all numbers. -/
import Derived.Test.YtclomjndhcpmfaaPx12
import Derived.Test.YtclomjndhcpmfaaMRot
namespace Go.Proofs.Ytclomjndhcpmfaa.Pure
open Go.RowKit Go.Proofs.Ytclomjndhcpmfaa.P Go.Proofs.YtclomjndhcpmfaaW.PrintWords Go.Proofs.YtclomjndhcpmfaaW.PrintLast Go.Proofs.Ytclomjndhcpmfaa.M

theorem eq_of_bits (n a b : Nat) (ha : a < 2 ^ n) (hb : b < 2 ^ n) (h : ∀ i, i < n → a.testBit i = b.testBit i) : a = b := by
  apply Nat.eq_of_testBit_eq
  intro i
  by_cases c : i < n
  · exact h i c
  · have hp := Nat.pow_le_pow_right (show 0 < 2 by decide) (show n ≤ i by omega)
    rw [Nat.testBit_lt_two_pow (by omega), Nat.testBit_lt_two_pow (by omega)]
theorem rot_rot (v r s n : Nat) (hr : r < n) (hs : s < n) (hv : v < 2 ^ n) : rotN (rotN v r n) s n = rotN v ((r + s) % n) n := by
  have hn : 0 < n := by omega
  have h1 := rot_lt v r n (by omega) hv
  have hm := Nat.mod_lt (r + s) hn
  refine eq_of_bits n _ _ (rot_lt _ s n (by omega) h1) (rot_lt _ _ n (by omega) hv) fun i hi => ?_
  rw [rot_bit _ s n i hs h1 hi, rot_bit v r n _ hr hv (Nat.mod_lt _ hn), rot_bit v _ n i hm hv hi, Nat.mod_add_mod, Nat.add_mod_mod]
  congr 2; omega
theorem rot_zero (v n : Nat) : rotN v 0 n = v := by simp [rotN, Nat.mod_one]
theorem rot_back (v r n : Nat) (hr : r < n) (hv : v < 2 ^ n) : rotN (rotN v r n) ((n - r) % n) n = v := by
  have hn : 0 < n := by omega
  rw [rot_rot v r _ n hr (Nat.mod_lt _ hn) hv, Nat.add_mod_mod, show r + (n - r) = n by omega, Nat.mod_self, rot_zero]

theorem rot_ok (v r size : Int) (v0 : 0 ≤ v) (h : (rotV v r size).2 = 0) : ∃ V R n : Nat, v = V ∧ r = R ∧ size = n ∧ 2 ≤ n ∧ n ≤ 64 ∧ R < n ∧ V < 2 ^ n ∧ sizeB size = true ∧ rotV v r size = (((rotN V R n : Nat) : Int), 0) := by
  by_cases c : sizeB size = true ∧ 0 ≤ r ∧ r < size
  · obtain ⟨n, rfl, n0, n1⟩ := size_cases size c.1
    obtain ⟨V, rfl⟩ := Int.eq_ofNat_of_zero_le v0
    obtain ⟨R, rfl⟩ := Int.eq_ofNat_of_zero_le c.2.1
    rw [rotV_nat V R n c.1 (by omega)] at h ⊢
    by_cases d : V < 2 ^ n
    · rw [if_pos d]; exact ⟨V, R, n, rfl, rfl, rfl, n0, n1, by omega, d, c.1, rfl⟩
    · rw [if_neg d] at h; exact absurd h (by decide)
  · rw [rotV_bad v r size c] at h; exact absurd h (by decide)
theorem rot_bad_zero (v r size : Int) (h : (rotV v r size).2 ≠ 0) : (rotV v r size).1 = 0 := by
  unfold rotV at h ⊢
  split
  · split
    · rename_i a b; rw [if_pos a, if_pos b] at h; exact absurd rfl h
    · rfl
  · rfl
theorem tmod_nat (a b : Nat) : Int.tmod (a : Int) (b : Int) = ((a % b : Nat) : Int) := by rw [Int.tmod_eq_emod_of_nonneg (by omega)]; simp

theorem BitsRound : cleatlaw01_BitsRound.Pure := by
  intro v r more size hv hr0 hm0 hs0
  obtain ⟨v0, v1⟩ := bounds_u64 hv
  refine ⟨300, ?_⟩
  unfold cleatlaw01_BitsRound.f
  rw [rot_spec _ v r size (by omega) v0 v1, Option.bind_some]
  by_cases h : (rotV v r size).2 = 0
  · obtain ⟨V, R, n, rfl, rfl, rfl, n0, n1, hR, hV, hs, e⟩ := rot_ok v r size v0 h
    have hn : 0 < n := by omega
    have ha := rot_lt V R n (by omega) hV
    have ha64 := nat_64 n _ n1 ha
    have hmod := Nat.mod_lt (n - R) hn
    rw [if_pos h, if_neg (by omega), if_neg (by omega), if_neg (by omega), decide_eq_false (by omega), e]
    dsimp only
    rw [cleatlaw01_BitsRound.j0, if_neg (by decide), if_neg (by omega), wrap64_self ((n : Int) - R) (by omega) (by omega), show (n : Int) - R = ((n - R : Nat) : Int) by omega, tmod_nat,
      rot_spec _ _ _ _ (by omega) (Int.natCast_nonneg _) ha64, Option.bind_some, rotV_nat _ _ n hs hmod, if_pos ha, rot_back V R n hR hV]
    dsimp only
    rw [if_pos rfl, if_pos rfl, low_spec _ _ (Int.natCast_nonneg _) ha64, Option.bind_some]
    have hl : lowV ((rotN V R n : Nat) : Int) n = ((rotN V R n : Nat) : Int) := by
      unfold lowV
      rw [if_neg (by omega)]
      by_cases c : 64 ≤ (n : Int)
      · rw [if_pos c]
      · rw [if_neg c, Int.toNat_natCast, ← cast_pow]
        exact Int.emod_eq_of_lt (Int.natCast_nonneg _) (by omega)
    rw [hl, show ((((rotN V R n : Nat) : Int)) != ((rotN V R n : Nat) : Int)) = false by simp, cleatlaw01_BitsRound.j1, if_neg (by decide)]
    by_cases c : more < 0
    · rw [if_pos c, cleatlaw01_BitsRound.j2, if_pos rfl, told_ok _ (by omega), Option.bind_some]
    · rw [if_neg c]
      by_cases d : more ≥ n
      · rw [decide_eq_true d, cleatlaw01_BitsRound.j2, if_pos rfl, told_ok _ (by omega), Option.bind_some]
      · obtain ⟨M, rfl⟩ := Int.eq_ofNat_of_zero_le (show 0 ≤ more by omega)
        have hM : M < n := by omega
        rw [decide_eq_false d, cleatlaw01_BitsRound.j2, if_neg (by decide), rot_spec _ _ _ _ (by omega) (Int.natCast_nonneg _) ha64, Option.bind_some, if_neg (by omega), wrap64_self ((R : Int) + M) (by omega) (by omega),
          show (R : Int) + M = ((R + M : Nat) : Int) by omega, tmod_nat, rot_spec _ _ _ _ (by omega) v0 v1, Option.bind_some, told_ok _ (by omega), Option.bind_some, if_pos rfl, rotV_nat _ _ n hs hM, if_pos ha, rotV_nat _ _ n hs (Nat.mod_lt _ hn), if_pos hV,
          rot_rot V R M n hR hM hV]
        simp
  · rw [if_neg h, told_ok _ (by omega), Option.bind_some, if_pos rfl, rot_bad_zero v r size h]
    rfl
end Go.Proofs.Ytclomjndhcpmfaa.Pure
