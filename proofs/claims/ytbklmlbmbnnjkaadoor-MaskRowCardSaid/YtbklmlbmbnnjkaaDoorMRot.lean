/- Rotations: what bits.Rotate and the document's answer tell, as plain numbers (chapter 1). -/
import Derived.Test.YtbklmlbmbnnjkaaDoorMOneA
namespace Go.Proofs.YtbklmlbmbnnjkaaDoor.M
open Go.RowKit Go.Proofs.YtbklmlbmbnnjkaaDoor.P Go.Proofs.YtbklmlbmbnnjkaaDoorW.PrintWords Go.Proofs.YtbklmlbmbnnjkaaDoorW.PrintLast Go.Proofs.YtbklmlbmbnnjkaaDoorW.PrintMore

theorem cast_pow (n : Nat) : ((2 ^ n : Nat) : Int) = (2 : Int) ^ n := by simp
theorem nat_64 (n : Nat) (v : Nat) (h : n ≤ 64) (hv : v < 2 ^ n) : (v : Int) < 18446744073709551616 := by
  have := Nat.pow_le_pow_right (show 0 < 2 by decide) h
  have e : (2 : Nat) ^ 64 = 18446744073709551616 := by decide
  omega
theorem bit_testBit (k v n : Nat) (hk : 70 ≤ k) (h : n ≤ 63) (hv : v < 2 ^ 64) : cleatref01_Bit.f k (v : Int) (n : Int) = some (v.testBit n) := by
  rw [bit_nat k n v hk h (by omega) (nat_64 64 v (Nat.le_refl _) hv), Nat.testBit_eq_decide_div_mod_eq]
  congr 2
  apply propext
  rw [← cast_pow]
  omega

def rotN (v r size : Nat) : Nat := 2 ^ (size - r) * (v % 2 ^ r) + v / 2 ^ r
theorem rot_hi (v r size : Nat) (hr : r ≤ size) (hv : v < 2 ^ size) : v / 2 ^ r < 2 ^ (size - r) := by
  apply Nat.div_lt_of_lt_mul
  rw [← Nat.pow_add, show r + (size - r) = size by omega]; exact hv
theorem rot_bit (v r size i : Nat) (hr : r < size) (hv : v < 2 ^ size) (hi : i < size) : (rotN v r size).testBit i = v.testBit ((i + r) % size) := by
  unfold rotN
  rw [Nat.testBit_two_pow_mul_add _ (rot_hi v r size (by omega) hv)]
  by_cases c : i < size - r
  · rw [if_pos c, Nat.testBit_div_two_pow, Nat.mod_eq_of_lt (by omega)]
  · rw [if_neg c, Nat.testBit_mod_two_pow, Nat.mod_eq_sub_mod (by omega), Nat.mod_eq_of_lt (by omega)]
    rw [show i - (size - r) = i + r - size by omega, show decide (i + r - size < r) = true from decide_eq_true (by omega), Bool.true_and]
theorem rot_lt (v r size : Nat) (hr : r ≤ size) (hv : v < 2 ^ size) : rotN v r size < 2 ^ size := by
  unfold rotN
  have h1 := rot_hi v r size hr hv
  have h2 : v % 2 ^ r < 2 ^ r := Nat.mod_lt _ (Nat.two_pow_pos r)
  have h3 : 2 ^ (size - r) * (v % 2 ^ r + 1) ≤ 2 ^ (size - r) * 2 ^ r := Nat.mul_le_mul_left _ h2
  rw [← Nat.pow_add, show size - r + r = size by omega, Nat.mul_add] at h3
  omega

theorem mod_succ (x i : Nat) : x % 2 ^ (i + 1) = x % 2 ^ i + (if x.testBit i then 2 ^ i else 0) := by
  rw [Nat.mod_pow_succ, Nat.testBit_eq_decide_div_mod_eq]
  have := Nat.mod_lt (x / 2 ^ i) (show 2 > 0 by decide)
  by_cases h : x / 2 ^ i % 2 = 1
  · simp [h]
  · have : x / 2 ^ i % 2 = 0 := by omega
    simp [this]

theorem ref_rot_loop (v r size : Nat) (hs : size ≤ 64) (hr : r < size) (hv : v < 2 ^ size) : ∀ (d i k : Nat), i + d = size → 71 + d ≤ k →
    cleatref01_Rotate.l0 k v r size ((rotN v r size % 2 ^ i : Nat) : Int) i = some ((rotN v r size : Int), 0) := by
  have hv64 : v < 2 ^ 64 := Nat.lt_of_lt_of_le hv (Nat.pow_le_pow_right (by decide) hs)
  have hR := rot_lt v r size (by omega) hv
  intro d
  induction d with
  | zero =>
    intro i k hi hk
    obtain ⟨k, rfl⟩ : ∃ m, k = m + 1 := ⟨k - 1, by omega⟩
    obtain rfl : i = size := by omega
    simp only [cleatref01_Rotate.l0]
    rw [if_neg (by omega), Nat.mod_eq_of_lt hR]
  | succ d ih =>
    intro i k hi hk
    obtain ⟨k, rfl⟩ : ∃ m, k = m + 1 := ⟨k - 1, by omega⟩
    have hn := ih (i + 1) k (by omega) (by omega)
    have hp := Nat.pow_le_pow_right (show 0 < 2 by decide) (show i ≤ 63 by omega)
    have hm : rotN v r size % 2 ^ i < 2 ^ i := Nat.mod_lt _ (Nat.two_pow_pos i)
    have e63 : (2 : Nat) ^ 63 = 9223372036854775808 := by decide
    simp only [cleatref01_Rotate.l0]
    rw [if_pos (by omega), if_neg (by omega), wrap64_self ((i : Int) + r) (by omega) (by omega), wrap64_self ((i : Int) + 1) (by omega) (by omega),
      show Int.tmod ((i : Int) + r) size = (((i + r) % size : Nat) : Int) by rw [Int.tmod_eq_emod_of_nonneg (by omega)]; simp,
      bit_testBit _ _ _ (by omega) (by have := Nat.mod_lt (i + r) (show size > 0 by omega); omega) hv64, ← rot_bit v r size i hr hv (by omega)]
    simp only [Option.bind_some]
    rw [mod_succ] at hn
    cases hb : (rotN v r size).testBit i with
    | true =>
      rw [hb] at hn
      rw [if_pos rfl, power_nat _ _ (by omega) (by omega)]
      simp only [Option.bind_some]
      rw [u64_self _ (by have := pow_pos i; omega) (by rw [← cast_pow]; omega)]
      simpa using hn
    | false =>
      rw [hb] at hn
      rw [if_neg (by decide)]
      simpa using hn

/-- The sizes. -/
def sizeB (size : Int) : Bool := size == 2 || size == 4 || size == 8 || size == 16 || size == 32 || size == 64
def rotV (v r size : Int) : Int × Int := if sizeB size = true ∧ 0 ≤ r ∧ r < size then (if v < 2 ^ size.toNat then (((rotN v.toNat r.toNat size.toNat : Nat) : Int), 0) else (0, 4)) else (0, 1)
theorem size_cases (size : Int) (h : sizeB size = true) : ∃ n : Nat, size = n ∧ 2 ≤ n ∧ n ≤ 64 := by
  simp only [sizeB, Bool.or_eq_true, beq_iff_eq] at h
  exact ⟨size.toNat, by omega, by omega, by omega⟩
theorem rotV_nat (v r size : Nat) (h : sizeB size = true) (hr : r < size) : rotV v r size = if v < 2 ^ size then (((rotN v r size : Nat) : Int), 0) else (0, 4) := by
  unfold rotV
  rw [if_pos ⟨h, by omega, by omega⟩]
  simp only [Int.toNat_natCast]
  rw [← cast_pow]
  by_cases c : v < 2 ^ size
  · rw [if_pos c, if_pos (by omega)]
  · rw [if_neg c, if_neg (by omega)]
theorem rotV_bad (v r size : Int) (h : ¬ (sizeB size = true ∧ 0 ≤ r ∧ r < size)) : rotV v r size = (0, 1) := by unfold rotV; rw [if_neg h]

theorem chain6 {α : Type} (z : Int) (X Y : α) : (if z = 2 then X else (if z = 4 then X else (if z = 8 then X else (if z = 16 then X else (if z = 32 then X else (if z = 64 then X else Y)))))) = if sizeB z = true then X else Y := by
  unfold sizeB
  by_cases a : z = 2
  · simp [a]
  · by_cases b : z = 4
    · simp [b]
    · by_cases c : z = 8
      · simp [c]
      · by_cases d : z = 16
        · simp [d]
        · by_cases e : z = 32
          · simp [e]
          · by_cases f : z = 64 <;> simp [a, b, c, d, e, f]
theorem ref_rot_spec (k : Nat) (v r size : Int) (hk : 200 ≤ k) (v0 : 0 ≤ v) (v1 : v < 18446744073709551616) : cleatref01_Rotate.f k v r size = some (rotV v r size) := by
  obtain ⟨v, rfl⟩ := Int.eq_ofNat_of_zero_le v0
  obtain ⟨k, rfl⟩ : ∃ m, k = m + 1 := ⟨k - 1, by omega⟩
  unfold cleatref01_Rotate.f
  rw [chain6]
  by_cases hs : sizeB size = true
  · rw [if_pos hs]
    obtain ⟨n, rfl, n0, n1⟩ := size_cases size hs
    by_cases a : r < 0
    · rw [if_pos a, rotV_bad _ _ _ (by omega)]; rfl
    · rw [if_neg a]
      by_cases b : r < (n : Int)
      · obtain ⟨r, rfl⟩ := Int.eq_ofNat_of_zero_le (show 0 ≤ r by omega)
        rw [rotV_nat v r n hs (by omega), show decide ((r : Int) ≥ n) = false from decide_eq_false (by omega)]
        simp only [cleatref01_Rotate.j0]
        rw [if_neg (by decide), small_nat _ _ _ (by omega) n1 v1]
        simp only [Option.bind_some, ← cast_pow]
        by_cases c : v < 2 ^ n
        · rw [if_pos (decide_eq_true (by omega)), if_pos c]
          have := ref_rot_loop v r n n1 (by omega) c n 0 k (by omega) (by omega)
          simpa [Nat.mod_one] using this
        · rw [if_neg (by rw [decide_eq_true_eq]; omega), if_neg c]
      · rw [show decide (r ≥ (n : Int)) = true from decide_eq_true (by omega), rotV_bad _ _ _ (by omega)]; rfl
  · rw [if_neg hs, rotV_bad _ _ _ (fun h => hs h.1)]; rfl

theorem sh0 : shl .i64 2 0 = 2 := by decide +kernel
theorem sh1 : shl .i64 2 1 = 4 := by decide +kernel
theorem sh2 : shl .i64 2 2 = 8 := by decide +kernel
theorem sh3 : shl .i64 2 3 = 16 := by decide +kernel
theorem sh4 : shl .i64 2 4 = 32 := by decide +kernel
theorem sh5 : shl .i64 2 5 = 64 := by decide +kernel
theorem wr0 : wrap64 1 = 1 := by decide +kernel
theorem wr1 : wrap64 2 = 2 := by decide +kernel
theorem wr2 : wrap64 3 = 3 := by decide +kernel
theorem wr3 : wrap64 4 = 4 := by decide +kernel
theorem wr4 : wrap64 5 = 5 := by decide +kernel
theorem wr5 : wrap64 6 = 6 := by decide +kernel
theorem rot_open (k : Nat) (v r size : Int) : bits_Rotate.f (k + 7) v r size = if sizeB size = true then (if r < 0 then bits_Rotate.j1 k v r size true else bits_Rotate.j1 k v r size (decide (r ≥ size))) else bits_Rotate.j1 k v r size true := by
  unfold bits_Rotate.f sizeB
  by_cases a : size = 2
  · subst a; simp [bits_Rotate.l0, sh0, wr0, wr1, wr2, wr3, wr4, wr5]
  · by_cases b : size = 4
    · subst b; simp [bits_Rotate.l0, sh0, sh1, wr0, wr1, wr2, wr3, wr4, wr5]
    · by_cases c : size = 8
      · subst c; simp [bits_Rotate.l0, sh0, sh1, sh2, wr0, wr1, wr2, wr3, wr4, wr5]
      · by_cases d : size = 16
        · subst d; simp [bits_Rotate.l0, sh0, sh1, sh2, sh3, wr0, wr1, wr2, wr3, wr4, wr5]
        · by_cases e : size = 32
          · subst e; simp [bits_Rotate.l0, sh0, sh1, sh2, sh3, sh4, wr0, wr1, wr2, wr3, wr4, wr5]
          · by_cases f : size = 64
            · subst f; simp [bits_Rotate.l0, sh0, sh1, sh2, sh3, sh4, sh5, wr0, wr1, wr2, wr3, wr4, wr5]
            · simp [bits_Rotate.l0, sh0, sh1, sh2, sh3, sh4, sh5, wr0, wr1, wr2, wr3, wr4, wr5, a, b, c, d, e, f]
theorem rot_or (v r size : Nat) (hs : size ≤ 64) (hr : r < size) (hv : v < 2 ^ size) : (v / 2 ^ r ||| v * 2 ^ (size - r) % 2 ^ 64) % 2 ^ size = rotN v r size := by
  have h1 := rot_hi v r size (by omega) hv
  have hsm : 2 ^ (size - r) ≤ 2 ^ size := Nat.pow_le_pow_right (by decide) (by omega)
  have e : v * 2 ^ (size - r) % 2 ^ 64 % 2 ^ size = 2 ^ (size - r) * (v % 2 ^ r) := by
    rw [Nat.mod_mod_of_dvd _ (Nat.pow_dvd_pow 2 hs), Nat.mul_comm, show (2 : Nat) ^ size = 2 ^ (size - r) * 2 ^ r by rw [← Nat.pow_add, show size - r + r = size by omega], Nat.mul_mod_mul_left]
  rw [Nat.or_mod_two_pow, e, Nat.mod_eq_of_lt (by omega), Nat.or_comm]
  exact nat_join (size - r) _ _ (Nat.mul_mod_right _ _) h1
theorem rot_spec (k : Nat) (v r size : Int) (hk : 200 ≤ k) (v0 : 0 ≤ v) (v1 : v < 18446744073709551616) : bits_Rotate.f k v r size = some (rotV v r size) := by
  obtain ⟨v, rfl⟩ := Int.eq_ofNat_of_zero_le v0
  obtain ⟨k, rfl⟩ : ∃ m, k = m + 8 := ⟨k - 8, by omega⟩
  rw [rot_open (k + 1)]
  by_cases hs : sizeB size = true
  · rw [if_pos hs]
    obtain ⟨n, rfl, n0, n1⟩ := size_cases size hs
    by_cases a : r < 0
    · rw [if_pos a, rotV_bad _ _ _ (by omega)]; rfl
    · rw [if_neg a]
      by_cases b : r < (n : Int)
      · obtain ⟨r, rfl⟩ := Int.eq_ofNat_of_zero_le (show 0 ≤ r by omega)
        rw [rotV_nat v r n hs (by omega), show decide ((r : Int) ≥ n) = false from decide_eq_false (by omega)]
        simp only [bits_Rotate.j1]
        rw [if_neg (by decide), ones_nat n n1]
        simp only [Option.bind_some, ← cast_pow]
        by_cases c : v < 2 ^ n
        · have h64 : v < 18446744073709551616 := by omega
          have hd : v / 2 ^ r ≤ v := Nat.div_le_self _ _
          have e64 : (2 : Nat) ^ 64 = 18446744073709551616 := by decide
          have hm : v * 2 ^ (n - r) % 2 ^ 64 < 2 ^ 64 := Nat.mod_lt _ (by decide)
          have ho : v / 2 ^ r ||| v * 2 ^ (n - r) % 2 ^ 64 < 2 ^ 64 := Nat.or_lt_two_pow (by omega) hm
          rw [if_neg (by omega), if_pos (by omega), wrap64_self ((n : Int) - r) (by omega) (by omega), if_pos (by omega), shr_nat _ _ _ (by simp [IntKind.bits]; omega),
            show (n : Int) - r = ((n - r : Nat) : Int) by omega, shl_nat _ _ _ (by simp [IntKind.bits]; omega), IntKind.wrap_u64,
            show (v : Int) / 2 ^ r = ((v / 2 ^ r : Nat) : Int) by simp, show (v : Int) * 2 ^ (n - r) % 18446744073709551616 = ((v * 2 ^ (n - r) % 2 ^ 64 : Nat) : Int) by rw [e64]; simp,
            u64_or_nat _ _ (Nat.lt_of_le_of_lt hd h64) (by rw [← e64]; exact hm)]
          rw [low_spec _ _ (Int.natCast_nonneg _) (nat_64 64 _ (Nat.le_refl _) ho), if_pos c]
          simp only [Option.bind_some, lowV]
          rw [if_neg (by omega)]
          by_cases d : 64 ≤ (n : Int)
          · obtain rfl : n = 64 := by omega
            have := rot_or v r 64 n1 (by omega) c
            rw [Nat.mod_eq_of_lt ho] at this
            rw [if_pos d, this]
          · rw [if_neg d, Int.toNat_natCast, ← cast_pow, ← rot_or v r n n1 (by omega) c]
            simp
        · rw [if_pos (by have := Nat.two_pow_pos n; omega), if_neg c]
      · rw [show decide (r ≥ (n : Int)) = true from decide_eq_true (by omega), rotV_bad _ _ _ (by omega)]; rfl
  · rw [if_neg hs, rotV_bad _ _ _ (fun h => hs h.1)]; rfl
end Go.Proofs.YtbklmlbmbnnjkaaDoor.M
