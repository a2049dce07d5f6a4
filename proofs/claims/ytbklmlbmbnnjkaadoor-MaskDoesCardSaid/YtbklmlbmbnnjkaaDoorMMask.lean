/- Masks as plain numbers (chapter 2): what is again and again, the sizes, rows of ones. -/
import Derived.Test.YtbklmlbmbnnjkaaDoorMRot
import Derived.Test.YtbklmlbmbnnjkaaDoorMPop
import Derived.Test.YtbklmlbmbnnjkaaDoorPx7
import Derived.Test.YtbklmlbmbnnjkaaDoorPx2
import Derived.Test.YtbklmlbmbnnjkaaDoorPx7
import Derived.Test.YtbklmlbmbnnjkaaDoorPx4
import Derived.Test.YtbklmlbmbnnjkaaDoorPx7
namespace Go.Proofs.YtbklmlbmbnnjkaaDoor.M
open Go.RowKit Go.Proofs.YtbklmlbmbnnjkaaDoor.P Go.Proofs.YtbklmlbmbnnjkaaDoorW.PrintWords Go.Proofs.YtbklmlbmbnnjkaaDoorW.PrintLast Go.Proofs.YtbklmlbmbnnjkaaDoorW.PrintMore

/-- A number of size bits, again and again in 64. -/
def rep (x size : Nat) : Nat := x * ((2 ^ 64 - 1) / (2 ^ size - 1))
/-- The sizes. -/
def Sz (s : Nat) : Prop := s = 2 ∨ s = 4 ∨ s = 8 ∨ s = 16 ∨ s = 32 ∨ s = 64
theorem Sz.le {s : Nat} (h : Sz s) : s ≤ 64 := by unfold Sz at h; omega
theorem Sz.pos {s : Nat} (h : Sz s) : 2 ≤ s := by unfold Sz at h; omega
theorem Sz.sizeB {s : Nat} (h : Sz s) : sizeB (s : Int) = true := by rcases h with rfl | rfl | rfl | rfl | rfl | rfl <;> decide
theorem Sz.dvd {s : Nat} (h : Sz s) : s ∣ 64 := by rcases h with rfl | rfl | rfl | rfl | rfl | rfl <;> decide

theorem bits_or_nat (a b : Nat) (ha : a < 2 ^ 64) (hb : b < 2 ^ 64) : Go.bits .or .u64 (a : Int) (b : Int) = ((a ||| b : Nat) : Int) := by
  have hx : a ||| b < 2 ^ 64 := Nat.or_lt_two_pow ha hb
  have h1 : (BitVec.ofInt 64 (a : Int)).toNat = a := by
    rw [BitVec.ofInt_natCast, BitVec.toNat_ofNat]; exact Nat.mod_eq_of_lt ha
  have h2 : (BitVec.ofInt 64 (b : Int)).toNat = b := by
    rw [BitVec.ofInt_natCast, BitVec.toNat_ofNat]; exact Nat.mod_eq_of_lt hb
  show IntKind.u64.wrap ((BitVec.ofInt 64 (a : Int) ||| BitVec.ofInt 64 (b : Int)).toNat : Int) = _
  rw [BitVec.toNat_or, h1, h2, IntKind.wrap_u64]
  have e : (2 : Nat) ^ 64 = 18446744073709551616 := by decide
  omega
theorem or_dbl (v s : Nat) (h : v < 2 ^ s) : v ||| v * 2 ^ s = v * (2 ^ s + 1) := by
  rw [Nat.or_comm, Nat.mul_comm v, ← Nat.two_pow_add_eq_or_of_lt h, Nat.mul_add, Nat.mul_one, Nat.mul_comm v]
theorem dbl_bit (v s j : Nat) (h : v < 2 ^ s) (hj : j < 2 * s) : (v * (2 ^ s + 1)).testBit j = v.testBit (j % s) := by
  rw [Nat.mul_add, Nat.mul_one, Nat.mul_comm v, Nat.testBit_two_pow_mul_add _ h]
  by_cases hjs : j < s
  · rw [if_pos hjs, Nat.mod_eq_of_lt hjs]
  · rw [if_neg hjs, Nat.mod_eq_sub_mod (by omega), Nat.mod_eq_of_lt (by omega)]
theorem dbl_lt (v s : Nat) (h : v < 2 ^ s) : v * (2 ^ s + 1) < 2 ^ (2 * s) := by
  have e : (2 : Nat) ^ (2 * s) = 2 ^ s * 2 ^ s := by rw [Nat.two_mul, Nat.pow_add]
  rw [e, Nat.mul_add, Nat.mul_one]
  have : (v + 1) * 2 ^ s ≤ 2 ^ s * 2 ^ s := Nat.mul_le_mul_right _ h
  rw [Nat.add_mul, Nat.one_mul] at this
  omega
theorem again_step (k v s : Nat) (h : v < 2 ^ s) (hs : 2 * s ≤ 64) : mask_again.l0 (k + 1) (v : Int) (s : Int) = mask_again.l0 k ((v * (2 ^ s + 1) : Nat) : Int) ((2 * s : Nat) : Int) := by
  have h1 := dbl_lt v s h
  have h2 : (2 : Nat) ^ (2 * s) ≤ 2 ^ 64 := Nat.pow_le_pow_right (by decide) hs
  have h3 : v * 2 ^ s ≤ v * (2 ^ s + 1) := Nat.mul_le_mul_left _ (by omega)
  have h4 : v * 1 ≤ v * (2 ^ s + 1) := Nat.mul_le_mul_left _ (by omega)
  have e64 : (2 : Nat) ^ 64 = 18446744073709551616 := by decide
  simp only [mask_again.l0]
  rw [if_pos (by omega), if_pos (by omega), shl_nat _ _ _ (by show s ≤ 64; omega), ← cast_pow, ← Int.natCast_mul, u64_self _ (by omega) (by omega), bits_or_nat _ _ (by omega) (by omega), or_dbl v s h, wrap64_self _ (by omega) (by omega)]
  congr 1
  omega
theorem again_end (k : Nat) (v : Int) : mask_again.l0 (k + 1) v 64 = some v := by
  simp only [mask_again.l0]
  rw [if_neg (by decide)]

theorem rep64 (v : Nat) : rep v 64 = v := by unfold rep; rw [show (2 ^ 64 - 1) / (2 ^ 64 - 1) = 1 by decide, Nat.mul_one]
theorem rep32 (v : Nat) : rep v 32 = rep (v * (2 ^ 32 + 1)) 64 := by unfold rep; rw [Nat.mul_assoc]
theorem rep16 (v : Nat) : rep v 16 = rep (v * (2 ^ 16 + 1)) 32 := by unfold rep; rw [Nat.mul_assoc]
theorem rep8 (v : Nat) : rep v 8 = rep (v * (2 ^ 8 + 1)) 16 := by unfold rep; rw [Nat.mul_assoc]
theorem rep4 (v : Nat) : rep v 4 = rep (v * (2 ^ 4 + 1)) 8 := by unfold rep; rw [Nat.mul_assoc]
theorem rep2 (v : Nat) : rep v 2 = rep (v * (2 ^ 2 + 1)) 4 := by unfold rep; rw [Nat.mul_assoc]

theorem ag64 (k v : Nat) (_ : v < 2 ^ 64) : mask_again.l0 (k + 1) (v : Int) 64 = some ((rep v 64 : Nat) : Int) := by rw [rep64]; exact again_end k v
theorem ag32 (k v : Nat) (h : v < 2 ^ 32) : mask_again.l0 (k + 2) (v : Int) 32 = some ((rep v 32 : Nat) : Int) := by rw [rep32]; exact (again_step (k + 1) v 32 h (by decide)).trans (ag64 k _ (dbl_lt v 32 h))
theorem ag16 (k v : Nat) (h : v < 2 ^ 16) : mask_again.l0 (k + 3) (v : Int) 16 = some ((rep v 16 : Nat) : Int) := by rw [rep16]; exact (again_step (k + 2) v 16 h (by decide)).trans (ag32 k _ (dbl_lt v 16 h))
theorem ag8 (k v : Nat) (h : v < 2 ^ 8) : mask_again.l0 (k + 4) (v : Int) 8 = some ((rep v 8 : Nat) : Int) := by rw [rep8]; exact (again_step (k + 3) v 8 h (by decide)).trans (ag16 k _ (dbl_lt v 8 h))
theorem ag4 (k v : Nat) (h : v < 2 ^ 4) : mask_again.l0 (k + 5) (v : Int) 4 = some ((rep v 4 : Nat) : Int) := by rw [rep4]; exact (again_step (k + 4) v 4 h (by decide)).trans (ag8 k _ (dbl_lt v 4 h))
theorem ag2 (k v : Nat) (h : v < 2 ^ 2) : mask_again.l0 (k + 6) (v : Int) 2 = some ((rep v 2 : Nat) : Int) := by rw [rep2]; exact (again_step (k + 5) v 2 h (by decide)).trans (ag4 k _ (dbl_lt v 2 h))
theorem again_spec (k v s : Nat) (hk : 6 ≤ k) (hs : Sz s) (h : v < 2 ^ s) : mask_again.f k (v : Int) (s : Int) = some ((rep v s : Nat) : Int) := by
  unfold mask_again.f
  rcases hs with rfl | rfl | rfl | rfl | rfl | rfl
  · obtain ⟨m, rfl⟩ : ∃ m, k = m + 6 := ⟨k - 6, by omega⟩; exact ag2 m v h
  · obtain ⟨m, rfl⟩ : ∃ m, k = m + 5 := ⟨k - 5, by omega⟩; exact ag4 m v h
  · obtain ⟨m, rfl⟩ : ∃ m, k = m + 4 := ⟨k - 4, by omega⟩; exact ag8 m v h
  · obtain ⟨m, rfl⟩ : ∃ m, k = m + 3 := ⟨k - 3, by omega⟩; exact ag16 m v h
  · obtain ⟨m, rfl⟩ : ∃ m, k = m + 2 := ⟨k - 2, by omega⟩; exact ag32 m v h
  · obtain ⟨m, rfl⟩ : ∃ m, k = m + 1 := ⟨k - 1, by omega⟩; exact ag64 m v h

theorem rep_bit64 (v i : Nat) (hi : i < 64) : (rep v 64).testBit i = v.testBit (i % 64) := by rw [rep64, Nat.mod_eq_of_lt hi]
theorem rep_bit_step (v s i : Nat) (h : v < 2 ^ s) (he : rep v s = rep (v * (2 ^ s + 1)) (2 * s)) (hs : 0 < s) (hb : (rep (v * (2 ^ s + 1)) (2 * s)).testBit i = (v * (2 ^ s + 1)).testBit (i % (2 * s))) : (rep v s).testBit i = v.testBit (i % s) := by
  rw [he, hb, dbl_bit v s _ h (Nat.mod_lt _ (by omega)), Nat.mod_mod_of_dvd _ ⟨2, Nat.mul_comm 2 s⟩]
theorem rep_bit32 (v i : Nat) (h : v < 2 ^ 32) (hi : i < 64) : (rep v 32).testBit i = v.testBit (i % 32) := rep_bit_step v 32 i h (rep32 v) (by decide) (rep_bit64 _ i hi)
theorem rep_bit16 (v i : Nat) (h : v < 2 ^ 16) (hi : i < 64) : (rep v 16).testBit i = v.testBit (i % 16) := rep_bit_step v 16 i h (rep16 v) (by decide) (rep_bit32 _ i (dbl_lt v 16 h) hi)
theorem rep_bit8 (v i : Nat) (h : v < 2 ^ 8) (hi : i < 64) : (rep v 8).testBit i = v.testBit (i % 8) := rep_bit_step v 8 i h (rep8 v) (by decide) (rep_bit16 _ i (dbl_lt v 8 h) hi)
theorem rep_bit4 (v i : Nat) (h : v < 2 ^ 4) (hi : i < 64) : (rep v 4).testBit i = v.testBit (i % 4) := rep_bit_step v 4 i h (rep4 v) (by decide) (rep_bit8 _ i (dbl_lt v 4 h) hi)
theorem rep_bit2 (v i : Nat) (h : v < 2 ^ 2) (hi : i < 64) : (rep v 2).testBit i = v.testBit (i % 2) := rep_bit_step v 2 i h (rep2 v) (by decide) (rep_bit4 _ i (dbl_lt v 2 h) hi)
/-- Bit i of what is again and again. -/
theorem rep_bit (v s i : Nat) (hs : Sz s) (h : v < 2 ^ s) (hi : i < 64) : (rep v s).testBit i = v.testBit (i % s) := by
  rcases hs with rfl | rfl | rfl | rfl | rfl | rfl
  · exact rep_bit2 v i h hi
  · exact rep_bit4 v i h hi
  · exact rep_bit8 v i h hi
  · exact rep_bit16 v i h hi
  · exact rep_bit32 v i h hi
  · exact rep_bit64 v i hi
theorem rep_lt (v s : Nat) (hs : Sz s) (h : v < 2 ^ s) : rep v s < 2 ^ 64 := by
  have h64 : ∀ v, v < 2 ^ 64 → rep v 64 < 2 ^ 64 := fun v h => by rw [rep64]; exact h
  have h32 : ∀ v, v < 2 ^ 32 → rep v 32 < 2 ^ 64 := fun v h => by rw [rep32]; exact h64 _ (dbl_lt v 32 h)
  have h16 : ∀ v, v < 2 ^ 16 → rep v 16 < 2 ^ 64 := fun v h => by rw [rep16]; exact h32 _ (dbl_lt v 16 h)
  have h8 : ∀ v, v < 2 ^ 8 → rep v 8 < 2 ^ 64 := fun v h => by rw [rep8]; exact h16 _ (dbl_lt v 8 h)
  have h4 : ∀ v, v < 2 ^ 4 → rep v 4 < 2 ^ 64 := fun v h => by rw [rep4]; exact h8 _ (dbl_lt v 4 h)
  have h2 : ∀ v, v < 2 ^ 2 → rep v 2 < 2 ^ 64 := fun v h => by rw [rep2]; exact h4 _ (dbl_lt v 2 h)
  rcases hs with rfl | rfl | rfl | rfl | rfl | rfl
  · exact h2 v h
  · exact h4 v h
  · exact h8 v h
  · exact h16 v h
  · exact h32 v h
  · exact h64 v h

/-- The document's again. -/
theorem ref_again_loop (v s : Nat) (hs : Sz s) (hv : v < 2 ^ s) : ∀ (d i k : Nat), i + d = 64 → 80 + d ≤ k →
    cleatref02_again.l0 k (v : Int) (s : Int) ((rep v s % 2 ^ i : Nat) : Int) (i : Int) = some ((rep v s : Nat) : Int) := by
  have hv64 : v < 2 ^ 64 := Nat.lt_of_lt_of_le hv (Nat.pow_le_pow_right (by decide) hs.le)
  have hR := rep_lt v s hs hv
  have hsp := hs.pos
  have hsl := hs.le
  intro d
  induction d with
  | zero =>
    intro i k hi hk
    obtain ⟨k, rfl⟩ : ∃ m, k = m + 1 := ⟨k - 1, by omega⟩
    obtain rfl : i = 64 := by omega
    simp only [cleatref02_again.l0]
    rw [if_neg (by decide), Nat.mod_eq_of_lt hR]
  | succ d ih =>
    intro i k hi hk
    obtain ⟨k, rfl⟩ : ∃ m, k = m + 1 := ⟨k - 1, by omega⟩
    have hn := ih (i + 1) k (by omega) (by omega)
    have hp := Nat.pow_le_pow_right (show 0 < 2 by decide) (show i ≤ 63 by omega)
    have hm : rep v s % 2 ^ i < 2 ^ i := Nat.mod_lt _ (Nat.two_pow_pos i)
    have e63 : (2 : Nat) ^ 63 = 9223372036854775808 := by decide
    simp only [cleatref02_again.l0]
    rw [if_pos (by omega), if_neg (by omega), wrap64_self ((i : Int) + 1) (by omega) (by omega),
      show Int.tmod (i : Int) (s : Int) = ((i % s : Nat) : Int) by rw [Int.tmod_eq_emod_of_nonneg (by omega)]; simp,
      bit_testBit _ _ _ (by omega) (by have := Nat.mod_lt i (show s > 0 by omega); omega) hv64, ← rep_bit v s i hs hv (by omega)]
    simp only [Option.bind_some]
    rw [mod_succ] at hn
    cases hb : (rep v s).testBit i with
    | true =>
      rw [hb] at hn
      rw [if_pos rfl, power_nat _ _ (by omega) (by omega)]
      simp only [Option.bind_some]
      rw [u64_self _ (by have := cast_pow i; omega) (by have := cast_pow i; omega)]
      rw [if_pos rfl] at hn
      have e : ((rep v s % 2 ^ i : Nat) : Int) + 2 ^ i = ((rep v s % 2 ^ i + 2 ^ i : Nat) : Int) := by rw [Int.natCast_add, cast_pow]
      rw [e, show (i : Int) + 1 = ((i + 1 : Nat) : Int) by omega]
      exact hn
    | false =>
      rw [hb] at hn
      rw [if_neg (by decide)]
      rw [if_neg (by decide), Nat.add_zero] at hn
      rw [show (i : Int) + 1 = ((i + 1 : Nat) : Int) by omega]
      exact hn
theorem ref_again_spec (k v s : Nat) (hk : 150 ≤ k) (hs : Sz s) (hv : v < 2 ^ s) : cleatref02_again.f k (v : Int) (s : Int) = some ((rep v s : Nat) : Int) := by
  have := ref_again_loop v s hs hv 64 0 k (by omega) (by omega)
  rw [Nat.pow_zero, Nat.mod_one] at this
  exact this
end Go.Proofs.YtbklmlbmbnnjkaaDoor.M
