/- Lemmas on masks (chapter 2), in one text. -/
import Derived.Test.YtkpkkjbigndnoaaDoorU
import Derived.Laws.BitsAllLaws
import Derived.RowKit
import Derived.Test.YtkpkkjbigndnoaaDoorPx8
import Derived.Test.YtkpkkjbigndnoaaDoorPx8
import Derived.Test.YtkpkkjbigndnoaaDoorPx11
/- Plain laws on bits of whole numbers: no program in sight. -/
namespace Go.Proofs.YtkpkkjbigndnoaaDoor.M
open Go.RowKit

end Go.Proofs.YtkpkkjbigndnoaaDoor.M
/- Plain lemmas on whole numbers: bounds, wraps, shifts, powers of two. -/
namespace Go.Proofs.YtkpkkjbigndnoaaDoor.M
open Go.RowKit Go.Proofs.YtkpkkjbigndnoaaDoorW.PrintWords Go.Proofs.YtkpkkjbigndnoaaDoorW.PrintLast Go.Proofs.YtkpkkjbigndnoaaDoorW.PrintMore

theorem pow_pos (n : Nat) : (0 : Int) < 2 ^ n := Int.pow_pos (by decide)
theorem pow_split (a b : Nat) : (2 : Int) ^ (a + b) = 2 ^ a * 2 ^ b := Int.pow_add 2 a b
theorem pow_le (a b : Nat) (h : a ≤ b) : (2 : Int) ^ a ≤ 2 ^ b := by
  obtain ⟨c, rfl⟩ := Nat.exists_eq_add_of_le h
  rw [pow_split]
  have h1 := pow_pos a
  have h2 := pow_pos c
  have := Int.mul_le_mul_of_nonneg_left (show (1 : Int) ≤ 2 ^ c by omega) (Int.le_of_lt h1)
  simpa using this

theorem int_cases (n : Int) (lo hi : Nat) (h0 : lo ≤ n) (h1 : n ≤ hi) : ∃ m : Nat, n = m ∧ lo ≤ m ∧ m ≤ hi := ⟨n.toNat, by omega, by omega, by omega⟩
theorem wrap64_self (x : Int) (h0 : -9223372036854775808 ≤ x) (h1 : x < 9223372036854775808) : wrap64 x = x := by unfold wrap64; omega
theorem u64_self (x : Int) (h0 : 0 ≤ x) (h1 : x < 18446744073709551616) : IntKind.u64.wrap x = x := by rw [IntKind.wrap_u64]; omega
theorem shl_nat (k : IntKind) (x : Int) (n : Nat) (h : n ≤ k.bits) : shl k x (n : Int) = k.wrap (x * 2 ^ n) := by unfold shl; rw [Int.toNat_natCast, Nat.min_eq_left h]
theorem shr_nat (k : IntKind) (x : Int) (n : Nat) (h : n ≤ k.bits) : shr k x (n : Int) = x / 2 ^ n := by unfold shr; rw [Int.toNat_natCast, Nat.min_eq_left h]

theorem pow_64 (m : Nat) (h : m ≤ 63) : (2 : Int) ^ m * 2 ^ (63 - m) = 9223372036854775808 := by
  rw [← pow_split, show m + (63 - m) = 63 by omega]; decide
theorem pow_small (m : Nat) (h : m ≤ 32) : (2 : Int) ^ m ≤ 4294967296 := pow_le m 32 h
theorem toNat_pow (n : Nat) : ((2 : Int) ^ n - 1).toNat = 2 ^ n - 1 := by
  have : ((2 ^ n : Nat) : Int) = (2 : Int) ^ n := by simp
  have := Nat.two_pow_pos n
  omega
theorem and_ones_u32 (a : Int) (n : Nat) (h : n ≤ 32) (a0 : 0 ≤ a) (a1 : a < 4294967296) : bits .and .u32 a (2 ^ n - 1) = a % 2 ^ n := by
  have hp := pow_pos n
  have hs := pow_small n h
  rw [u32_and a _ a0 a1 (by omega) (by omega), toNat_pow, Nat.and_two_pow_sub_one_eq_mod]
  obtain ⟨m, rfl⟩ := Int.eq_ofNat_of_zero_le a0
  simp
theorem pow_dvd (a b : Nat) (h : a ≤ b) : (2 : Int) ^ a ∣ 2 ^ b := by
  obtain ⟨c, rfl⟩ := Nat.exists_eq_add_of_le h
  exact ⟨2 ^ c, pow_split a c⟩
theorem emod_pow_pow (x : Int) (a b : Nat) (h : a ≤ b) : x % 2 ^ b % 2 ^ a = x % 2 ^ a := Int.emod_emod_of_dvd _ (pow_dvd a b h)

theorem ediv_zero_iff (s H : Int) (h : 0 < H) : s / H = 0 ↔ 0 ≤ s ∧ s < H := by
  constructor
  · intro e
    have h1 := Int.mul_ediv_add_emod s H
    have h2 := Int.emod_nonneg s (show H ≠ 0 by omega)
    have h3 := Int.emod_lt_of_pos s h
    rw [e, Int.mul_zero] at h1
    omega
  · intro ⟨a, b⟩
    exact Int.ediv_eq_zero_of_lt a b
theorem ediv_neg_iff (s H : Int) (h : 0 < H) : s / H = -1 ↔ -H ≤ s ∧ s < 0 := by
  have h0 := ediv_zero_iff (s + H) H h
  have h1 : (s + H) / H = s / H + 1 := by
    have := Int.add_mul_ediv_right s 1 (show H ≠ 0 by omega)
    rw [Int.one_mul] at this
    exact this
  rw [h1] at h0
  omega
end Go.Proofs.YtkpkkjbigndnoaaDoor.M
/- What bits.Low, bits.ones, the document's Power, Bit, Small, Low tell, as plain numbers; wraps, shifts and powers of two. -/
namespace Go.Proofs.YtkpkkjbigndnoaaDoor.M
open Go.RowKit Go.Proofs.YtkpkkjbigndnoaaDoor.P Go.Proofs.YtkpkkjbigndnoaaDoorW.PrintWords Go.Proofs.YtkpkkjbigndnoaaDoorW.PrintLast Go.Proofs.YtkpkkjbigndnoaaDoorW.PrintMore

theorem ones_fin : ∀ n : Fin 65, bits_ones.f (n.val : Int) = some ((2 : Int) ^ n.val - 1) := by decide +kernel
theorem ones_nat (n : Nat) (h : n ≤ 64) : bits_ones.f (n : Int) = some ((2 : Int) ^ n - 1) := ones_fin ⟨n, by omega⟩
end Go.Proofs.YtkpkkjbigndnoaaDoor.M
/- What the functions of package bits and the document's answers tell, as plain numbers (chapter 1): for numbers of their kinds, and enough rounds. -/
namespace Go.Proofs.YtkpkkjbigndnoaaDoor.M
open Go.RowKit Go.Proofs.YtkpkkjbigndnoaaDoor.P Go.Proofs.YtkpkkjbigndnoaaDoorW.PrintWords Go.Proofs.YtkpkkjbigndnoaaDoorW.PrintLast Go.Proofs.YtkpkkjbigndnoaaDoorW.PrintMore

def sgnV (v n : Int) : Int × Int := if 1 ≤ n ∧ n ≤ 32 then (if v < 2 ^ n.toNat then (if v < 2 ^ (n.toNat - 1) then v else v - 2 ^ n.toNat, 0) else (0, 4)) else (0, 1)
theorem sgnV_bad (v n : Int) (h : ¬ (1 ≤ n ∧ n ≤ 32)) : sgnV v n = (0, 1) := by unfold sgnV; rw [if_neg h]
theorem sgnV_nat (v : Int) (m : Nat) (h : m ≤ 31) : sgnV v ((m + 1 : Nat) : Int) = if v < 2 ^ (m + 1) then (if v < 2 ^ m then v else v - 2 ^ (m + 1), 0) else (0, 4) := by
  unfold sgnV; rw [if_pos (by omega)]; simp only [Int.toNat_natCast, Nat.add_sub_cancel]
theorem signed_spec (k : Nat) (v n : Int) (hk : 100 ≤ k) (v0 : 0 ≤ v) (v1 : v < 4294967296) (n0 : -9223372036854775808 ≤ n) (n1 : n < 9223372036854775808) : bits_Signed.f k v n = some (sgnV v n) := by
  obtain ⟨k, rfl⟩ : ∃ m, k = m + 1 := ⟨k - 1, by omega⟩
  unfold bits_Signed.f
  by_cases c : 1 ≤ n ∧ n ≤ 32
  · obtain ⟨m1, rfl, d1, d2⟩ := int_cases n 1 32 c.1 c.2
    obtain ⟨m, rfl⟩ : ∃ m, m1 = m + 1 := ⟨m1 - 1, by omega⟩
    rw [if_neg (by omega), sgnV_nat v m (by omega)]
    simp only [bits_Signed.j0]
    rw [if_neg (by simp; omega), ones_nat _ (by omega), wrap64_self (64 - _) (by omega) (by omega), u64_self v v0 (by omega), wrap64_self v (by omega) (by omega)]
    simp only [Option.bind_some]
    rw [show (64 : Int) - ((m + 1 : Nat) : Int) = ((63 - m : Nat) : Int) by omega, shl_nat _ _ _ (by simp [IntKind.bits]; omega), shr_nat _ _ _ (by simp [IntKind.bits]; omega), if_pos (Int.natCast_nonneg _), IntKind.wrap_i64]
    by_cases a : v < 2 ^ (m + 1)
    · rw [if_neg (by omega), if_pos a]
      have hq := pow_pos (63 - m)
      have hm := pow_pos m
      have h64 := pow_64 m (by omega)
      have h2 : (2 : Int) ^ (m + 1) = 2 ^ m * 2 := by rw [pow_split]; rfl
      generalize (2 : Int) ^ (63 - m) = Q at *
      rw [h2] at a ⊢
      generalize (2 : Int) ^ m = H at *
      by_cases b : v < H
      · rw [if_pos b]
        have h3 : v * Q < H * Q := Int.mul_lt_mul_of_pos_right b hq
        have h4 : 0 ≤ v * Q := Int.mul_nonneg v0 (by omega)
        rw [show (v * Q + 9223372036854775808) % 18446744073709551616 - 9223372036854775808 = v * Q by omega, Int.mul_ediv_cancel _ (by omega)]
      · rw [if_neg b]
        have h3 : v * Q < H * 2 * Q := Int.mul_lt_mul_of_pos_right a hq
        have h4 : H * Q ≤ v * Q := Int.mul_le_mul_of_nonneg_right (by omega) (by omega)
        have h5 : (v - H * 2) * Q = v * Q - 18446744073709551616 := by rw [Int.sub_mul, Int.mul_assoc, Int.mul_comm 2, ← Int.mul_assoc, h64]; omega
        have h6 : H * 2 * Q = 18446744073709551616 := by rw [Int.mul_assoc, Int.mul_comm 2, ← Int.mul_assoc, h64]; rfl
        rw [show (v * Q + 9223372036854775808) % 18446744073709551616 - 9223372036854775808 = (v - H * 2) * Q by omega, Int.mul_ediv_cancel _ (by omega)]
    · rw [if_pos (by omega), if_neg a]
  · rw [sgnV_bad v n c]
    by_cases c1 : n < 1
    · rw [if_pos c1]; rfl
    · rw [if_neg c1, show decide (n > 32) = true from decide_eq_true (by omega)]; rfl
def packV (s n : Int) : Int × Int := if 1 ≤ n ∧ n ≤ 32 then (if -(2 ^ (n.toNat - 1)) ≤ s ∧ s < 2 ^ (n.toNat - 1) then (s % 2 ^ n.toNat, 0) else (0, 4)) else (0, 1)
theorem packV_bad (v n : Int) (h : ¬ (1 ≤ n ∧ n ≤ 32)) : packV v n = (0, 1) := by unfold packV; rw [if_neg h]
theorem packV_nat (s : Int) (m : Nat) (h : m ≤ 31) : packV s ((m + 1 : Nat) : Int) = if -(2 ^ m) ≤ s ∧ s < 2 ^ m then (s % 2 ^ (m + 1), 0) else (0, 4) := by
  unfold packV; rw [if_pos (by omega)]; simp only [Int.toNat_natCast, Nat.add_sub_cancel]
theorem pack_spec (k : Nat) (s n : Int) (hk : 100 ≤ k) (s0 : -9223372036854775808 ≤ s) (s1 : s < 9223372036854775808) (n0 : -9223372036854775808 ≤ n) (n1 : n < 9223372036854775808) : bits_Pack.f k s n = some (packV s n) := by
  obtain ⟨k, rfl⟩ : ∃ m, k = m + 1 := ⟨k - 1, by omega⟩
  unfold bits_Pack.f
  by_cases c : 1 ≤ n ∧ n ≤ 32
  · obtain ⟨m1, rfl, d1, d2⟩ := int_cases n 1 32 c.1 c.2
    obtain ⟨m, rfl⟩ : ∃ m, m1 = m + 1 := ⟨m1 - 1, by omega⟩
    have hm := pow_pos m
    have hs := pow_small m (by omega)
    have hs2 := pow_small (m + 1) (by omega)
    have hp2 := pow_pos (m + 1)
    rw [if_neg (by omega), packV_nat s m (by omega)]
    simp only [bits_Pack.j0]
    rw [if_neg (by simp; omega), wrap64_self (((m + 1 : Nat) : Int) - 1) (by omega) (by omega), show (((m + 1 : Nat) : Int) - 1) = (m : Int) by omega,
      if_pos (Int.natCast_nonneg _), shr_nat _ _ _ (by simp [IntKind.bits]; omega), ones_nat _ (by omega)]
    simp only [Option.bind_some]
    rw [Int.emod_eq_of_lt (show (0 : Int) ≤ 2 ^ (m + 1) - 1 by omega) (by omega), and_ones_u32 _ _ (by omega) (Int.emod_nonneg _ (by decide)) (Int.emod_lt_of_pos _ (by decide)),
      show (4294967296 : Int) = 2 ^ 32 from rfl, emod_pow_pow _ _ _ (by omega)]
    have e1 := ediv_zero_iff s (2 ^ m) hm
    have e2 := ediv_neg_iff s (2 ^ m) hm
    by_cases a : s / 2 ^ m = 0
    · rw [if_pos a, if_pos (by omega)]
    · rw [if_neg a]
      by_cases b : s / 2 ^ m = -1
      · rw [if_pos b, if_pos (by omega)]
      · rw [if_neg b, if_neg (by omega)]
  · rw [packV_bad s n c]
    by_cases c1 : n < 1
    · rw [if_pos c1]; rfl
    · rw [if_neg c1, show decide (n > 32) = true from decide_eq_true (by omega)]; rfl
end Go.Proofs.YtkpkkjbigndnoaaDoor.M
/- Rotations: what bits.Rotate and the document's answer tell, as plain numbers (chapter 1). -/
namespace Go.Proofs.YtkpkkjbigndnoaaDoor.M
open Go.RowKit Go.Proofs.YtkpkkjbigndnoaaDoor.P Go.Proofs.YtkpkkjbigndnoaaDoorW.PrintWords Go.Proofs.YtkpkkjbigndnoaaDoorW.PrintLast Go.Proofs.YtkpkkjbigndnoaaDoorW.PrintMore

theorem cast_pow (n : Nat) : ((2 ^ n : Nat) : Int) = (2 : Int) ^ n := by simp
end Go.Proofs.YtkpkkjbigndnoaaDoor.M
/- Shifts: what flag.Shift and the document's answer tell, as plain numbers (chapter 3). -/
namespace Go.Proofs.YtkpkkjbigndnoaaDoor.M
open Go.RowKit Go.Proofs.YtkpkkjbigndnoaaDoor.P Go.Proofs.YtkpkkjbigndnoaaDoorW.PrintWords Go.Proofs.YtkpkkjbigndnoaaDoorW.PrintLast Go.Proofs.YtkpkkjbigndnoaaDoorW.PrintMore

theorem pow64 : (2 : Nat) ^ 64 = 18446744073709551616 := by decide
end Go.Proofs.YtkpkkjbigndnoaaDoor.M
/- Fields and words: what bits.Field, bits.Word and the document's answers tell, as plain numbers (chapter 1). -/
namespace Go.Proofs.YtkpkkjbigndnoaaDoor.M
open Go.RowKit Go.Proofs.YtkpkkjbigndnoaaDoor.P Go.Proofs.YtkpkkjbigndnoaaDoorW.PrintWords Go.Proofs.YtkpkkjbigndnoaaDoorW.PrintLast Go.Proofs.YtkpkkjbigndnoaaDoorW.PrintMore

abbrev Fld := S60
abbrev rdF (L : List Fld) (i : Int) : Fld := rd_T60 L i
theorem rdF_nat (L : List Fld) (i : Nat) (h : i < L.length) : rdF L (i : Int) = L[i] := by
  unfold rdF rd_T60; rw [Int.toNat_natCast]; simp [List.getD, h]

/-- A right field. -/
def okI (a n : Int) : Bool := decide (0 ≤ a ∧ a ≤ 31 ∧ 1 ≤ n ∧ n ≤ 32 - a)
theorem right_spec (a n : Int) : bits_right.f a n = some (okI a n) := by
  unfold bits_right.f okI
  by_cases h1 : a ≥ 0
  · rw [if_pos h1]
    by_cases h2 : a < 32
    · rw [if_pos h2]
      by_cases h3 : n ≥ 1
      · rw [if_pos h3, wrap64_self _ (by omega) (by omega)]; congr 1; rw [decide_eq_decide]; omega
      · rw [if_neg h3, decide_eq_false (by omega)]
    · rw [if_neg h2, decide_eq_false (by omega)]
  · rw [if_neg h1, decide_eq_false (by omega)]
theorem okI_nat (a n : Int) (h : okI a n = true) : ∃ A M : Nat, a = A ∧ n = M ∧ A ≤ 31 ∧ 1 ≤ M ∧ A + M ≤ 32 := by
  have := of_decide_eq_true h
  exact ⟨a.toNat, n.toNat, by omega, by omega, by omega, by omega, by omega⟩

/-- A field's bits, and the error. -/
def fieldV (w a n : Int) : Int × Int := if okI a n = true then (w / 2 ^ a.toNat % 2 ^ n.toNat, 0) else (0, 1)
theorem fieldV_nat (w : Int) (A M : Nat) (h : okI A M = true) : fieldV w A M = (w / 2 ^ A % 2 ^ M, 0) := by unfold fieldV; rw [if_pos h]; simp only [Int.toNat_natCast]
theorem div_in (w : Int) (A : Nat) (w0 : 0 ≤ w) : 0 ≤ w / 2 ^ A ∧ w / 2 ^ A ≤ w := ⟨Int.ediv_nonneg w0 (Int.le_of_lt (pow_pos A)), Int.ediv_le_self _ w0⟩
theorem field_spec (w a n : Int) (w0 : 0 ≤ w) (w1 : w < 4294967296) : bits_Field.f w a n = some (fieldV w a n) := by
  unfold bits_Field.f
  rw [right_spec, Option.bind_some]
  by_cases h : okI a n = true
  · obtain ⟨A, M, rfl, rfl, h1, h2, h3⟩ := okI_nat a n h
    have hp := pow_small M (by omega)
    have hp0 := pow_pos M
    obtain ⟨d0, d1⟩ := div_in w A w0
    rw [if_pos h, if_pos (by omega), ones_nat M (by omega), Option.bind_some, shr_nat _ _ _ (by simp [IntKind.bits]; omega), Int.emod_eq_of_lt (show (0 : Int) ≤ 2 ^ M - 1 by omega) (by omega), and_ones_u32 _ M (by omega) d0 (by omega), fieldV_nat w A M h]
  · rw [if_neg h]; unfold fieldV; rw [if_neg h]
/-- A field's places in a word, and its bits there. -/
def mskN (f : Fld) : Nat := (2 ^ f.f1.toNat - 1) * 2 ^ f.f0.toNat
def bitsN (f : Fld) : Nat := f.f2.toNat * 2 ^ f.f0.toNat
def okF (f : Fld) : Bool := okI f.f0 f.f1
def bigF (f : Fld) : Bool := decide (2 ^ f.f1.toNat ≤ f.f2.toNat)
def scan : List Fld → Nat → Option Nat
  | [], t => some t
  | f :: l, t => if okF f = true then (if t &&& mskN f = 0 then scan l (t ||| mskN f) else none) else none
def orW : List Fld → Nat → Nat
  | [], w => w
  | f :: l, w => orW l (w ||| bitsN f)
def sumW : List Fld → Nat
  | [] => 0
  | f :: l => bitsN f + sumW l
def wordV (L : List Fld) : Int × Int := match scan L 0 with
  | none => (0, 1)
  | some _ => if L.any bigF then (0, 4) else (((orW L 0 : Nat) : Int), 0)
/-- A field as the arguments' reading leaves it: its number is one of 32 bits. -/
def good (f : Fld) : Prop := 0 ≤ f.f2 ∧ f.f2 < 4294967296

theorem msk_bit (f : Fld) (i : Nat) : (mskN f).testBit i = decide (f.f0.toNat ≤ i ∧ i < f.f0.toNat + f.f1.toNat) := by
  unfold mskN
  rw [Nat.testBit_mul_two_pow, Nat.testBit_two_pow_sub_one]
  rw [Bool.eq_iff_iff]; simp; omega
theorem msk_lt (f : Fld) (h : okF f = true) : mskN f < 2 ^ 32 := by
  obtain ⟨A, M, h0, h1, h2, h3, h4⟩ := okI_nat _ _ h
  refine Nat.lt_pow_two_of_testBit _ fun i hi => ?_
  rw [msk_bit, decide_eq_false]; omega
theorem bits_bit (f : Fld) (i : Nat) : (bitsN f).testBit i = (decide (f.f0.toNat ≤ i) && f.f2.toNat.testBit (i - f.f0.toNat)) := by
  unfold bitsN; rw [Nat.testBit_mul_two_pow]
theorem bits_sub (f : Fld) (hb : bigF f = false) (i : Nat) (hi : (bitsN f).testBit i = true) : (mskN f).testBit i = true := by
  rw [bits_bit f] at hi
  rw [msk_bit]
  simp only [Bool.and_eq_true, decide_eq_true_eq] at hi ⊢
  refine ⟨hi.1, ?_⟩
  have hV : f.f2.toNat < 2 ^ f.f1.toNat := by have := of_decide_eq_false hb; omega
  apply Classical.byContradiction
  intro c
  have := Nat.testBit_lt_two_pow (Nat.lt_of_lt_of_le hV (Nat.pow_le_pow_right (show 0 < 2 by decide) (show f.f1.toNat ≤ i - f.f0.toNat by omega)))
  rw [this] at hi
  exact absurd hi.2 (by decide)
theorem and_zero_bits (x y : Nat) (h : x &&& y = 0) (i : Nat) : ¬ (x.testBit i = true ∧ y.testBit i = true) := by
  intro ⟨a, b⟩
  have : (x &&& y).testBit i = true := by rw [Nat.testBit_and, a, b]; rfl
  rw [h, Nat.zero_testBit] at this
  exact absurd this (by decide)
theorem or_add (x y : Nat) (hx : x < 2 ^ 64) (hy : y < 2 ^ 64) (h : ∀ i, ¬ (x.testBit i = true ∧ y.testBit i = true)) (hs : x + y < 2 ^ 64) : x ||| y = x + y := by
  have e := BitVec.add_eq_or_of_and_eq_zero (BitVec.ofNat 64 x) (BitVec.ofNat 64 y) (by
    apply BitVec.eq_of_toNat_eq
    rw [BitVec.toNat_and, BitVec.toNat_ofNat, BitVec.toNat_ofNat, Nat.mod_eq_of_lt hx, Nat.mod_eq_of_lt hy]
    apply Nat.eq_of_testBit_eq
    intro i
    have := h i
    rw [Nat.testBit_and]
    cases hx : x.testBit i <;> cases hy : y.testBit i <;> simp_all)
  have e2 := congrArg BitVec.toNat e
  rw [BitVec.toNat_add, BitVec.toNat_or, BitVec.toNat_ofNat, BitVec.toNat_ofNat, Nat.mod_eq_of_lt hx, Nat.mod_eq_of_lt hy, Nat.mod_eq_of_lt hs] at e2
  exact e2.symm

/-- What the fields make: their bits added, each field reading as it was put, the rest as it was. -/
theorem word_fold : ∀ (L : List Fld) (t t' w : Nat), scan L t = some t' → L.any bigF = false → t < 2 ^ 32 → w < 2 ^ 32 → (∀ i, w.testBit i = true → t.testBit i = true) →
    orW L w = w + sumW L ∧ orW L w < 2 ^ 32 ∧ (∀ i, t.testBit i = true → (orW L w).testBit i = w.testBit i) ∧
    (∀ f, f ∈ L → ∀ i, i < f.f1.toNat → (orW L w).testBit (f.f0.toNat + i) = f.f2.toNat.testBit i)
  | [], t, t', w, _, _, ht, hw, _ => ⟨rfl, hw, fun _ _ => rfl, fun f hf => absurd hf (by simp)⟩
  | g :: l, t, t', w, hs, hb, ht, hw, hsub => by
    unfold scan at hs
    simp only [List.any_cons, Bool.or_eq_false_iff] at hb
    by_cases h1 : okF g = true
    · rw [if_pos h1] at hs
      by_cases h2 : t &&& mskN g = 0
      · rw [if_pos h2] at hs
        have hm := msk_lt g h1
        have hbl : bitsN g < 2 ^ 32 := by
          refine Nat.lt_pow_two_of_testBit _ fun i hi => ?_
          cases c : (bitsN g).testBit i with
          | false => rfl
          | true =>
            have := bits_sub g hb.1 i c
            rw [Nat.testBit_lt_two_pow (Nat.lt_of_lt_of_le hm (Nat.pow_le_pow_right (by decide) hi))] at this
            exact absurd this (by decide)
        have hdis : ∀ i, ¬ (w.testBit i = true ∧ (bitsN g).testBit i = true) := fun i ⟨a, b⟩ => and_zero_bits t _ h2 i ⟨hsub i a, bits_sub g hb.1 i b⟩
        have e64 := pow64
        have e32 : (2 : Nat) ^ 32 = 4294967296 := by decide
        have hor : w ||| bitsN g = w + bitsN g := or_add w _ (by omega) (by omega) hdis (by omega)
        have hw2 : w ||| bitsN g < 2 ^ 32 := Nat.or_lt_two_pow hw hbl
        obtain ⟨i1, i2, i3, i4⟩ := word_fold l (t ||| mskN g) t' (w ||| bitsN g) hs hb.2 (Nat.or_lt_two_pow ht hm) hw2 (by
          intro i hi
          rw [Nat.testBit_or] at hi ⊢
          cases a : w.testBit i with
          | true => rw [hsub i a]; rfl
          | false => rw [a, Bool.false_or] at hi; rw [bits_sub g hb.1 i hi, Bool.or_true])
        have e : orW (g :: l) w = orW l (w ||| bitsN g) := rfl
        rw [e]
        refine ⟨by rw [i1, hor]; unfold sumW; rw [Nat.add_assoc]; congr 1; cases l <;> rfl, i2, ?_, ?_⟩
        · intro i hi
          rw [i3 i (by rw [Nat.testBit_or, hi]; rfl), Nat.testBit_or]
          cases c : (bitsN g).testBit i with
          | false => rw [Bool.or_false]
          | true => exact absurd ⟨hi, bits_sub g hb.1 i c⟩ (and_zero_bits t _ h2 i)
        · intro f hf i hi
          rcases List.mem_cons.1 hf with rfl | hf
          · have hmi : (mskN f).testBit (f.f0.toNat + i) = true := by rw [msk_bit, decide_eq_true]; omega
            rw [i3 _ (by rw [Nat.testBit_or, hmi, Bool.or_true]), Nat.testBit_or]
            have hw0 : w.testBit (f.f0.toNat + i) = false := by
              cases c : w.testBit (f.f0.toNat + i) with
              | false => rfl
              | true => exact absurd ⟨hsub _ c, hmi⟩ (and_zero_bits t _ h2 _)
            rw [hw0, Bool.false_or, bits_bit f, decide_eq_true (by omega), Bool.true_and, Nat.add_sub_cancel_left]
          · exact i4 f hf i hi
      · rw [if_neg h2] at hs; exact absurd hs (by simp)
    · rw [if_neg h1] at hs; exact absurd hs (by simp)
theorem scan_ok : ∀ (L : List Fld) (t t' : Nat), scan L t = some t' → ∀ f, f ∈ L → okF f = true
  | [], _, _, _, f, hf => absurd hf (by simp)
  | g :: l, t, t', hs, f, hf => by
    unfold scan at hs
    by_cases h1 : okF g = true
    · rw [if_pos h1] at hs
      by_cases h2 : t &&& mskN g = 0
      · rw [if_pos h2] at hs
        rcases List.mem_cons.1 hf with rfl | hf
        · exact h1
        · exact scan_ok l _ t' hs f hf
      · rw [if_neg h2] at hs; exact absurd hs (by simp)
    · rw [if_neg h1] at hs; exact absurd hs (by simp)
end Go.Proofs.YtkpkkjbigndnoaaDoor.M
/- Words out of fields: the program's loops and the document's come to one answer (chapter 1). -/
namespace Go.Proofs.YtkpkkjbigndnoaaDoor.M
open Go.RowKit Go.Proofs.YtkpkkjbigndnoaaDoor.P Go.Proofs.YtkpkkjbigndnoaaDoorW.PrintWords Go.Proofs.YtkpkkjbigndnoaaDoorW.PrintLast Go.Proofs.YtkpkkjbigndnoaaDoorW.PrintMore

theorem shl_msk (f : Fld) (h : okF f = true) : shl .u64 (2 ^ f.f1.toNat - 1) f.f0 = ((mskN f : Nat) : Int) := by
  obtain ⟨A, M, h0, h1, h2, h3, h4⟩ := okI_nat _ _ h
  have hm := msk_lt f h
  unfold mskN at hm ⊢
  rw [h0, h1] at hm ⊢
  simp only [Int.toNat_natCast] at hm ⊢
  have e32 : (2 : Nat) ^ 32 = 4294967296 := by decide
  have hp := Nat.two_pow_pos M
  have e : ((2 : Int) ^ M - 1) * 2 ^ A = (((2 ^ M - 1) * 2 ^ A : Nat) : Int) := by
    rw [Int.natCast_mul, ← cast_pow, ← cast_pow]; congr 1; omega
  rw [shl_nat _ _ _ (by simp [IntKind.bits]; omega), e, u64_self _ (Int.natCast_nonneg _) (by omega)]
theorem ones_of (f : Fld) (h : okF f = true) : bits_ones.f f.f1 = some (2 ^ f.f1.toNat - 1) := by
  obtain ⟨A, M, h0, h1, h2, h3, h4⟩ := okI_nat _ _ h
  rw [h1]; exact ones_nat M (by omega)

theorem prog_scan (L : List Fld) (hL : L.length ≤ 40) (R : Int × Int) (K : Nat)
    (hR : ∀ k, K ≤ k → ((api_Field_86.f L).bind fun t => if t = true then some ((0 : Int), (4 : Int)) else bits_Word.l1 k 0 L (L.length : Int) 0) = some R ∨ scan L 0 = none) :
    ∀ (d i k t : Nat), i + d = L.length → K + d < k → t < 2 ^ 32 → scan L 0 = scan (L.drop i) t →
      bits_Word.l0 k L t L (L.length : Int) i = some (match scan L 0 with | none => ((0 : Int), (1 : Int)) | some _ => R) := by
  intro d
  induction d with
  | zero =>
    intro i k t hi hk ht hs
    obtain ⟨k, rfl⟩ : ∃ m, k = m + 1 := ⟨k - 1, by omega⟩
    rw [List.drop_of_length_le (by omega)] at hs
    have hs' : scan L 0 = some t := hs
    rw [bits_Word.l0, if_neg (by omega), hs']
    rcases hR k (by omega) with h | h
    · exact h
    · rw [h] at hs'; exact absurd hs' (by simp)
  | succ d ih =>
    intro i k t hi hk ht hs
    obtain ⟨k, rfl⟩ : ∃ m, k = m + 1 := ⟨k - 1, by omega⟩
    have hlt : i < L.length := by omega
    rw [List.drop_eq_getElem_cons hlt] at hs
    have hrd := rdF_nat L i hlt
    unfold rdF at hrd
    rw [bits_Word.l0, if_pos (by omega), if_pos (by omega), if_pos (by omega), hrd, right_spec, Option.bind_some]
    rw [scan] at hs
    by_cases h1 : okF L[i] = true
    · rw [if_pos h1] at hs
      have h1' : okI L[i].f0 L[i].f1 = true := h1
      obtain ⟨A, M, e0, e1, _⟩ := okI_nat _ _ h1'
      have hm := msk_lt L[i] h1
      have e64 := pow64
      have e32 : (2 : Nat) ^ 32 = 4294967296 := by decide
      rw [if_pos h1', ones_of _ h1, Option.bind_some, if_pos (by omega), shl_msk _ h1, u64_and_nat _ _ (by omega) (by omega), u64_or_nat _ _ (by omega) (by omega), wrap64_self ((i : Int) + 1) (by omega) (by omega)]
      by_cases h2 : t &&& mskN L[i] = 0
      · rw [if_pos h2] at hs
        rw [if_pos (by rw [h2]; rfl)]
        have := ih (i + 1) k (t ||| mskN L[i]) (by omega) (by omega) (Nat.or_lt_two_pow ht hm) hs
        exact this
      · rw [if_neg h2] at hs
        rw [if_neg (by omega), hs]
    · rw [if_neg h1] at hs
      have h1' : ¬ okI L[i].f0 L[i].f1 = true := h1
      rw [if_neg h1', hs]

theorem any_big : ∀ (L : List Fld), (∀ f, f ∈ L → okF f = true) → (∀ f, f ∈ L → good f) → bits_anyBig L = some (L.any bigF)
  | [], _, _ => rfl
  | f :: l, h, hg => by
    have hf := h f (List.mem_cons_self ..)
    have hgf := hg f (List.mem_cons_self ..)
    unfold bits_anyBig bits_big
    rw [ones_of f hf, Option.bind_some, Option.bind_some, any_big l (fun g hg' => h g (List.mem_cons_of_mem _ hg')) (fun g hg' => hg g (List.mem_cons_of_mem _ hg')), u64_self _ hgf.1 (by have := hgf.2; omega)]
    have e : decide (f.f2 > 2 ^ f.f1.toNat - 1) = bigF f := by
      unfold bigF
      rw [decide_eq_decide]
      have h0 := hgf.1
      rw [← cast_pow]
      omega
    rw [e, List.any_cons]
    cases bigF f <;> rfl
theorem shl_bits (f : Fld) (h : okF f = true) (hb : bigF f = false) (hg : good f) : shl .u32 f.f2 f.f0 = ((bitsN f : Nat) : Int) ∧ bitsN f < 2 ^ 32 := by
  obtain ⟨A, M, h0, h1, h2, h3, h4⟩ := okI_nat _ _ h
  have hV : f.f2.toNat < 2 ^ f.f1.toNat := by have := of_decide_eq_false hb; omega
  unfold bitsN
  rw [h0]
  rw [h1] at hV
  simp only [Int.toNat_natCast] at hV ⊢
  have hlt : f.f2.toNat * 2 ^ A < 2 ^ 32 := by
    have h5 : f.f2.toNat * 2 ^ A < 2 ^ M * 2 ^ A := Nat.mul_lt_mul_of_pos_right hV (Nat.two_pow_pos A)
    rw [← Nat.pow_add] at h5
    exact Nat.lt_of_lt_of_le h5 (Nat.pow_le_pow_right (by decide) (by omega))
  refine ⟨?_, hlt⟩
  have e32 : (2 : Nat) ^ 32 = 4294967296 := by decide
  rw [shl_nat _ _ _ (by simp [IntKind.bits]; omega), IntKind.wrap_u32]
  have e : f.f2 * 2 ^ A = ((f.f2.toNat * 2 ^ A : Nat) : Int) := by
    rw [Int.natCast_mul, cast_pow]; congr 1; have := hg.1; omega
  rw [e]
  exact Int.emod_eq_of_lt (Int.natCast_nonneg _) (by omega)
theorem prog_or (L : List Fld) (hL : L.length ≤ 40) (hok : ∀ f, f ∈ L → okF f = true) (hb : L.any bigF = false) (hg : ∀ f, f ∈ L → good f) : ∀ (d i k w : Nat), i + d = L.length → d < k → w < 2 ^ 32 →
    bits_Word.l1 k w L (L.length : Int) i = some (((orW (L.drop i) w : Nat) : Int), 0) := by
  intro d
  induction d with
  | zero =>
    intro i k w hi hk hw
    obtain ⟨k, rfl⟩ : ∃ m, k = m + 1 := ⟨k - 1, by omega⟩
    rw [bits_Word.l1, if_neg (by omega), List.drop_of_length_le (by omega)]; rfl
  | succ d ih =>
    intro i k w hi hk hw
    obtain ⟨k, rfl⟩ : ∃ m, k = m + 1 := ⟨k - 1, by omega⟩
    have hlt : i < L.length := by omega
    have hrd := rdF_nat L i hlt
    unfold rdF at hrd
    have hmem : L[i] ∈ L := List.getElem_mem hlt
    have hbi : bigF L[i] = false := by
      cases c : bigF L[i] with
      | false => rfl
      | true => rw [List.any_eq_true.2 ⟨L[i], hmem, c⟩] at hb; exact absurd hb (by decide)
    obtain ⟨A, M, e0, e1, _⟩ := okI_nat _ _ (hok _ hmem)
    obtain ⟨s1, s2⟩ := shl_bits L[i] (hok _ hmem) hbi (hg _ hmem)
    have e32 : (2 : Nat) ^ 32 = 4294967296 := by decide
    rw [bits_Word.l1, if_pos (by omega), if_pos (by omega), if_pos (by omega), hrd, if_pos (by omega), s1, u32_or_nat _ _ (by omega) (by omega), wrap64_self ((i : Int) + 1) (by omega) (by omega), List.drop_eq_getElem_cons hlt, orW]
    exact ih (i + 1) k (w ||| bitsN L[i]) (by omega) (by omega) (Nat.or_lt_two_pow hw s2)
theorem word_spec (k : Nat) (L : List Fld) (hk : 200 ≤ k) (hL : L.length ≤ 40) (hg : ∀ f, f ∈ L → good f) : bits_Word.f k L = some (wordV L) := by
  unfold bits_Word.f wordV
  cases hs : scan L 0 with
  | none =>
    have := prog_scan L hL (0, 0) 100 (fun k _ => .inr hs) L.length 0 k 0 (by omega) (by omega) (by decide) rfl
    rw [hs] at this
    exact this
  | some t' =>
    have hok := scan_ok L 0 t' hs
    have := prog_scan L hL (if L.any bigF then (0, 4) else (((orW L 0 : Nat) : Int), 0)) 100 (fun k hk => .inl (by
      unfold api_Field_86.f
      rw [any_big L hok hg, Option.bind_some]
      cases hb : L.any bigF with
      | true => rfl
      | false => exact prog_or L hL hok hb hg L.length 0 k 0 (by omega) (by omega) (by decide))) L.length 0 k 0 (by omega) (by omega) (by decide) rfl
    rw [hs] at this
    exact this
end Go.Proofs.YtkpkkjbigndnoaaDoor.M
