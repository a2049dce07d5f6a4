/- Written for this claim by a program of this session: what the claim uses of lemmas and proved contracts of Go functions. -/
import Derived.Test.YtblnfngigdipcaaGreatDoorYSu5
import Derived.Laws.BitsAllLaws
namespace Go.Proofs.YtblnfngigdipcaaGreatDoor.M
open Go.RowKit
end Go.Proofs.YtblnfngigdipcaaGreatDoor.M
namespace Go.Proofs.YtblnfngigdipcaaGreatDoor.M
open Go.RowKit Go.Proofs.YtblnfngigdipcaaGreatDoorW.PrintWords Go.Proofs.YtblnfngigdipcaaGreatDoorW.PrintLast Go.Proofs.YtblnfngigdipcaaGreatDoorW.PrintMore
theorem pow_pos (n : Nat) : (0 : Int) < 2 ^ n := Int.pow_pos (by decide)
theorem pow_split (a b : Nat) : (2 : Int) ^ (a + b) = 2 ^ a * 2 ^ b := Int.pow_add 2 a b
theorem pow_le (a b : Nat) (h : a ≤ b) : (2 : Int) ^ a ≤ 2 ^ b := by
  obtain ⟨c, rfl⟩ := Nat.exists_eq_add_of_le h
  rw [pow_split]
  have h1 := pow_pos a
  have h2 := pow_pos c
  have := Int.mul_le_mul_of_nonneg_left (show (1 : Int) ≤ 2 ^ c by omega) (Int.le_of_lt h1)
  simpa using this
theorem int_cases (n : Int) (lo hi : Nat) (h0 : lo ≤ n) (h1 : n ≤ hi) : ∃ m : Nat, n = m ∧ lo ≤ m ∧ m ≤ hi := ⟨n.toNat, by omega, by omega, by omega⟩
theorem wrap64_self (x : Int) (h0 : -9223372036854775808 ≤ x) (h1 : x < 9223372036854775808) : wrap64 x = x := by unfold wrap64; omega
theorem u64_self (x : Int) (h0 : 0 ≤ x) (h1 : x < 18446744073709551616) : IntKind.u64.wrap x = x := by rw [IntKind.wrap_u64]; omega
theorem shl_nat (k : IntKind) (x : Int) (n : Nat) (h : n ≤ k.bits) : shl k x (n : Int) = k.wrap (x * 2 ^ n) := by unfold shl; rw [Int.toNat_natCast, Nat.min_eq_left h]
theorem shr_nat (k : IntKind) (x : Int) (n : Nat) (h : n ≤ k.bits) : shr k x (n : Int) = x / 2 ^ n := by unfold shr; rw [Int.toNat_natCast, Nat.min_eq_left h]
theorem pow_64 (m : Nat) (h : m ≤ 63) : (2 : Int) ^ m * 2 ^ (63 - m) = 9223372036854775808 := by
  rw [← pow_split, show m + (63 - m) = 63 by omega]; decide
theorem pow_small (m : Nat) (h : m ≤ 32) : (2 : Int) ^ m ≤ 4294967296 := pow_le m 32 h
theorem toNat_pow (n : Nat) : ((2 : Int) ^ n - 1).toNat = 2 ^ n - 1 := by
  have : ((2 ^ n : Nat) : Int) = (2 : Int) ^ n := by simp
  have := Nat.two_pow_pos n
  omega
theorem and_ones_u32 (a : Int) (n : Nat) (h : n ≤ 32) (a0 : 0 ≤ a) (a1 : a < 4294967296) : bits .and .u32 a (2 ^ n - 1) = a % 2 ^ n := by
  have hp := pow_pos n
  have hs := pow_small n h
  rw [u32_and a _ a0 a1 (by omega) (by omega), toNat_pow, Nat.and_two_pow_sub_one_eq_mod]
  obtain ⟨m, rfl⟩ := Int.eq_ofNat_of_zero_le a0
  simp
theorem pow_dvd (a b : Nat) (h : a ≤ b) : (2 : Int) ^ a ∣ 2 ^ b := by
  obtain ⟨c, rfl⟩ := Nat.exists_eq_add_of_le h
  exact ⟨2 ^ c, pow_split a c⟩
theorem emod_pow_pow (x : Int) (a b : Nat) (h : a ≤ b) : x % 2 ^ b % 2 ^ a = x % 2 ^ a := Int.emod_emod_of_dvd _ (pow_dvd a b h)
theorem ediv_zero_iff (s H : Int) (h : 0 < H) : s / H = 0 ↔ 0 ≤ s ∧ s < H := by
  constructor
  · intro e
    have h1 := Int.mul_ediv_add_emod s H
    have h2 := Int.emod_nonneg s (show H ≠ 0 by omega)
    have h3 := Int.emod_lt_of_pos s h
    rw [e, Int.mul_zero] at h1
    omega
  · intro ⟨a, b⟩
    exact Int.ediv_eq_zero_of_lt a b
theorem ediv_neg_iff (s H : Int) (h : 0 < H) : s / H = -1 ↔ -H ≤ s ∧ s < 0 := by
  have h0 := ediv_zero_iff (s + H) H h
  have h1 : (s + H) / H = s / H + 1 := by
    have := Int.add_mul_ediv_right s 1 (show H ≠ 0 by omega)
    rw [Int.one_mul] at this
    exact this
  rw [h1] at h0
  omega
end Go.Proofs.YtblnfngigdipcaaGreatDoor.M
namespace Go.Proofs.YtblnfngigdipcaaGreatDoor.M
open Go.RowKit Go.Proofs.YtblnfngigdipcaaGreatDoor.P Go.Proofs.YtblnfngigdipcaaGreatDoorW.PrintWords Go.Proofs.YtblnfngigdipcaaGreatDoorW.PrintLast Go.Proofs.YtblnfngigdipcaaGreatDoorW.PrintMore
theorem ones_fin : ∀ n : Fin 65, bits_ones.f (n.val : Int) = some ((2 : Int) ^ n.val - 1) := by decide +kernel
theorem ones_nat (n : Nat) (h : n ≤ 64) : bits_ones.f (n : Int) = some ((2 : Int) ^ n - 1) := ones_fin ⟨n, by omega⟩
def sgnV (v n : Int) : Int × Int := if 1 ≤ n ∧ n ≤ 32 then (if v < 2 ^ n.toNat then (if v < 2 ^ (n.toNat - 1) then v else v - 2 ^ n.toNat, 0) else (0, 4)) else (0, 1)
theorem sgnV_bad (v n : Int) (h : ¬ (1 ≤ n ∧ n ≤ 32)) : sgnV v n = (0, 1) := by unfold sgnV; rw [if_neg h]
theorem sgnV_nat (v : Int) (m : Nat) (h : m ≤ 31) : sgnV v ((m + 1 : Nat) : Int) = if v < 2 ^ (m + 1) then (if v < 2 ^ m then v else v - 2 ^ (m + 1), 0) else (0, 4) := by
  unfold sgnV; rw [if_pos (by omega)]; simp only [Int.toNat_natCast, Nat.add_sub_cancel]
theorem signed_spec (k : Nat) (v n : Int) (hk : 100 ≤ k) (v0 : 0 ≤ v) (v1 : v < 4294967296) (n0 : -9223372036854775808 ≤ n) (n1 : n < 9223372036854775808) : bits_Signed.f k v n = some (sgnV v n) := by
  obtain ⟨k, rfl⟩ : ∃ m, k = m + 1 := ⟨k - 1, by omega⟩
  unfold bits_Signed.f
  by_cases c : 1 ≤ n ∧ n ≤ 32
  · obtain ⟨m1, rfl, d1, d2⟩ := int_cases n 1 32 c.1 c.2
    obtain ⟨m, rfl⟩ : ∃ m, m1 = m + 1 := ⟨m1 - 1, by omega⟩
    rw [if_neg (by omega), sgnV_nat v m (by omega)]
    simp only [bits_Signed.j0]
    rw [if_neg (by simp; omega), ones_nat _ (by omega), wrap64_self (64 - _) (by omega) (by omega), u64_self v v0 (by omega), wrap64_self v (by omega) (by omega)]
    simp only [Option.bind_some]
    rw [show (64 : Int) - ((m + 1 : Nat) : Int) = ((63 - m : Nat) : Int) by omega, shl_nat _ _ _ (by simp [IntKind.bits]; omega), shr_nat _ _ _ (by simp [IntKind.bits]; omega), if_pos (Int.natCast_nonneg _), IntKind.wrap_i64]
    by_cases a : v < 2 ^ (m + 1)
    · rw [if_neg (by omega), if_pos a]
      have hq := pow_pos (63 - m)
      have hm := pow_pos m
      have h64 := pow_64 m (by omega)
      have h2 : (2 : Int) ^ (m + 1) = 2 ^ m * 2 := by rw [pow_split]; rfl
      generalize (2 : Int) ^ (63 - m) = Q at *
      rw [h2] at a ⊢
      generalize (2 : Int) ^ m = H at *
      by_cases b : v < H
      · rw [if_pos b]
        have h3 : v * Q < H * Q := Int.mul_lt_mul_of_pos_right b hq
        have h4 : 0 ≤ v * Q := Int.mul_nonneg v0 (by omega)
        rw [show (v * Q + 9223372036854775808) % 18446744073709551616 - 9223372036854775808 = v * Q by omega, Int.mul_ediv_cancel _ (by omega)]
      · rw [if_neg b]
        have h3 : v * Q < H * 2 * Q := Int.mul_lt_mul_of_pos_right a hq
        have h4 : H * Q ≤ v * Q := Int.mul_le_mul_of_nonneg_right (by omega) (by omega)
        have h5 : (v - H * 2) * Q = v * Q - 18446744073709551616 := by rw [Int.sub_mul, Int.mul_assoc, Int.mul_comm 2, ← Int.mul_assoc, h64]; omega
        have h6 : H * 2 * Q = 18446744073709551616 := by rw [Int.mul_assoc, Int.mul_comm 2, ← Int.mul_assoc, h64]; rfl
        rw [show (v * Q + 9223372036854775808) % 18446744073709551616 - 9223372036854775808 = (v - H * 2) * Q by omega, Int.mul_ediv_cancel _ (by omega)]
    · rw [if_pos (by omega), if_neg a]
  · rw [sgnV_bad v n c]
    by_cases c1 : n < 1
    · rw [if_pos c1]; rfl
    · rw [if_neg c1, show decide (n > 32) = true from decide_eq_true (by omega)]; rfl
def packV (s n : Int) : Int × Int := if 1 ≤ n ∧ n ≤ 32 then (if -(2 ^ (n.toNat - 1)) ≤ s ∧ s < 2 ^ (n.toNat - 1) then (s % 2 ^ n.toNat, 0) else (0, 4)) else (0, 1)
theorem packV_bad (v n : Int) (h : ¬ (1 ≤ n ∧ n ≤ 32)) : packV v n = (0, 1) := by unfold packV; rw [if_neg h]
theorem packV_nat (s : Int) (m : Nat) (h : m ≤ 31) : packV s ((m + 1 : Nat) : Int) = if -(2 ^ m) ≤ s ∧ s < 2 ^ m then (s % 2 ^ (m + 1), 0) else (0, 4) := by
  unfold packV; rw [if_pos (by omega)]; simp only [Int.toNat_natCast, Nat.add_sub_cancel]
theorem pack_spec (k : Nat) (s n : Int) (hk : 100 ≤ k) (s0 : -9223372036854775808 ≤ s) (s1 : s < 9223372036854775808) (n0 : -9223372036854775808 ≤ n) (n1 : n < 9223372036854775808) : bits_Pack.f k s n = some (packV s n) := by
  obtain ⟨k, rfl⟩ : ∃ m, k = m + 1 := ⟨k - 1, by omega⟩
  unfold bits_Pack.f
  by_cases c : 1 ≤ n ∧ n ≤ 32
  · obtain ⟨m1, rfl, d1, d2⟩ := int_cases n 1 32 c.1 c.2
    obtain ⟨m, rfl⟩ : ∃ m, m1 = m + 1 := ⟨m1 - 1, by omega⟩
    have hm := pow_pos m
    have hs := pow_small m (by omega)
    have hs2 := pow_small (m + 1) (by omega)
    have hp2 := pow_pos (m + 1)
    rw [if_neg (by omega), packV_nat s m (by omega)]
    simp only [bits_Pack.j0]
    rw [if_neg (by simp; omega), wrap64_self (((m + 1 : Nat) : Int) - 1) (by omega) (by omega), show (((m + 1 : Nat) : Int) - 1) = (m : Int) by omega,
      if_pos (Int.natCast_nonneg _), shr_nat _ _ _ (by simp [IntKind.bits]; omega), ones_nat _ (by omega)]
    simp only [Option.bind_some]
    rw [Int.emod_eq_of_lt (show (0 : Int) ≤ 2 ^ (m + 1) - 1 by omega) (by omega), and_ones_u32 _ _ (by omega) (Int.emod_nonneg _ (by decide)) (Int.emod_lt_of_pos _ (by decide)),
      show (4294967296 : Int) = 2 ^ 32 from rfl, emod_pow_pow _ _ _ (by omega)]
    have e1 := ediv_zero_iff s (2 ^ m) hm
    have e2 := ediv_neg_iff s (2 ^ m) hm
    by_cases a : s / 2 ^ m = 0
    · rw [if_pos a, if_pos (by omega)]
    · rw [if_neg a]
      by_cases b : s / 2 ^ m = -1
      · rw [if_pos b, if_pos (by omega)]
      · rw [if_neg b, if_neg (by omega)]
  · rw [packV_bad s n c]
    by_cases c1 : n < 1
    · rw [if_pos c1]; rfl
    · rw [if_neg c1, show decide (n > 32) = true from decide_eq_true (by omega)]; rfl
theorem cast_pow (n : Nat) : ((2 ^ n : Nat) : Int) = (2 : Int) ^ n := by simp
theorem pow64 : (2 : Nat) ^ 64 = 18446744073709551616 := by decide
abbrev Fld := S189
abbrev rdF (L : List Fld) (i : Int) : Fld := rd_T189 L i
theorem rdF_nat (L : List Fld) (i : Nat) (h : i < L.length) : rdF L (i : Int) = L[i] := by
  unfold rdF rd_T189; rw [Int.toNat_natCast]; simp [List.getD, h]
def okI (a n : Int) : Bool := decide (0 ≤ a ∧ a ≤ 31 ∧ 1 ≤ n ∧ n ≤ 32 - a)
theorem right_spec (a n : Int) : bits_right.f a n = some (okI a n) := by
  unfold bits_right.f okI
  by_cases h1 : a ≥ 0
  · rw [if_pos h1]
    by_cases h2 : a < 32
    · rw [if_pos h2]
      by_cases h3 : n ≥ 1
      · rw [if_pos h3, wrap64_self _ (by omega) (by omega)]; congr 1; rw [decide_eq_decide]; omega
      · rw [if_neg h3, decide_eq_false (by omega)]
    · rw [if_neg h2, decide_eq_false (by omega)]
  · rw [if_neg h1, decide_eq_false (by omega)]
theorem okI_nat (a n : Int) (h : okI a n = true) : ∃ A M : Nat, a = A ∧ n = M ∧ A ≤ 31 ∧ 1 ≤ M ∧ A + M ≤ 32 := by
  have := of_decide_eq_true h
  exact ⟨a.toNat, n.toNat, by omega, by omega, by omega, by omega, by omega⟩
def fieldV (w a n : Int) : Int × Int := if okI a n = true then (w / 2 ^ a.toNat % 2 ^ n.toNat, 0) else (0, 1)
theorem fieldV_nat (w : Int) (A M : Nat) (h : okI A M = true) : fieldV w A M = (w / 2 ^ A % 2 ^ M, 0) := by unfold fieldV; rw [if_pos h]; simp only [Int.toNat_natCast]
theorem div_in (w : Int) (A : Nat) (w0 : 0 ≤ w) : 0 ≤ w / 2 ^ A ∧ w / 2 ^ A ≤ w := ⟨Int.ediv_nonneg w0 (Int.le_of_lt (pow_pos A)), Int.ediv_le_self _ w0⟩
theorem field_spec (w a n : Int) (w0 : 0 ≤ w) (w1 : w < 4294967296) : bits_Field.f w a n = some (fieldV w a n) := by
  unfold bits_Field.f
  rw [right_spec, Option.bind_some]
  by_cases h : okI a n = true
  · obtain ⟨A, M, rfl, rfl, h1, h2, h3⟩ := okI_nat a n h
    have hp := pow_small M (by omega)
    have hp0 := pow_pos M
    obtain ⟨d0, d1⟩ := div_in w A w0
    rw [if_pos h, if_pos (by omega), ones_nat M (by omega), Option.bind_some, shr_nat _ _ _ (by simp [IntKind.bits]; omega), Int.emod_eq_of_lt (show (0 : Int) ≤ 2 ^ M - 1 by omega) (by omega), and_ones_u32 _ M (by omega) d0 (by omega), fieldV_nat w A M h]
  · rw [if_neg h]; unfold fieldV; rw [if_neg h]
def mskN (f : Fld) : Nat := (2 ^ f.f1.toNat - 1) * 2 ^ f.f0.toNat
def bitsN (f : Fld) : Nat := f.f2.toNat * 2 ^ f.f0.toNat
def okF (f : Fld) : Bool := okI f.f0 f.f1
def bigF (f : Fld) : Bool := decide (2 ^ f.f1.toNat ≤ f.f2.toNat)
def scan : List Fld → Nat → Option Nat
  | [], t => some t
  | f :: l, t => if okF f = true then (if t &&& mskN f = 0 then scan l (t ||| mskN f) else none) else none
def orW : List Fld → Nat → Nat
  | [], w => w
  | f :: l, w => orW l (w ||| bitsN f)
def sumW : List Fld → Nat
  | [] => 0
  | f :: l => bitsN f + sumW l
def wordV (L : List Fld) : Int × Int := match scan L 0 with
  | none => (0, 1)
  | some _ => if L.any bigF then (0, 4) else (((orW L 0 : Nat) : Int), 0)
def good (f : Fld) : Prop := 0 ≤ f.f2 ∧ f.f2 < 4294967296
theorem msk_bit (f : Fld) (i : Nat) : (mskN f).testBit i = decide (f.f0.toNat ≤ i ∧ i < f.f0.toNat + f.f1.toNat) := by
  unfold mskN
  rw [Nat.testBit_mul_two_pow, Nat.testBit_two_pow_sub_one]
  rw [Bool.eq_iff_iff]; simp; omega
theorem msk_lt (f : Fld) (h : okF f = true) : mskN f < 2 ^ 32 := by
  obtain ⟨A, M, h0, h1, h2, h3, h4⟩ := okI_nat _ _ h
  refine Nat.lt_pow_two_of_testBit _ fun i hi => ?_
  rw [msk_bit, decide_eq_false]; omega
theorem bits_bit (f : Fld) (i : Nat) : (bitsN f).testBit i = (decide (f.f0.toNat ≤ i) && f.f2.toNat.testBit (i - f.f0.toNat)) := by
  unfold bitsN; rw [Nat.testBit_mul_two_pow]
theorem bits_sub (f : Fld) (hb : bigF f = false) (i : Nat) (hi : (bitsN f).testBit i = true) : (mskN f).testBit i = true := by
  rw [bits_bit f] at hi
  rw [msk_bit]
  simp only [Bool.and_eq_true, decide_eq_true_eq] at hi ⊢
  refine ⟨hi.1, ?_⟩
  have hV : f.f2.toNat < 2 ^ f.f1.toNat := by have := of_decide_eq_false hb; omega
  apply Classical.byContradiction
  intro c
  have := Nat.testBit_lt_two_pow (Nat.lt_of_lt_of_le hV (Nat.pow_le_pow_right (show 0 < 2 by decide) (show f.f1.toNat ≤ i - f.f0.toNat by omega)))
  rw [this] at hi
  exact absurd hi.2 (by decide)
theorem and_zero_bits (x y : Nat) (h : x &&& y = 0) (i : Nat) : ¬ (x.testBit i = true ∧ y.testBit i = true) := by
  intro ⟨a, b⟩
  have : (x &&& y).testBit i = true := by rw [Nat.testBit_and, a, b]; rfl
  rw [h, Nat.zero_testBit] at this
  exact absurd this (by decide)
theorem or_add (x y : Nat) (hx : x < 2 ^ 64) (hy : y < 2 ^ 64) (h : ∀ i, ¬ (x.testBit i = true ∧ y.testBit i = true)) (hs : x + y < 2 ^ 64) : x ||| y = x + y := by
  have e := BitVec.add_eq_or_of_and_eq_zero (BitVec.ofNat 64 x) (BitVec.ofNat 64 y) (by
    apply BitVec.eq_of_toNat_eq
    rw [BitVec.toNat_and, BitVec.toNat_ofNat, BitVec.toNat_ofNat, Nat.mod_eq_of_lt hx, Nat.mod_eq_of_lt hy]
    apply Nat.eq_of_testBit_eq
    intro i
    have := h i
    rw [Nat.testBit_and]
    cases hx : x.testBit i <;> cases hy : y.testBit i <;> simp_all)
  have e2 := congrArg BitVec.toNat e
  rw [BitVec.toNat_add, BitVec.toNat_or, BitVec.toNat_ofNat, BitVec.toNat_ofNat, Nat.mod_eq_of_lt hx, Nat.mod_eq_of_lt hy, Nat.mod_eq_of_lt hs] at e2
  exact e2.symm
theorem word_fold : ∀ (L : List Fld) (t t' w : Nat), scan L t = some t' → L.any bigF = false → t < 2 ^ 32 → w < 2 ^ 32 → (∀ i, w.testBit i = true → t.testBit i = true) →
    orW L w = w + sumW L ∧ orW L w < 2 ^ 32 ∧ (∀ i, t.testBit i = true → (orW L w).testBit i = w.testBit i) ∧
    (∀ f, f ∈ L → ∀ i, i < f.f1.toNat → (orW L w).testBit (f.f0.toNat + i) = f.f2.toNat.testBit i)
  | [], t, t', w, _, _, ht, hw, _ => ⟨rfl, hw, fun _ _ => rfl, fun f hf => absurd hf (by simp)⟩
  | g :: l, t, t', w, hs, hb, ht, hw, hsub => by
    unfold scan at hs
    simp only [List.any_cons, Bool.or_eq_false_iff] at hb
    by_cases h1 : okF g = true
    · rw [if_pos h1] at hs
      by_cases h2 : t &&& mskN g = 0
      · rw [if_pos h2] at hs
        have hm := msk_lt g h1
        have hbl : bitsN g < 2 ^ 32 := by
          refine Nat.lt_pow_two_of_testBit _ fun i hi => ?_
          cases c : (bitsN g).testBit i with
          | false => rfl
          | true =>
            have := bits_sub g hb.1 i c
            rw [Nat.testBit_lt_two_pow (Nat.lt_of_lt_of_le hm (Nat.pow_le_pow_right (by decide) hi))] at this
            exact absurd this (by decide)
        have hdis : ∀ i, ¬ (w.testBit i = true ∧ (bitsN g).testBit i = true) := fun i ⟨a, b⟩ => and_zero_bits t _ h2 i ⟨hsub i a, bits_sub g hb.1 i b⟩
        have e64 := pow64
        have e32 : (2 : Nat) ^ 32 = 4294967296 := by decide
        have hor : w ||| bitsN g = w + bitsN g := or_add w _ (by omega) (by omega) hdis (by omega)
        have hw2 : w ||| bitsN g < 2 ^ 32 := Nat.or_lt_two_pow hw hbl
        obtain ⟨i1, i2, i3, i4⟩ := word_fold l (t ||| mskN g) t' (w ||| bitsN g) hs hb.2 (Nat.or_lt_two_pow ht hm) hw2 (by
          intro i hi
          rw [Nat.testBit_or] at hi ⊢
          cases a : w.testBit i with
          | true => rw [hsub i a]; rfl
          | false => rw [a, Bool.false_or] at hi; rw [bits_sub g hb.1 i hi, Bool.or_true])
        have e : orW (g :: l) w = orW l (w ||| bitsN g) := rfl
        rw [e]
        refine ⟨by rw [i1, hor]; unfold sumW; rw [Nat.add_assoc]; congr 1; cases l <;> rfl, i2, ?_, ?_⟩
        · intro i hi
          rw [i3 i (by rw [Nat.testBit_or, hi]; rfl), Nat.testBit_or]
          cases c : (bitsN g).testBit i with
          | false => rw [Bool.or_false]
          | true => exact absurd ⟨hi, bits_sub g hb.1 i c⟩ (and_zero_bits t _ h2 i)
        · intro f hf i hi
          rcases List.mem_cons.1 hf with rfl | hf
          · have hmi : (mskN f).testBit (f.f0.toNat + i) = true := by rw [msk_bit, decide_eq_true]; omega
            rw [i3 _ (by rw [Nat.testBit_or, hmi, Bool.or_true]), Nat.testBit_or]
            have hw0 : w.testBit (f.f0.toNat + i) = false := by
              cases c : w.testBit (f.f0.toNat + i) with
              | false => rfl
              | true => exact absurd ⟨hsub _ c, hmi⟩ (and_zero_bits t _ h2 _)
            rw [hw0, Bool.false_or, bits_bit f, decide_eq_true (by omega), Bool.true_and, Nat.add_sub_cancel_left]
          · exact i4 f hf i hi
      · rw [if_neg h2] at hs; exact absurd hs (by simp)
    · rw [if_neg h1] at hs; exact absurd hs (by simp)
theorem scan_ok : ∀ (L : List Fld) (t t' : Nat), scan L t = some t' → ∀ f, f ∈ L → okF f = true
  | [], _, _, _, f, hf => absurd hf (by simp)
  | g :: l, t, t', hs, f, hf => by
    unfold scan at hs
    by_cases h1 : okF g = true
    · rw [if_pos h1] at hs
      by_cases h2 : t &&& mskN g = 0
      · rw [if_pos h2] at hs
        rcases List.mem_cons.1 hf with rfl | hf
        · exact h1
        · exact scan_ok l _ t' hs f hf
      · rw [if_neg h2] at hs; exact absurd hs (by simp)
    · rw [if_neg h1] at hs; exact absurd hs (by simp)
theorem shl_msk (f : Fld) (h : okF f = true) : shl .u64 (2 ^ f.f1.toNat - 1) f.f0 = ((mskN f : Nat) : Int) := by
  obtain ⟨A, M, h0, h1, h2, h3, h4⟩ := okI_nat _ _ h
  have hm := msk_lt f h
  unfold mskN at hm ⊢
  rw [h0, h1] at hm ⊢
  simp only [Int.toNat_natCast] at hm ⊢
  have e32 : (2 : Nat) ^ 32 = 4294967296 := by decide
  have hp := Nat.two_pow_pos M
  have e : ((2 : Int) ^ M - 1) * 2 ^ A = (((2 ^ M - 1) * 2 ^ A : Nat) : Int) := by
    rw [Int.natCast_mul, ← cast_pow, ← cast_pow]; congr 1; omega
  rw [shl_nat _ _ _ (by simp [IntKind.bits]; omega), e, u64_self _ (Int.natCast_nonneg _) (by omega)]
theorem ones_of (f : Fld) (h : okF f = true) : bits_ones.f f.f1 = some (2 ^ f.f1.toNat - 1) := by
  obtain ⟨A, M, h0, h1, h2, h3, h4⟩ := okI_nat _ _ h
  rw [h1]; exact ones_nat M (by omega)
theorem prog_scan (L : List Fld) (hL : L.length ≤ 40) (R : Int × Int) (K : Nat)
    (hR : ∀ k, K ≤ k → ((api_Field_278.f L).bind fun t => if t = true then some ((0 : Int), (4 : Int)) else bits_Word.l1 k 0 L (L.length : Int) 0) = some R ∨ scan L 0 = none) :
    ∀ (d i k t : Nat), i + d = L.length → K + d < k → t < 2 ^ 32 → scan L 0 = scan (L.drop i) t →
      bits_Word.l0 k L t L (L.length : Int) i = some (match scan L 0 with | none => ((0 : Int), (1 : Int)) | some _ => R) := by
  intro d
  induction d with
  | zero =>
    intro i k t hi hk ht hs
    obtain ⟨k, rfl⟩ : ∃ m, k = m + 1 := ⟨k - 1, by omega⟩
    rw [List.drop_of_length_le (by omega)] at hs
    have hs' : scan L 0 = some t := hs
    rw [bits_Word.l0, if_neg (by omega), hs']
    rcases hR k (by omega) with h | h
    · exact h
    · rw [h] at hs'; exact absurd hs' (by simp)
  | succ d ih =>
    intro i k t hi hk ht hs
    obtain ⟨k, rfl⟩ : ∃ m, k = m + 1 := ⟨k - 1, by omega⟩
    have hlt : i < L.length := by omega
    rw [List.drop_eq_getElem_cons hlt] at hs
    have hrd := rdF_nat L i hlt
    unfold rdF at hrd
    rw [bits_Word.l0, if_pos (by omega), if_pos (by omega), if_pos (by omega), hrd, right_spec, Option.bind_some]
    rw [scan] at hs
    by_cases h1 : okF L[i] = true
    · rw [if_pos h1] at hs
      have h1' : okI L[i].f0 L[i].f1 = true := h1
      obtain ⟨A, M, e0, e1, _⟩ := okI_nat _ _ h1'
      have hm := msk_lt L[i] h1
      have e64 := pow64
      have e32 : (2 : Nat) ^ 32 = 4294967296 := by decide
      rw [if_pos h1', ones_of _ h1, Option.bind_some, if_pos (by omega), shl_msk _ h1, u64_and_nat _ _ (by omega) (by omega), u64_or_nat _ _ (by omega) (by omega), wrap64_self ((i : Int) + 1) (by omega) (by omega)]
      by_cases h2 : t &&& mskN L[i] = 0
      · rw [if_pos h2] at hs
        rw [if_pos (by rw [h2]; rfl)]
        have := ih (i + 1) k (t ||| mskN L[i]) (by omega) (by omega) (Nat.or_lt_two_pow ht hm) hs
        exact this
      · rw [if_neg h2] at hs
        rw [if_neg (by omega), hs]
    · rw [if_neg h1] at hs
      have h1' : ¬ okI L[i].f0 L[i].f1 = true := h1
      rw [if_neg h1', hs]
theorem any_big : ∀ (L : List Fld), (∀ f, f ∈ L → okF f = true) → (∀ f, f ∈ L → good f) → bits_anyBig L = some (L.any bigF)
  | [], _, _ => rfl
  | f :: l, h, hg => by
    have hf := h f (List.mem_cons_self ..)
    have hgf := hg f (List.mem_cons_self ..)
    unfold bits_anyBig bits_big
    rw [ones_of f hf, Option.bind_some, Option.bind_some, any_big l (fun g hg' => h g (List.mem_cons_of_mem _ hg')) (fun g hg' => hg g (List.mem_cons_of_mem _ hg')), u64_self _ hgf.1 (by have := hgf.2; omega)]
    have e : decide (f.f2 > 2 ^ f.f1.toNat - 1) = bigF f := by
      unfold bigF
      rw [decide_eq_decide]
      have h0 := hgf.1
      rw [← cast_pow]
      omega
    rw [e, List.any_cons]
    cases bigF f <;> rfl
theorem shl_bits (f : Fld) (h : okF f = true) (hb : bigF f = false) (hg : good f) : shl .u32 f.f2 f.f0 = ((bitsN f : Nat) : Int) ∧ bitsN f < 2 ^ 32 := by
  obtain ⟨A, M, h0, h1, h2, h3, h4⟩ := okI_nat _ _ h
  have hV : f.f2.toNat < 2 ^ f.f1.toNat := by have := of_decide_eq_false hb; omega
  unfold bitsN
  rw [h0]
  rw [h1] at hV
  simp only [Int.toNat_natCast] at hV ⊢
  have hlt : f.f2.toNat * 2 ^ A < 2 ^ 32 := by
    have h5 : f.f2.toNat * 2 ^ A < 2 ^ M * 2 ^ A := Nat.mul_lt_mul_of_pos_right hV (Nat.two_pow_pos A)
    rw [← Nat.pow_add] at h5
    exact Nat.lt_of_lt_of_le h5 (Nat.pow_le_pow_right (by decide) (by omega))
  refine ⟨?_, hlt⟩
  have e32 : (2 : Nat) ^ 32 = 4294967296 := by decide
  rw [shl_nat _ _ _ (by simp [IntKind.bits]; omega), IntKind.wrap_u32]
  have e : f.f2 * 2 ^ A = ((f.f2.toNat * 2 ^ A : Nat) : Int) := by
    rw [Int.natCast_mul, cast_pow]; congr 1; have := hg.1; omega
  rw [e]
  exact Int.emod_eq_of_lt (Int.natCast_nonneg _) (by omega)
theorem prog_or (L : List Fld) (hL : L.length ≤ 40) (hok : ∀ f, f ∈ L → okF f = true) (hb : L.any bigF = false) (hg : ∀ f, f ∈ L → good f) : ∀ (d i k w : Nat), i + d = L.length → d < k → w < 2 ^ 32 →
    bits_Word.l1 k w L (L.length : Int) i = some (((orW (L.drop i) w : Nat) : Int), 0) := by
  intro d
  induction d with
  | zero =>
    intro i k w hi hk hw
    obtain ⟨k, rfl⟩ : ∃ m, k = m + 1 := ⟨k - 1, by omega⟩
    rw [bits_Word.l1, if_neg (by omega), List.drop_of_length_le (by omega)]; rfl
  | succ d ih =>
    intro i k w hi hk hw
    obtain ⟨k, rfl⟩ : ∃ m, k = m + 1 := ⟨k - 1, by omega⟩
    have hlt : i < L.length := by omega
    have hrd := rdF_nat L i hlt
    unfold rdF at hrd
    have hmem : L[i] ∈ L := List.getElem_mem hlt
    have hbi : bigF L[i] = false := by
      cases c : bigF L[i] with
      | false => rfl
      | true => rw [List.any_eq_true.2 ⟨L[i], hmem, c⟩] at hb; exact absurd hb (by decide)
    obtain ⟨A, M, e0, e1, _⟩ := okI_nat _ _ (hok _ hmem)
    obtain ⟨s1, s2⟩ := shl_bits L[i] (hok _ hmem) hbi (hg _ hmem)
    have e32 : (2 : Nat) ^ 32 = 4294967296 := by decide
    rw [bits_Word.l1, if_pos (by omega), if_pos (by omega), if_pos (by omega), hrd, if_pos (by omega), s1, u32_or_nat _ _ (by omega) (by omega), wrap64_self ((i : Int) + 1) (by omega) (by omega), List.drop_eq_getElem_cons hlt, orW]
    exact ih (i + 1) k (w ||| bitsN L[i]) (by omega) (by omega) (Nat.or_lt_two_pow hw s2)
theorem word_spec (k : Nat) (L : List Fld) (hk : 200 ≤ k) (hL : L.length ≤ 40) (hg : ∀ f, f ∈ L → good f) : bits_Word.f k L = some (wordV L) := by
  unfold bits_Word.f wordV
  cases hs : scan L 0 with
  | none =>
    have := prog_scan L hL (0, 0) 100 (fun k _ => .inr hs) L.length 0 k 0 (by omega) (by omega) (by decide) rfl
    rw [hs] at this
    exact this
  | some t' =>
    have hok := scan_ok L 0 t' hs
    have := prog_scan L hL (if L.any bigF then (0, 4) else (((orW L 0 : Nat) : Int), 0)) 100 (fun k hk => .inl (by
      unfold api_Field_278.f
      rw [any_big L hok hg, Option.bind_some]
      cases hb : L.any bigF with
      | true => rfl
      | false => exact prog_or L hL hok hb hg L.length 0 k 0 (by omega) (by omega) (by decide))) L.length 0 k 0 (by omega) (by omega) (by decide) rfl
    rw [hs] at this
    exact this
end Go.Proofs.YtblnfngigdipcaaGreatDoor.M
namespace Go.Proofs.YtblnfngigdipcaaGreatDoor.M
open Go.RowKit Go.Proofs.YtblnfngigdipcaaGreatDoor.P Go.Proofs.YtblnfngigdipcaaGreatDoorW.PrintWords Go.Proofs.YtblnfngigdipcaaGreatDoorW.PrintLast Go.Proofs.YtblnfngigdipcaaGreatDoorW.PrintMore
set_option linter.unusedVariables false
set_option linter.unusedSimpArgs false
def tL : List Nat := [0, 8388607, 8388607, 8388607, 14680063, 14680063, 2064383, 4194303, 4194303, 16777215, 1627389951, 67108863, 16777199, 992, 2097120, 0, 2094079]
theorem tL_at : ∀ s : Fin 17, wordV (onesL (partsOf ((s.val : Nat) : Int))) = (((tL.getD s.val 0 : Nat) : Int), 0) := by decide +kernel
theorem ones_good : ∀ s : Fin 17, (onesL (partsOf ((s.val : Nat) : Int))).length ≤ 40 ∧ (onesL (partsOf ((s.val : Nat) : Int))).all (fun f => decide (0 ≤ f.f2 ∧ f.f2 < 4294967296)) = true := by decide +kernel
theorem tL_lt : ∀ s : Fin 17, tL.getD s.val 0 < 4294967296 := by decide +kernel
def shp (i : Nat) : Nat := (inst_shape i).toNat
def baseN (i : Nat) : Nat := (baseL.getD i 0).toNat
theorem base_fin : ∀ i : Fin 40, baseL.getD i.val 0 = ((baseN i.val : Nat) : Int) ∧ baseN i.val < 4294967296 ∧ baseN i.val &&& tL.getD (shp i.val) 0 = 0 ∧ shp i.val ≤ 16 := by decide +kernel
theorem over_ones (k : Nat) (hk : 200 ≤ k) (s : Nat) (h : s ≤ 16) : code_over.f k 0 (onesL (partsOf (s : Int))) = some ((tL.getD s 0 : Nat) : Int) := by
  obtain ⟨h1, h2⟩ := ones_good ⟨s, by omega⟩
  have h3 := tL_at ⟨s, by omega⟩
  have h4 := tL_lt ⟨s, by omega⟩
  simp only at h1 h2 h3 h4
  unfold code_over.f
  rw [word_spec k _ hk h1 (fun f hf => by simpa [good] using List.all_eq_true.1 h2 f hf), Option.bind_some, h3, if_pos rfl]
  congr 1
  have := u32_or_nat 0 (tL.getD s 0) (by omega) h4
  simpa using this
def has (w i : Nat) : Prop := w &&& (4294967295 - tL.getD (shp i) 0) = baseN i
instance (w i : Nat) : Decidable (has w i) := by unfold has; infer_instance
def opF (w : Nat) : Nat → Nat → Nat
  | 0, _ => 0
  | d + 1, i => if i = 0 then opF w d (i + 1) else if has w i then i else opF w d (i + 1)
theorem shapeN_at (i : Nat) (h1 : 1 ≤ i) (h2 : i < 40) : shapeN (i : Int) = shp i := by
  unfold shapeN shp
  rw [if_neg (by omega), if_neg (by omega), Int.toNat_natCast]
theorem opGo_at (k : Nat) (hk : 200 ≤ k) (w : Nat) (hw : w < 4294967296) : ∀ d i, i + d = 40 → opGo k (w : Int) d i = some ((opF w d i : Nat) : Int)
  | 0, _, _ => rfl
  | d + 1, i, h => by
    unfold opGo opF
    rw [shape_at, Option.bind_some]
    by_cases h0 : i = 0
    · rw [if_pos h0, if_pos h0]; exact opGo_at k hk w hw d (i + 1) (by omega)
    · obtain ⟨b1, b2, b3, b4⟩ := base_fin ⟨i, by omega⟩
      simp only at b1 b2 b3 b4
      have h4 := tL_lt ⟨shp i, by omega⟩
      simp only at h4
      rw [if_neg h0, if_neg h0, shapeN_at i (by omega) (by omega), over_ones k hk _ b4, Option.bind_some, u32_andNot_nat _ _ hw h4, b1]
      by_cases hh : has w i
      · rw [if_pos hh, if_pos (by unfold has at hh; rw [hh])]
      · rw [if_neg hh, if_neg (by intro e; apply hh; unfold has; omega)]
        exact opGo_at k hk w hw d (i + 1) (by omega)
theorem op_at (k : Nat) (hk : 200 ≤ k) (w : Nat) (hw : w < 4294967296) : code_Opcode.f k (w : Int) = some ((opF w 40 0 : Nat) : Int) := opGo_at k hk w hw 40 0 rfl
theorem of_opF (w : Nat) : ∀ d j, j + d = 40 → opF w d j ≠ 0 → 1 ≤ opF w d j ∧ opF w d j < 40 ∧ has w (opF w d j)
  | 0, j, h, hn => absurd rfl hn
  | d + 1, j, h, hn => by
    unfold opF at hn ⊢
    by_cases h0 : j = 0
    · rw [if_pos h0] at hn ⊢; exact of_opF w d (j + 1) (by omega) hn
    · rw [if_neg h0] at hn ⊢
      by_cases hh : has w j
      · rw [if_pos hh]; exact ⟨by omega, by omega, hh⟩
      · rw [if_neg hh] at hn ⊢; exact of_opF w d (j + 1) (by omega) hn
theorem orW_sub : ∀ (L : List Fld) (t t' w : Nat), scan L t = some t' → L.any bigF = false → (∀ i, w.testBit i = true → t.testBit i = true) →
    (∀ i, (orW L w).testBit i = true → t'.testBit i = true) ∧ (∀ i, t.testBit i = true → t'.testBit i = true) ∧ (∀ i, t'.testBit i = true → t.testBit i = true ∨ ∃ f, f ∈ L ∧ (mskN f).testBit i = true) ∧ ∀ f, f ∈ L → ∀ i, (mskN f).testBit i = true → t'.testBit i = true
  | [], t, t', w, hs, _, hsub => by
    unfold scan at hs
    obtain rfl := Option.some.inj hs
    exact ⟨hsub, fun _ h => h, fun _ h => .inl h, fun f hf => absurd hf (by simp)⟩
  | g :: l, t, t', w, hs, hb, hsub => by
    unfold scan at hs
    simp only [List.any_cons, Bool.or_eq_false_iff] at hb
    by_cases h1 : okF g = true
    · rw [if_pos h1] at hs
      by_cases h2 : t &&& mskN g = 0
      · rw [if_pos h2] at hs
        obtain ⟨i1, i2, i3, i4⟩ := orW_sub l (t ||| mskN g) t' (w ||| bitsN g) hs hb.2 (by
          intro i hi
          rw [Nat.testBit_or] at hi ⊢
          cases a : w.testBit i with
          | true => rw [hsub i a]; rfl
          | false => rw [a, Bool.false_or] at hi; rw [bits_sub g hb.1 i hi, Bool.or_true])
        refine ⟨i1, fun i hi => i2 i (by rw [Nat.testBit_or, hi]; rfl), fun i hi => ?_, fun f hf i hi => ?_⟩
        · rcases i3 i hi with h | ⟨f, hf, h⟩
          · rw [Nat.testBit_or] at h
            cases a : t.testBit i with
            | true => exact .inl rfl
            | false => rw [a, Bool.false_or] at h; exact .inr ⟨g, List.mem_cons_self .., h⟩
          · exact .inr ⟨f, List.mem_cons_of_mem _ hf, h⟩
        · rcases List.mem_cons.1 hf with rfl | hf
          · exact i2 i (by rw [Nat.testBit_or, hi, Bool.or_true])
          · exact i4 f hf i hi
      · rw [if_neg h2] at hs; exact absurd hs (by simp)
    · rw [if_neg h1] at hs; exact absurd hs (by simp)
theorem mask_bit (t i : Nat) (ht : t < 4294967296) (hi : i < 32) : (4294967295 - t).testBit i = !t.testBit i := by
  rw [show (4294967295 : Nat) - t = 2 ^ 32 - (t + 1) by omega, Nat.testBit_two_pow_sub_succ (by omega)]
  simp [hi]
theorem word_has (op : Nat) (o1 : 1 ≤ op) (o2 : op < 40) (L : List Fld) (hs : scan L 0 = some (tL.getD (shp op) 0)) (hb : L.any bigF = false) :
    baseN op ||| orW L 0 < 4294967296 ∧ has (baseN op ||| orW L 0) op ∧ ∀ f, f ∈ L → (baseN op ||| orW L 0) / 2 ^ f.f0.toNat % 2 ^ f.f1.toNat = f.f2.toNat := by
  obtain ⟨-, b2, b3, b4⟩ := base_fin ⟨op, o2⟩
  simp only at b2 b3 b4
  have ht := tL_lt ⟨shp op, by omega⟩
  simp only at ht
  obtain ⟨-, hw, -, hf⟩ := word_fold L 0 _ 0 hs hb (by decide) (by decide) (by simp)
  obtain ⟨hsub, -, -, hin⟩ := orW_sub L 0 _ 0 hs hb (by simp)
  have e32 : (2 : Nat) ^ 32 = 4294967296 := by decide
  have hlt : baseN op ||| orW L 0 < 2 ^ 32 := Nat.or_lt_two_pow (by omega) hw
  have hbase : ∀ i, (tL.getD (shp op) 0).testBit i = true → (baseN op).testBit i = false := fun i hi => by
    cases c : (baseN op).testBit i with
    | false => rfl
    | true => exact absurd ⟨c, hi⟩ (and_zero_bits _ _ b3 i)
  refine ⟨by omega, ?_, ?_⟩
  · unfold has
    apply Nat.eq_of_testBit_eq
    intro i
    rw [Nat.testBit_and, Nat.testBit_or]
    by_cases hi : i < 32
    · rw [mask_bit _ i ht hi]
      cases c : (tL.getD (shp op) 0).testBit i with
      | true => rw [hbase i c]; simp
      | false =>
        have : (orW L 0).testBit i = false := by
          cases d : (orW L 0).testBit i with
          | false => rfl
          | true => rw [hsub i d] at c; cases c
        rw [this]; simp
    · have hz : ∀ x : Nat, x < 2 ^ 32 → x.testBit i = false := fun x hx => Nat.testBit_lt_two_pow (Nat.lt_of_lt_of_le hx (Nat.pow_le_pow_right (by decide) (by omega)))
      rw [hz (baseN op) (by omega), hz _ hw]; rfl
  · intro f hfm
    apply Nat.eq_of_testBit_eq
    intro i
    rw [Nat.testBit_mod_two_pow, Nat.testBit_div_two_pow, Nat.testBit_or]
    have hbig : f.f2.toNat < 2 ^ f.f1.toNat := by
      have := List.any_eq_false.1 hb f hfm
      unfold bigF at this
      simp at this
      omega
    by_cases hi : i < f.f1.toNat
    · rw [Nat.add_comm i, hf f hfm i hi]
      have : (tL.getD (shp op) 0).testBit (f.f0.toNat + i) = true := hin f hfm _ (by rw [msk_bit, decide_eq_true_eq]; omega)
      rw [hbase _ this]; simp [hi]
    · rw [Nat.testBit_lt_two_pow (Nat.lt_of_lt_of_le hbig (Nat.pow_le_pow_right (by decide) (by omega)))]
      simp [hi]
end Go.Proofs.YtblnfngigdipcaaGreatDoor.M
namespace Go.Proofs.YtblnfngigdipcaaGreatDoor.MM
open Go.RowKit Go.Proofs.YtblnfngigdipcaaGreatDoorW.PrintWords Go.Proofs.YtblnfngigdipcaaGreatDoorW.PrintLast Go.Proofs.YtblnfngigdipcaaGreatDoorW.PrintMore
theorem pow_pos (n : Nat) : (0 : Int) < 2 ^ n := Int.pow_pos (by decide)
theorem pow_split (a b : Nat) : (2 : Int) ^ (a + b) = 2 ^ a * 2 ^ b := Int.pow_add 2 a b
theorem pow_le (a b : Nat) (h : a ≤ b) : (2 : Int) ^ a ≤ 2 ^ b := by
  obtain ⟨c, rfl⟩ := Nat.exists_eq_add_of_le h
  rw [pow_split]
  have h1 := pow_pos a
  have h2 := pow_pos c
  have := Int.mul_le_mul_of_nonneg_left (show (1 : Int) ≤ 2 ^ c by omega) (Int.le_of_lt h1)
  simpa using this
theorem wrap64_self (x : Int) (h0 : -9223372036854775808 ≤ x) (h1 : x < 9223372036854775808) : wrap64 x = x := by unfold wrap64; omega
theorem u64_self (x : Int) (h0 : 0 ≤ x) (h1 : x < 18446744073709551616) : IntKind.u64.wrap x = x := by rw [IntKind.wrap_u64]; omega
theorem shl_nat (k : IntKind) (x : Int) (n : Nat) (h : n ≤ k.bits) : shl k x (n : Int) = k.wrap (x * 2 ^ n) := by unfold shl; rw [Int.toNat_natCast, Nat.min_eq_left h]
theorem shr_nat (k : IntKind) (x : Int) (n : Nat) (h : n ≤ k.bits) : shr k x (n : Int) = x / 2 ^ n := by unfold shr; rw [Int.toNat_natCast, Nat.min_eq_left h]
theorem toNat_pow (n : Nat) : ((2 : Int) ^ n - 1).toNat = 2 ^ n - 1 := by
  have : ((2 ^ n : Nat) : Int) = (2 : Int) ^ n := by simp
  have := Nat.two_pow_pos n
  omega
theorem and_ones_u64 (a : Int) (n : Nat) (h : n ≤ 64) (a0 : 0 ≤ a) (a1 : a < 18446744073709551616) : bits .and .u64 a (2 ^ n - 1) = a % 2 ^ n := by
  have hp := pow_pos n
  have hs : (2 : Int) ^ n ≤ 2 ^ 64 := pow_le n 64 h
  rw [u64_and a _ a0 a1 (by omega) (by simp at hs; omega), toNat_pow, Nat.and_two_pow_sub_one_eq_mod]
  obtain ⟨m, rfl⟩ := Int.eq_ofNat_of_zero_le a0
  simp
theorem mod_64 (v : Int) (v0 : 0 ≤ v) (v1 : v < 18446744073709551616) : v % 2 ^ 64 = v := Int.emod_eq_of_lt v0 v1
end Go.Proofs.YtblnfngigdipcaaGreatDoor.MM
namespace Go.Proofs.YtblnfngigdipcaaGreatDoor.MM
open Go.RowKit
end Go.Proofs.YtblnfngigdipcaaGreatDoor.MM
namespace Go.Proofs.YtblnfngigdipcaaGreatDoor.MM
def cnt : Nat → Nat → Nat
  | 0, _ => 0
  | n + 1, x => x % 2 + cnt n (x / 2)
theorem cnt_le : ∀ n x, cnt n x ≤ n
  | 0, _ => Nat.le_refl _
  | n + 1, x => by have := cnt_le n (x / 2); unfold cnt; omega
theorem cnt_add : ∀ (m n x : Nat), cnt (m + n) x = cnt m x + cnt n (x / 2 ^ m)
  | 0, n, x => by simp [cnt]
  | m + 1, n, x => by
    rw [show m + 1 + n = (m + n) + 1 by omega, cnt, cnt, cnt_add m n (x / 2), Nat.div_div_eq_div_mul, Nat.pow_succ, Nat.mul_comm 2, Nat.add_assoc]
theorem and_split (k x a b : Nat) (ha : a < 2 ^ k) : x &&& (2 ^ k * b + a) = 2 ^ k * (x / 2 ^ k &&& b) + (x % 2 ^ k &&& a) := by
  have hp := Nat.two_pow_pos k
  have hx : x % 2 ^ k &&& a < 2 ^ k := Nat.and_lt_two_pow _ ha
  apply Nat.eq_of_testBit_eq
  intro i
  rw [Nat.testBit_and, Nat.testBit_two_pow_mul_add _ ha, Nat.testBit_two_pow_mul_add _ hx]
  by_cases c : i < k
  · rw [if_pos c, if_pos c, Nat.testBit_and, Nat.testBit_mod_two_pow, decide_eq_true c, Bool.true_and]
  · rw [if_neg c, if_neg c, Nat.testBit_and, Nat.testBit_div_two_pow, show i - k + k = i by omega]
def m1 : Nat → Nat
  | 0 => 0
  | n + 1 => 2 ^ 2 * m1 n + 1
def m2 : Nat → Nat
  | 0 => 0
  | n + 1 => 2 ^ 4 * m2 n + 3
def m3 : Nat → Nat
  | 0 => 0
  | n + 1 => 2 ^ 8 * m3 n + 15
def lanes (b : Nat) : Nat → Nat → Nat
  | 0, _ => 0
  | n + 1, x => cnt b x + 2 ^ b * lanes b n (x / 2 ^ b)
theorem lanes_cons (b n x : Nat) : lanes b (n + 1) x = cnt b x + 2 ^ b * lanes b n (x / 2 ^ b) := rfl
theorem c2 (x : Nat) : cnt 2 x = x % 2 + x / 2 % 2 := by simp [cnt]
theorem and1 (y : Nat) : y &&& 1 = y % 2 := Nat.and_two_pow_sub_one_eq_mod y 1
theorem and3 (y : Nat) : y &&& 3 = y % 4 := Nat.and_two_pow_sub_one_eq_mod y 2
theorem and15 (y : Nat) : y &&& 15 = y % 16 := Nat.and_two_pow_sub_one_eq_mod y 4
theorem and127 (y : Nat) : y &&& 127 = y % 128 := Nat.and_two_pow_sub_one_eq_mod y 7
theorem stage1 : ∀ (n x : Nat), (x / 2 &&& m1 n) + (x &&& m1 n) = lanes 2 n x
  | 0, x => by simp [m1, lanes]
  | n + 1, x => by
    have ih := stage1 n (x / 4)
    rw [m1, and_split 2 _ 1 _ (by decide), and_split 2 _ 1 _ (by decide), lanes_cons, c2, and1, and1]
    simp only [show (2 : Nat) ^ 2 = 4 from rfl] at *
    rw [← ih, show x / 2 / 4 = x / 4 / 2 by omega]
    omega
theorem stage2 : ∀ (n x : Nat), (lanes 2 (2 * n) x / 4 &&& m2 n) + (lanes 2 (2 * n) x &&& m2 n) = lanes 4 n x
  | 0, x => by simp [m2, lanes]
  | n + 1, x => by
    have ih := stage2 n (x / 16)
    have e : lanes 2 (2 * (n + 1)) x = cnt 2 x + 4 * (cnt 2 (x / 4) + 4 * lanes 2 (2 * n) (x / 16)) := by
      rw [show 2 * (n + 1) = 2 * n + 1 + 1 by omega, lanes_cons, lanes_cons, Nat.div_div_eq_div_mul]
    have h1 := cnt_le 2 x
    have h2 := cnt_le 2 (x / 4)
    have h3 : cnt 4 x = cnt 2 x + cnt 2 (x / 4) := cnt_add 2 2 x
    rw [m2, and_split 4 _ 3 _ (by decide), and_split 4 _ 3 _ (by decide), lanes_cons, h3, and3, and3]
    simp only [show (2 : Nat) ^ 4 = 16 from rfl] at *
    rw [← ih, e]
    generalize lanes 2 (2 * n) (x / 16) = y at *
    generalize cnt 2 x = a at *
    generalize cnt 2 (x / 4) = b at *
    rw [show (a + 4 * (b + 4 * y)) / 4 / 16 = y / 4 by omega, show (a + 4 * (b + 4 * y)) / 16 = y by omega]
    omega
theorem stage3 : ∀ (n x : Nat), (lanes 4 (2 * n) x / 16 + lanes 4 (2 * n) x) &&& m3 n = lanes 8 n x
  | 0, x => by simp [m3, lanes]
  | n + 1, x => by
    have ih := stage3 n (x / 256)
    have e : lanes 4 (2 * (n + 1)) x = cnt 4 x + 16 * (cnt 4 (x / 16) + 16 * lanes 4 (2 * n) (x / 256)) := by
      rw [show 2 * (n + 1) = 2 * n + 1 + 1 by omega, lanes_cons, lanes_cons, Nat.div_div_eq_div_mul]
    have h1 := cnt_le 4 x
    have h2 := cnt_le 4 (x / 16)
    have h3 : cnt 8 x = cnt 4 x + cnt 4 (x / 16) := cnt_add 4 4 x
    have hy : lanes 4 (2 * n) (x / 256) % 16 ≤ 4 := by
      cases n with
      | zero => simp [lanes]
      | succ n =>
        have := cnt_le 4 (x / 256)
        rw [show 2 * (n + 1) = 2 * n + 1 + 1 by omega, lanes_cons]
        simp only [show (2 : Nat) ^ 4 = 16 from rfl]
        omega
    rw [m3, and_split 8 _ 15 _ (by decide), lanes_cons, h3, and15]
    simp only [show (2 : Nat) ^ 8 = 256 from rfl] at *
    rw [← ih, e]
    generalize lanes 4 (2 * n) (x / 256) = y at *
    generalize cnt 4 x = a at *
    generalize cnt 4 (x / 16) = b at *
    rw [show ((a + 16 * (b + 16 * y)) / 16 + (a + 16 * (b + 16 * y))) / 256 = y / 16 + y by omega]
    omega
theorem lanes8 (x : Nat) : ∃ c0 c1 c2 c3 c4 c5 c6 c7 : Nat, c0 ≤ 8 ∧ c1 ≤ 8 ∧ c2 ≤ 8 ∧ c3 ≤ 8 ∧ c4 ≤ 8 ∧ c5 ≤ 8 ∧ c6 ≤ 8 ∧ c7 ≤ 8 ∧
    lanes 8 8 x = c0 + 256 * (c1 + 256 * (c2 + 256 * (c3 + 256 * (c4 + 256 * (c5 + 256 * (c6 + 256 * c7)))))) ∧ cnt 64 x = c0 + c1 + c2 + c3 + c4 + c5 + c6 + c7 := by
  refine ⟨cnt 8 x, cnt 8 (x / 256), cnt 8 (x / 256 / 256), cnt 8 (x / 256 / 256 / 256), cnt 8 (x / 256 / 256 / 256 / 256), cnt 8 (x / 256 / 256 / 256 / 256 / 256), cnt 8 (x / 256 / 256 / 256 / 256 / 256 / 256), cnt 8 (x / 256 / 256 / 256 / 256 / 256 / 256 / 256),
    cnt_le _ _, cnt_le _ _, cnt_le _ _, cnt_le _ _, cnt_le _ _, cnt_le _ _, cnt_le _ _, cnt_le _ _, ?_, ?_⟩
  · simp only [lanes, show (2 : Nat) ^ 8 = 256 from rfl, Nat.mul_zero, Nat.add_zero]
  · rw [show 64 = 8 + 56 from rfl, cnt_add 8 56, show 56 = 8 + 48 from rfl, cnt_add 8 48, show 48 = 8 + 40 from rfl, cnt_add 8 40, show 40 = 8 + 32 from rfl, cnt_add 8 32, show 32 = 8 + 24 from rfl, cnt_add 8 24, show 24 = 8 + 16 from rfl, cnt_add 8 16, show 16 = 8 + 8 from rfl, cnt_add 8 8]
    simp only [show (2 : Nat) ^ 8 = 256 from rfl]
    omega
theorem stage4 (w x y z c0 c1 c2 c3 c4 c5 c6 c7 : Nat) (h0 : c0 ≤ 8) (h1 : c1 ≤ 8) (h2 : c2 ≤ 8) (h3 : c3 ≤ 8) (h4 : c4 ≤ 8) (h5 : c5 ≤ 8) (h6 : c6 ≤ 8) (h7 : c7 ≤ 8)
    (hw : w = c0 + 256 * (c1 + 256 * (c2 + 256 * (c3 + 256 * (c4 + 256 * (c5 + 256 * (c6 + 256 * c7))))))) (hx : x = w + w / 256) (hy : y = x + x / 65536) (hz : z = y + y / 4294967296) :
    w < 18446744073709551616 ∧ x < 18446744073709551616 ∧ y < 18446744073709551616 ∧ z < 18446744073709551616 ∧ z % 128 = c0 + c1 + c2 + c3 + c4 + c5 + c6 + c7 := by
  have e1 : w / 256 = c1 + 256 * (c2 + 256 * (c3 + 256 * (c4 + 256 * (c5 + 256 * (c6 + 256 * c7))))) := by omega
  have e2 : x = (c0 + c1) + 256 * ((c1 + c2) + 256 * ((c2 + c3) + 256 * ((c3 + c4) + 256 * ((c4 + c5) + 256 * ((c5 + c6) + 256 * ((c6 + c7) + 256 * c7)))))) := by omega
  have b0 : w < 18446744073709551616 := by omega
  clear e1 hw hx
  have e3 : x / 65536 = (c2 + c3) + 256 * ((c3 + c4) + 256 * ((c4 + c5) + 256 * ((c5 + c6) + 256 * ((c6 + c7) + 256 * c7)))) := by omega
  have e4 : y = (c0 + c1 + c2 + c3) + 256 * ((c1 + c2 + c3 + c4) + 256 * ((c2 + c3 + c4 + c5) + 256 * ((c3 + c4 + c5 + c6) + 256 * ((c4 + c5 + c6 + c7) + 256 * ((c5 + c6 + c7) + 256 * ((c6 + c7) + 256 * c7)))))) := by omega
  have b1 : x < 18446744073709551616 := by omega
  clear e2 e3 hy
  have e5 : y / 4294967296 = (c4 + c5 + c6 + c7) + 256 * ((c5 + c6 + c7) + 256 * ((c6 + c7) + 256 * c7)) := by omega
  have e6 : z = (c0 + c1 + c2 + c3 + c4 + c5 + c6 + c7) + 256 * ((c1 + c2 + c3 + c4 + c5 + c6 + c7) + 256 * ((c2 + c3 + c4 + c5 + c6 + c7) + 256 * ((c3 + c4 + c5 + c6 + c7) + 256 * ((c4 + c5 + c6 + c7) + 256 * ((c5 + c6 + c7) + 256 * ((c6 + c7) + 256 * c7)))))) := by omega
  have b2 : y < 18446744073709551616 := by omega
  clear e4 e5 hz
  exact ⟨b0, b1, b2, by omega, by omega⟩
end Go.Proofs.YtblnfngigdipcaaGreatDoor.MM
namespace Go.Proofs.YtblnfngigdipcaaGreatDoor.MM
open Go.RowKit Go.Proofs.YtblnfngigdipcaaGreatDoor.P Go.Proofs.YtblnfngigdipcaaGreatDoorW.PrintWords Go.Proofs.YtblnfngigdipcaaGreatDoorW.PrintLast Go.Proofs.YtblnfngigdipcaaGreatDoorW.PrintMore
theorem ones_fin : ∀ n : Fin 65, bits_ones.f (n.val : Int) = some ((2 : Int) ^ n.val - 1) := by decide +kernel
theorem ones_nat (n : Nat) (h : n ≤ 64) : bits_ones.f (n : Int) = some ((2 : Int) ^ n - 1) := ones_fin ⟨n, by omega⟩
def lowV (v n : Int) : Int := if n ≤ 0 then 0 else if 64 ≤ n then v else v % 2 ^ n.toNat
theorem clamp_le (n : Int) (h : n ≤ 0) : mn (mx n 0) 64 = ((0 : Nat) : Int) := by unfold mn mx; split <;> split <;> omega
theorem clamp_ge (n : Int) (h : 64 ≤ n) : mn (mx n 0) 64 = ((64 : Nat) : Int) := by unfold mn mx; split <;> split <;> omega
theorem clamp_in (n : Nat) (h : n ≤ 64) : mn (mx (n : Int) 0) 64 = (n : Int) := by unfold mn mx; split <;> split <;> omega
theorem low_nat (v : Int) (n : Nat) (h : n ≤ 64) (v0 : 0 ≤ v) (v1 : v < 18446744073709551616) (m : Int) (hm : mn (mx m 0) 64 = (n : Int)) : bits_Low.f v m = some (v % 2 ^ n) := by
  unfold bits_Low.f
  rw [hm, ones_nat n h]
  simp only [Option.bind_some]
  rw [and_ones_u64 v n h v0 v1]
theorem low_spec (v n : Int) (v0 : 0 ≤ v) (v1 : v < 18446744073709551616) : bits_Low.f v n = some (lowV v n) := by
  unfold lowV
  by_cases a : n ≤ 0
  · rw [if_pos a, low_nat v 0 (by decide) v0 v1 n (clamp_le n a), Int.pow_zero, Int.emod_one]
  · rw [if_neg a]
    by_cases b : 64 ≤ n
    · rw [if_pos b, low_nat v 64 (by decide) v0 v1 n (clamp_ge n b)]
      exact congrArg some (mod_64 v v0 v1)
    · rw [if_neg b]
      obtain ⟨m, rfl⟩ := Int.eq_ofNat_of_zero_le (show 0 ≤ n by omega)
      rw [low_nat v m (by omega) v0 v1 m (clamp_in m (by omega)), Int.toNat_natCast]
theorem cast_pow (n : Nat) : ((2 ^ n : Nat) : Int) = (2 : Int) ^ n := by simp
theorem nat_64 (n : Nat) (v : Nat) (h : n ≤ 64) (hv : v < 2 ^ n) : (v : Int) < 18446744073709551616 := by
  have := Nat.pow_le_pow_right (show 0 < 2 by decide) h
  have e : (2 : Nat) ^ 64 = 18446744073709551616 := by decide
  omega
def rotN (v r size : Nat) : Nat := 2 ^ (size - r) * (v % 2 ^ r) + v / 2 ^ r
theorem rot_hi (v r size : Nat) (hr : r ≤ size) (hv : v < 2 ^ size) : v / 2 ^ r < 2 ^ (size - r) := by
  apply Nat.div_lt_of_lt_mul
  rw [← Nat.pow_add, show r + (size - r) = size by omega]; exact hv
theorem rot_bit (v r size i : Nat) (hr : r < size) (hv : v < 2 ^ size) (hi : i < size) : (rotN v r size).testBit i = v.testBit ((i + r) % size) := by
  unfold rotN
  rw [Nat.testBit_two_pow_mul_add _ (rot_hi v r size (by omega) hv)]
  by_cases c : i < size - r
  · rw [if_pos c, Nat.testBit_div_two_pow, Nat.mod_eq_of_lt (by omega)]
  · rw [if_neg c, Nat.testBit_mod_two_pow, Nat.mod_eq_sub_mod (by omega), Nat.mod_eq_of_lt (by omega)]
    rw [show i - (size - r) = i + r - size by omega, show decide (i + r - size < r) = true from decide_eq_true (by omega), Bool.true_and]
theorem rot_lt (v r size : Nat) (hr : r ≤ size) (hv : v < 2 ^ size) : rotN v r size < 2 ^ size := by
  unfold rotN
  have h1 := rot_hi v r size hr hv
  have h2 : v % 2 ^ r < 2 ^ r := Nat.mod_lt _ (Nat.two_pow_pos r)
  have h3 : 2 ^ (size - r) * (v % 2 ^ r + 1) ≤ 2 ^ (size - r) * 2 ^ r := Nat.mul_le_mul_left _ h2
  rw [← Nat.pow_add, show size - r + r = size by omega, Nat.mul_add] at h3
  omega
def sizeB (size : Int) : Bool := size == 2 || size == 4 || size == 8 || size == 16 || size == 32 || size == 64
def rotV (v r size : Int) : Int × Int := if sizeB size = true ∧ 0 ≤ r ∧ r < size then (if v < 2 ^ size.toNat then (((rotN v.toNat r.toNat size.toNat : Nat) : Int), 0) else (0, 4)) else (0, 1)
theorem size_cases (size : Int) (h : sizeB size = true) : ∃ n : Nat, size = n ∧ 2 ≤ n ∧ n ≤ 64 := by
  simp only [sizeB, Bool.or_eq_true, beq_iff_eq] at h
  exact ⟨size.toNat, by omega, by omega, by omega⟩
theorem rotV_nat (v r size : Nat) (h : sizeB size = true) (hr : r < size) : rotV v r size = if v < 2 ^ size then (((rotN v r size : Nat) : Int), 0) else (0, 4) := by
  unfold rotV
  rw [if_pos ⟨h, by omega, by omega⟩]
  simp only [Int.toNat_natCast]
  rw [← cast_pow]
  by_cases c : v < 2 ^ size
  · rw [if_pos c, if_pos (by omega)]
  · rw [if_neg c, if_neg (by omega)]
theorem rotV_bad (v r size : Int) (h : ¬ (sizeB size = true ∧ 0 ≤ r ∧ r < size)) : rotV v r size = (0, 1) := by unfold rotV; rw [if_neg h]
theorem sh0 : shl .i64 2 0 = 2 := by decide +kernel
theorem sh1 : shl .i64 2 1 = 4 := by decide +kernel
theorem sh2 : shl .i64 2 2 = 8 := by decide +kernel
theorem sh3 : shl .i64 2 3 = 16 := by decide +kernel
theorem sh4 : shl .i64 2 4 = 32 := by decide +kernel
theorem sh5 : shl .i64 2 5 = 64 := by decide +kernel
theorem wr0 : wrap64 1 = 1 := by decide +kernel
theorem wr1 : wrap64 2 = 2 := by decide +kernel
theorem wr2 : wrap64 3 = 3 := by decide +kernel
theorem wr3 : wrap64 4 = 4 := by decide +kernel
theorem wr4 : wrap64 5 = 5 := by decide +kernel
theorem wr5 : wrap64 6 = 6 := by decide +kernel
theorem rot_open (k : Nat) (v r size : Int) : bits_Rotate.f (k + 7) v r size = if sizeB size = true then (if r < 0 then bits_Rotate.j1 k v r size true else bits_Rotate.j1 k v r size (decide (r ≥ size))) else bits_Rotate.j1 k v r size true := by
  unfold bits_Rotate.f sizeB
  by_cases a : size = 2
  · subst a; simp [bits_Rotate.l0, sh0, wr0, wr1, wr2, wr3, wr4, wr5]
  · by_cases b : size = 4
    · subst b; simp [bits_Rotate.l0, sh0, sh1, wr0, wr1, wr2, wr3, wr4, wr5]
    · by_cases c : size = 8
      · subst c; simp [bits_Rotate.l0, sh0, sh1, sh2, wr0, wr1, wr2, wr3, wr4, wr5]
      · by_cases d : size = 16
        · subst d; simp [bits_Rotate.l0, sh0, sh1, sh2, sh3, wr0, wr1, wr2, wr3, wr4, wr5]
        · by_cases e : size = 32
          · subst e; simp [bits_Rotate.l0, sh0, sh1, sh2, sh3, sh4, wr0, wr1, wr2, wr3, wr4, wr5]
          · by_cases f : size = 64
            · subst f; simp [bits_Rotate.l0, sh0, sh1, sh2, sh3, sh4, sh5, wr0, wr1, wr2, wr3, wr4, wr5]
            · simp [bits_Rotate.l0, sh0, sh1, sh2, sh3, sh4, sh5, wr0, wr1, wr2, wr3, wr4, wr5, a, b, c, d, e, f]
theorem rot_or (v r size : Nat) (hs : size ≤ 64) (hr : r < size) (hv : v < 2 ^ size) : (v / 2 ^ r ||| v * 2 ^ (size - r) % 2 ^ 64) % 2 ^ size = rotN v r size := by
  have h1 := rot_hi v r size (by omega) hv
  have hsm : 2 ^ (size - r) ≤ 2 ^ size := Nat.pow_le_pow_right (by decide) (by omega)
  have e : v * 2 ^ (size - r) % 2 ^ 64 % 2 ^ size = 2 ^ (size - r) * (v % 2 ^ r) := by
    rw [Nat.mod_mod_of_dvd _ (Nat.pow_dvd_pow 2 hs), Nat.mul_comm, show (2 : Nat) ^ size = 2 ^ (size - r) * 2 ^ r by rw [← Nat.pow_add, show size - r + r = size by omega], Nat.mul_mod_mul_left]
  rw [Nat.or_mod_two_pow, e, Nat.mod_eq_of_lt (by omega), Nat.or_comm]
  exact nat_join (size - r) _ _ (Nat.mul_mod_right _ _) h1
theorem rot_spec (k : Nat) (v r size : Int) (hk : 200 ≤ k) (v0 : 0 ≤ v) (v1 : v < 18446744073709551616) : bits_Rotate.f k v r size = some (rotV v r size) := by
  obtain ⟨v, rfl⟩ := Int.eq_ofNat_of_zero_le v0
  obtain ⟨k, rfl⟩ : ∃ m, k = m + 8 := ⟨k - 8, by omega⟩
  rw [rot_open (k + 1)]
  by_cases hs : sizeB size = true
  · rw [if_pos hs]
    obtain ⟨n, rfl, n0, n1⟩ := size_cases size hs
    by_cases a : r < 0
    · rw [if_pos a, rotV_bad _ _ _ (by omega)]; rfl
    · rw [if_neg a]
      by_cases b : r < (n : Int)
      · obtain ⟨r, rfl⟩ := Int.eq_ofNat_of_zero_le (show 0 ≤ r by omega)
        rw [rotV_nat v r n hs (by omega), show decide ((r : Int) ≥ n) = false from decide_eq_false (by omega)]
        simp only [bits_Rotate.j1]
        rw [if_neg (by decide), ones_nat n n1]
        simp only [Option.bind_some, ← cast_pow]
        by_cases c : v < 2 ^ n
        · have h64 : v < 18446744073709551616 := by omega
          have hd : v / 2 ^ r ≤ v := Nat.div_le_self _ _
          have e64 : (2 : Nat) ^ 64 = 18446744073709551616 := by decide
          have hm : v * 2 ^ (n - r) % 2 ^ 64 < 2 ^ 64 := Nat.mod_lt _ (by decide)
          have ho : v / 2 ^ r ||| v * 2 ^ (n - r) % 2 ^ 64 < 2 ^ 64 := Nat.or_lt_two_pow (by omega) hm
          rw [if_neg (by omega), if_pos (by omega), wrap64_self ((n : Int) - r) (by omega) (by omega), if_pos (by omega), shr_nat _ _ _ (by simp [IntKind.bits]; omega),
            show (n : Int) - r = ((n - r : Nat) : Int) by omega, shl_nat _ _ _ (by simp [IntKind.bits]; omega), IntKind.wrap_u64,
            show (v : Int) / 2 ^ r = ((v / 2 ^ r : Nat) : Int) by simp, show (v : Int) * 2 ^ (n - r) % 18446744073709551616 = ((v * 2 ^ (n - r) % 2 ^ 64 : Nat) : Int) by rw [e64]; simp,
            u64_or_nat _ _ (Nat.lt_of_le_of_lt hd h64) (by rw [← e64]; exact hm)]
          rw [low_spec _ _ (Int.natCast_nonneg _) (nat_64 64 _ (Nat.le_refl _) ho), if_pos c]
          simp only [Option.bind_some, lowV]
          rw [if_neg (by omega)]
          by_cases d : 64 ≤ (n : Int)
          · obtain rfl : n = 64 := by omega
            have := rot_or v r 64 n1 (by omega) c
            rw [Nat.mod_eq_of_lt ho] at this
            rw [if_pos d, this]
          · rw [if_neg d, Int.toNat_natCast, ← cast_pow, ← rot_or v r n n1 (by omega) c]
            simp
        · rw [if_pos (by have := Nat.two_pow_pos n; omega), if_neg c]
      · rw [show decide (r ≥ (n : Int)) = true from decide_eq_true (by omega), rotV_bad _ _ _ (by omega)]; rfl
  · rw [if_neg hs, rotV_bad _ _ _ (fun h => hs h.1)]; rfl
def rep (x size : Nat) : Nat := x * ((2 ^ 64 - 1) / (2 ^ size - 1))
def Sz (s : Nat) : Prop := s = 2 ∨ s = 4 ∨ s = 8 ∨ s = 16 ∨ s = 32 ∨ s = 64
theorem Sz.le {s : Nat} (h : Sz s) : s ≤ 64 := by unfold Sz at h; omega
theorem Sz.pos {s : Nat} (h : Sz s) : 2 ≤ s := by unfold Sz at h; omega
theorem Sz.sizeB {s : Nat} (h : Sz s) : sizeB (s : Int) = true := by rcases h with rfl | rfl | rfl | rfl | rfl | rfl <;> decide
theorem bits_or_nat (a b : Nat) (ha : a < 2 ^ 64) (hb : b < 2 ^ 64) : Go.bits .or .u64 (a : Int) (b : Int) = ((a ||| b : Nat) : Int) := by
  have hx : a ||| b < 2 ^ 64 := Nat.or_lt_two_pow ha hb
  have h1 : (BitVec.ofInt 64 (a : Int)).toNat = a := by
    rw [BitVec.ofInt_natCast, BitVec.toNat_ofNat]; exact Nat.mod_eq_of_lt ha
  have h2 : (BitVec.ofInt 64 (b : Int)).toNat = b := by
    rw [BitVec.ofInt_natCast, BitVec.toNat_ofNat]; exact Nat.mod_eq_of_lt hb
  show IntKind.u64.wrap ((BitVec.ofInt 64 (a : Int) ||| BitVec.ofInt 64 (b : Int)).toNat : Int) = _
  rw [BitVec.toNat_or, h1, h2, IntKind.wrap_u64]
  have e : (2 : Nat) ^ 64 = 18446744073709551616 := by decide
  omega
theorem or_dbl (v s : Nat) (h : v < 2 ^ s) : v ||| v * 2 ^ s = v * (2 ^ s + 1) := by
  rw [Nat.or_comm, Nat.mul_comm v, ← Nat.two_pow_add_eq_or_of_lt h, Nat.mul_add, Nat.mul_one, Nat.mul_comm v]
theorem dbl_lt (v s : Nat) (h : v < 2 ^ s) : v * (2 ^ s + 1) < 2 ^ (2 * s) := by
  have e : (2 : Nat) ^ (2 * s) = 2 ^ s * 2 ^ s := by rw [Nat.two_mul, Nat.pow_add]
  rw [e, Nat.mul_add, Nat.mul_one]
  have : (v + 1) * 2 ^ s ≤ 2 ^ s * 2 ^ s := Nat.mul_le_mul_right _ h
  rw [Nat.add_mul, Nat.one_mul] at this
  omega
theorem again_step (k v s : Nat) (h : v < 2 ^ s) (hs : 2 * s ≤ 64) : mask_again.l0 (k + 1) (v : Int) (s : Int) = mask_again.l0 k ((v * (2 ^ s + 1) : Nat) : Int) ((2 * s : Nat) : Int) := by
  have h1 := dbl_lt v s h
  have h2 : (2 : Nat) ^ (2 * s) ≤ 2 ^ 64 := Nat.pow_le_pow_right (by decide) hs
  have h3 : v * 2 ^ s ≤ v * (2 ^ s + 1) := Nat.mul_le_mul_left _ (by omega)
  have h4 : v * 1 ≤ v * (2 ^ s + 1) := Nat.mul_le_mul_left _ (by omega)
  have e64 : (2 : Nat) ^ 64 = 18446744073709551616 := by decide
  simp only [mask_again.l0]
  rw [if_pos (by omega), if_pos (by omega), shl_nat _ _ _ (by show s ≤ 64; omega), ← cast_pow, ← Int.natCast_mul, u64_self _ (by omega) (by omega), bits_or_nat _ _ (by omega) (by omega), or_dbl v s h, wrap64_self _ (by omega) (by omega)]
  congr 1
  omega
theorem again_end (k : Nat) (v : Int) : mask_again.l0 (k + 1) v 64 = some v := by
  simp only [mask_again.l0]
  rw [if_neg (by decide)]
theorem rep64 (v : Nat) : rep v 64 = v := by unfold rep; rw [show (2 ^ 64 - 1) / (2 ^ 64 - 1) = 1 by decide, Nat.mul_one]
theorem rep32 (v : Nat) : rep v 32 = rep (v * (2 ^ 32 + 1)) 64 := by unfold rep; rw [Nat.mul_assoc]
theorem rep16 (v : Nat) : rep v 16 = rep (v * (2 ^ 16 + 1)) 32 := by unfold rep; rw [Nat.mul_assoc]
theorem rep8 (v : Nat) : rep v 8 = rep (v * (2 ^ 8 + 1)) 16 := by unfold rep; rw [Nat.mul_assoc]
theorem rep4 (v : Nat) : rep v 4 = rep (v * (2 ^ 4 + 1)) 8 := by unfold rep; rw [Nat.mul_assoc]
theorem rep2 (v : Nat) : rep v 2 = rep (v * (2 ^ 2 + 1)) 4 := by unfold rep; rw [Nat.mul_assoc]
theorem ag64 (k v : Nat) (_ : v < 2 ^ 64) : mask_again.l0 (k + 1) (v : Int) 64 = some ((rep v 64 : Nat) : Int) := by rw [rep64]; exact again_end k v
theorem ag32 (k v : Nat) (h : v < 2 ^ 32) : mask_again.l0 (k + 2) (v : Int) 32 = some ((rep v 32 : Nat) : Int) := by rw [rep32]; exact (again_step (k + 1) v 32 h (by decide)).trans (ag64 k _ (dbl_lt v 32 h))
theorem ag16 (k v : Nat) (h : v < 2 ^ 16) : mask_again.l0 (k + 3) (v : Int) 16 = some ((rep v 16 : Nat) : Int) := by rw [rep16]; exact (again_step (k + 2) v 16 h (by decide)).trans (ag32 k _ (dbl_lt v 16 h))
theorem ag8 (k v : Nat) (h : v < 2 ^ 8) : mask_again.l0 (k + 4) (v : Int) 8 = some ((rep v 8 : Nat) : Int) := by rw [rep8]; exact (again_step (k + 3) v 8 h (by decide)).trans (ag16 k _ (dbl_lt v 8 h))
theorem ag4 (k v : Nat) (h : v < 2 ^ 4) : mask_again.l0 (k + 5) (v : Int) 4 = some ((rep v 4 : Nat) : Int) := by rw [rep4]; exact (again_step (k + 4) v 4 h (by decide)).trans (ag8 k _ (dbl_lt v 4 h))
theorem ag2 (k v : Nat) (h : v < 2 ^ 2) : mask_again.l0 (k + 6) (v : Int) 2 = some ((rep v 2 : Nat) : Int) := by rw [rep2]; exact (again_step (k + 5) v 2 h (by decide)).trans (ag4 k _ (dbl_lt v 2 h))
theorem again_spec (k v s : Nat) (hk : 6 ≤ k) (hs : Sz s) (h : v < 2 ^ s) : mask_again.f k (v : Int) (s : Int) = some ((rep v s : Nat) : Int) := by
  unfold mask_again.f
  rcases hs with rfl | rfl | rfl | rfl | rfl | rfl
  · obtain ⟨m, rfl⟩ : ∃ m, k = m + 6 := ⟨k - 6, by omega⟩; exact ag2 m v h
  · obtain ⟨m, rfl⟩ : ∃ m, k = m + 5 := ⟨k - 5, by omega⟩; exact ag4 m v h
  · obtain ⟨m, rfl⟩ : ∃ m, k = m + 4 := ⟨k - 4, by omega⟩; exact ag8 m v h
  · obtain ⟨m, rfl⟩ : ∃ m, k = m + 3 := ⟨k - 3, by omega⟩; exact ag16 m v h
  · obtain ⟨m, rfl⟩ : ∃ m, k = m + 2 := ⟨k - 2, by omega⟩; exact ag32 m v h
  · obtain ⟨m, rfl⟩ : ∃ m, k = m + 1 := ⟨k - 1, by omega⟩; exact ag64 m v h
def isRep (v s : Nat) : Bool := rep (v % 2 ^ s) s == v
def sizeV (v : Nat) : Nat := if isRep v 2 then 2 else if isRep v 4 then 4 else if isRep v 8 then 8 else if isRep v 16 then 16 else if isRep v 32 then 32 else 64
theorem sizeV_sz (v : Nat) : Sz (sizeV v) := by unfold sizeV Sz; (repeat' split) <;> simp
theorem isRep64 (v : Nat) (h : v < 2 ^ 64) : isRep v 64 = true := by unfold isRep; rw [rep64, Nat.mod_eq_of_lt h]; exact beq_self_eq_true v
theorem sizeV_rep (v : Nat) (h : v < 2 ^ 64) : isRep v (sizeV v) = true := by
  unfold sizeV
  (repeat' split) <;> first | assumption | exact isRep64 v h
theorem sizeV_eq (v : Nat) (h : v < 2 ^ 64) : rep (v % 2 ^ sizeV v) (sizeV v) = v := eq_of_beq (sizeV_rep v h)
theorem low_sz (v s : Nat) (hs : Sz s) (h : v < 2 ^ 64) : bits_Low.f (v : Int) (s : Int) = some ((v % 2 ^ s : Nat) : Int) := by
  have e64 : (2 : Nat) ^ 64 = 18446744073709551616 := by decide
  rw [low_nat (v : Int) s hs.le (by omega) (by omega) _ (clamp_in s hs.le), Int.natCast_emod, cast_pow]
theorem ask_spec (k v s : Nat) (hk : 6 ≤ k) (hs : Sz s) (h : v < 2 ^ 64) : mask_ask.f k (v : Int) (s : Int) = some (isRep v s) := by
  unfold mask_ask.f isRep
  rw [low_sz v s hs h]
  simp only [Option.bind_some]
  rw [again_spec k _ s hk hs (Nat.mod_lt _ (Nat.two_pow_pos s))]
  simp only [Option.bind_some]
  congr 1
  rw [Bool.eq_iff_iff, beq_iff_eq, beq_iff_eq]
  omega
theorem size_spec (k v : Nat) (hk : 6 ≤ k) (h : v < 2 ^ 64) : mask_Size.f k (v : Int) = some ((sizeV v : Nat) : Int) := by
  have a2 : mask_ask.f k (v : Int) 2 = some (isRep v 2) := ask_spec k v 2 hk (by simp [Sz]) h
  have a4 : mask_ask.f k (v : Int) 4 = some (isRep v 4) := ask_spec k v 4 hk (by simp [Sz]) h
  have a8 : mask_ask.f k (v : Int) 8 = some (isRep v 8) := ask_spec k v 8 hk (by simp [Sz]) h
  have a16 : mask_ask.f k (v : Int) 16 = some (isRep v 16) := ask_spec k v 16 hk (by simp [Sz]) h
  have a32 : mask_ask.f k (v : Int) 32 = some (isRep v 32) := ask_spec k v 32 hk (by simp [Sz]) h
  have a64 : mask_ask.f k (v : Int) 64 = some (isRep v 64) := ask_spec k v 64 hk (by simp [Sz]) h
  rw [isRep64 v h] at a64
  unfold mask_Size.f mask_sizes.f sizeV
  rw [a2, Option.bind_some]
  split
  · rfl
  rw [a4, Option.bind_some]
  split
  · rfl
  rw [a8, Option.bind_some]
  split
  · rfl
  rw [a16, Option.bind_some]
  split
  · rfl
  rw [a32, Option.bind_some]
  split
  · rfl
  rw [a64, Option.bind_some]
  rfl
theorem m1_32 : m1 32 = 6148914691236517205 := by decide +kernel
theorem m2_16 : m2 16 = 3689348814741910323 := by decide +kernel
theorem m3_8 : m3 8 = 1085102592571150095 := by decide +kernel
theorem and127_i64 (f : Nat) (h : f < 18446744073709551616) : Go.bits .and .i64 (wrap64 (f : Int)) 127 = ((f % 128 : Nat) : Int) := by
  have h1 : (BitVec.ofInt 64 (wrap64 (f : Int))).toNat = f := by
    rw [BitVec.toNat_ofInt]; unfold wrap64
    rw [show (((2 ^ 64 : Nat)) : Int) = 18446744073709551616 by decide]
    omega
  have h2 : (BitVec.ofInt 64 127).toNat = 127 := by decide
  show IntKind.i64.wrap ((BitVec.ofInt 64 (wrap64 (f : Int)) &&& BitVec.ofInt 64 127).toNat : Int) = _
  rw [BitVec.toNat_and, h1, h2, and127]
  have : f % 128 < 128 := Nat.mod_lt _ (by decide)
  rw [IntKind.wrap_i64]
  omega
theorem sum_step (c n : Nat) (h : c + c / n < 18446744073709551616) : IntKind.u64.wrap ((c : Int) + (c : Int) / (n : Int)) = ((c + c / n : Nat) : Int) := by
  have e : (c : Int) / (n : Int) = ((c / n : Nat) : Int) := (Int.natCast_ediv c n).symm
  rw [e]
  generalize c / n = q at *
  rw [u64_self _ (by omega) (by omega)]
  omega
theorem ones64_spec (x : Nat) (h : x < 2 ^ 64) : bits_OnesCount64.f (x : Int) = some ((cnt 64 x : Nat) : Int) := by
  have e64 : (2 : Nat) ^ 64 = 18446744073709551616 := by decide
  rw [e64] at h
  have s1 := stage1 32 x
  have s2 := stage2 16 x
  have s3 := stage3 8 x
  rw [m1_32] at s1
  rw [m2_16] at s2
  rw [m3_8] at s3
  have hA : IntKind.u64.wrap ((Go.bits .and .u64 ((x : Int) / 2) 6148914691236517205) + (Go.bits .and .u64 (x : Int) 6148914691236517205)) = ((lanes 2 32 x : Nat) : Int) := by
    have b1 : x / 2 &&& 6148914691236517205 ≤ 6148914691236517205 := Nat.and_le_right
    have b2 : x &&& 6148914691236517205 ≤ 6148914691236517205 := Nat.and_le_right
    rw [show (x : Int) / 2 = ((x / 2 : Nat) : Int) by omega, show (6148914691236517205 : Int) = ((6148914691236517205 : Nat) : Int) from rfl, tz_bits_and _ _ (by omega) (by omega), tz_bits_and _ _ (by omega) (by omega), ← s1, u64_self _ (by omega) (by omega)]
    omega
  have bA : lanes 2 32 x ≤ 12297829382473034410 := by
    have b1 : x / 2 &&& 6148914691236517205 ≤ 6148914691236517205 := Nat.and_le_right
    have b2 : x &&& 6148914691236517205 ≤ 6148914691236517205 := Nat.and_le_right
    omega
  have hB : IntKind.u64.wrap ((Go.bits .and .u64 (((lanes 2 32 x : Nat) : Int) / 4) 3689348814741910323) + (Go.bits .and .u64 ((lanes 2 32 x : Nat) : Int) 3689348814741910323)) = ((lanes 4 16 x : Nat) : Int) := by
    have b1 : lanes 2 32 x / 4 &&& 3689348814741910323 ≤ 3689348814741910323 := Nat.and_le_right
    have b2 : lanes 2 32 x &&& 3689348814741910323 ≤ 3689348814741910323 := Nat.and_le_right
    have s2' : (lanes 2 32 x / 4 &&& 3689348814741910323) + (lanes 2 32 x &&& 3689348814741910323) = lanes 4 16 x := s2
    rw [show ((lanes 2 32 x : Nat) : Int) / 4 = ((lanes 2 32 x / 4 : Nat) : Int) by omega, show (3689348814741910323 : Int) = ((3689348814741910323 : Nat) : Int) from rfl, tz_bits_and _ _ (by omega) (by omega), tz_bits_and _ _ (by omega) (by omega), ← s2', u64_self _ (by omega) (by omega)]
    omega
  have bB : lanes 4 16 x ≤ 7378697629483820646 := by
    have b1 : lanes 2 32 x / 4 &&& 3689348814741910323 ≤ 3689348814741910323 := Nat.and_le_right
    have b2 : lanes 2 32 x &&& 3689348814741910323 ≤ 3689348814741910323 := Nat.and_le_right
    have s2' : (lanes 2 32 x / 4 &&& 3689348814741910323) + (lanes 2 32 x &&& 3689348814741910323) = lanes 4 16 x := s2
    omega
  have hC : Go.bits .and .u64 (IntKind.u64.wrap (((lanes 4 16 x : Nat) : Int) / 16 + ((lanes 4 16 x : Nat) : Int))) 1085102592571150095 = ((lanes 8 8 x : Nat) : Int) := by
    have s3' : (lanes 4 16 x / 16 + lanes 4 16 x) &&& 1085102592571150095 = lanes 8 8 x := s3
    rw [u64_self _ (by omega) (by omega), show ((lanes 4 16 x : Nat) : Int) / 16 + ((lanes 4 16 x : Nat) : Int) = ((lanes 4 16 x / 16 + lanes 4 16 x : Nat) : Int) by omega, show (1085102592571150095 : Int) = ((1085102592571150095 : Nat) : Int) from rfl, tz_bits_and _ _ (by omega) (by omega), s3']
  obtain ⟨c0, c1, c2, c3, c4, c5, c6, c7, h0, h1, h2, h3, h4, h5, h6, h7, hl, hcnt⟩ := lanes8 x
  obtain ⟨q0, q1, q2, q3, q4⟩ := stage4 _ _ _ _ c0 c1 c2 c3 c4 c5 c6 c7 h0 h1 h2 h3 h4 h5 h6 h7 hl rfl rfl rfl
  unfold bits_OnesCount64.f
  rw [hA, hB, hC, hcnt]
  generalize lanes 8 8 x = c at *
  clear hcnt hC hl s1 s2 s3 hA hB bA bB h0 h1 h2 h3 h4 h5 h6 h7
  have eD : IntKind.u64.wrap ((c : Int) + (c : Int) / 256) = ((c + c / 256 : Nat) : Int) := sum_step c 256 q1
  rw [eD]
  generalize c + c / 256 = d at *
  have eE : IntKind.u64.wrap ((d : Int) + (d : Int) / 65536) = ((d + d / 65536 : Nat) : Int) := sum_step d 65536 q2
  rw [eE]
  generalize d + d / 65536 = e at *
  have eF : IntKind.u64.wrap ((e : Int) + (e : Int) / 4294967296) = ((e + e / 4294967296 : Nat) : Int) := sum_step e 4294967296 q3
  rw [eF, and127_i64 _ q3, q4]
theorem mask_ones_spec (x : Nat) (h : x < 2 ^ 64) : mask_Ones.f (x : Int) = some ((cnt 64 x : Nat) : Int) := by
  unfold mask_Ones.f
  rw [ones64_spec x h, Option.bind_some]
def maskN (s o r : Nat) : Nat := rep (rotN (2 ^ o - 1) r s) s
def fr (s : Nat) : Nat := if s = 64 then 0 else 64 - 2 * s
def nOf (s : Nat) : Int := if s = 64 then 1 else 0
theorem rot_back (x a s : Nat) (hx : x < 2 ^ s) (ha : a < s) : rotN (rotN x a s) ((s - a) % s) s = x := by
  have hm : (s - a) % s < s := Nat.mod_lt _ (by omega)
  have hl := rot_lt x a s (by omega) hx
  apply Nat.eq_of_testBit_eq
  intro i
  by_cases hi : i < s
  · rw [rot_bit _ _ s i hm hl hi, rot_bit x a s _ ha hx (Nat.mod_lt _ (by omega))]
    congr 1
    by_cases a0 : a = 0
    · subst a0
      rw [Nat.sub_zero, Nat.mod_self, Nat.add_zero, Nat.mod_mod, Nat.add_zero, Nat.mod_eq_of_lt hi]
    · rw [Nat.mod_eq_of_lt (show s - a < s by omega)]
      by_cases h : i < a
      · rw [Nat.mod_eq_of_lt (show i + (s - a) < s by omega), show i + (s - a) + a = i + s by omega, Nat.add_mod_right, Nat.mod_eq_of_lt hi]
      · rw [show i + (s - a) = (i - a) + s by omega, Nat.add_mod_right, Nat.mod_eq_of_lt (show i - a < s by omega), show i - a + a = i by omega, Nat.mod_eq_of_lt hi]
  · have hp : (2 : Nat) ^ s ≤ 2 ^ i := Nat.pow_le_pow_right (by decide) (by omega)
    rw [Nat.testBit_lt_two_pow (Nat.lt_of_lt_of_le (rot_lt _ _ s (Nat.le_of_lt hm) hl) hp), Nat.testBit_lt_two_pow (Nat.lt_of_lt_of_le hx hp)]
theorem full_fin : ∀ n : Fin 65, bits_Low.f 18446744073709551615 (n.val : Int) = some ((2 ^ n.val - 1 : Nat) : Int) := by decide +kernel
theorem full_low (o : Nat) (h : o ≤ 64) : bits_Low.f 18446744073709551615 (o : Int) = some ((2 ^ o - 1 : Nat) : Int) := full_fin ⟨o, by omega⟩
def Turned (x s o : Nat) : Prop := 0 < o ∧ o < s ∧ ∃ r, r < s ∧ rotN (2 ^ o - 1) r s = x
theorem j1_none (k x s o : Nat) (a : Int) (hk : 200 ≤ k) (hs : Sz s) (hx : x < 2 ^ s) (ho : 0 < o) (hos : o < s) (hno : ¬ Turned x s o) :
    mask_tell.j1 (k + 1) (x : Int) (s : Int) (o : Int) a = some (0, 0, 0) := by
  have hsl := hs.le
  simp only [mask_tell.j1]
  rw [rot_spec k _ _ _ hk (by omega) (nat_64 s x hsl hx), Option.bind_some, full_low o (by omega), Option.bind_some]
  have hp : 2 ≤ 2 ^ o := Nat.pow_le_pow_right (show 0 < 2 by decide) ho
  refine if_neg ?_
  intro he
  by_cases hr : 0 ≤ a ∧ a < s
  · obtain ⟨m, rfl⟩ : ∃ m : Nat, a = m := ⟨a.toNat, by omega⟩
    rw [rotV_nat x m s hs.sizeB (by omega), if_pos (by have := cast_pow s; omega)] at he
    apply hno
    refine ⟨ho, hos, (s - m) % s, Nat.mod_lt _ (by omega), ?_⟩
    have he' : rotN x m s = 2 ^ o - 1 := by exact Int.ofNat.inj he
    rw [← he']
    exact rot_back x m s hx (by omega)
  · rw [rotV_bad _ _ _ (by intro h; exact hr h.2)] at he
    have he' : (0 : Int) = ((2 ^ o - 1 : Nat) : Int) := he
    omega
set_option maxRecDepth 100000 in
theorem len_some (k : Nat) (x x2 : Int) : ∃ r, bits_Len64.j0 (k + 1) x x2 = some r := by
  rw [bits_Len64.j0]
  repeat' split
  all_goals first | exact ⟨_, rfl⟩ | (exfalso; omega)
theorem lz_some (k : Nat) (x : Int) : ∃ r, bits_LeadingZeros64.f (k + 1) x = some r := by
  have hl : ∃ r, bits_Len64.f (k + 1) x = some r := by
    unfold bits_Len64.f
    split
    · exact len_some k _ _
    · exact len_some k _ _
  obtain ⟨r, hr⟩ := hl
  unfold bits_LeadingZeros64.f
  rw [hr, Option.bind_some]
  exact ⟨_, rfl⟩
theorem cnt_zero : ∀ n, cnt n 0 = 0
  | 0 => rfl
  | n + 1 => by unfold cnt; rw [Nat.zero_mod, Nat.zero_div, cnt_zero n]
theorem cnt_low (s x : Nat) (hs : s ≤ 64) (hx : x < 2 ^ s) : cnt 64 x = cnt s x := by
  obtain ⟨d, hd⟩ : ∃ d, 64 = s + d := ⟨64 - s, by omega⟩
  rw [hd, cnt_add, Nat.div_eq_of_lt hx, cnt_zero, Nat.add_zero]
theorem tell_none (k v : Nat) (hk : 300 ≤ k) (hv : v < 2 ^ 64) (hno : ¬ Turned (v % 2 ^ sizeV v) (sizeV v) (cnt 64 (v % 2 ^ sizeV v))) : mask_tell.f k (v : Int) = some (0, 0, 0) := by
  have hs := sizeV_sz v
  have hsl := hs.le
  have hsp := hs.pos
  have hx : v % 2 ^ sizeV v < 2 ^ sizeV v := Nat.mod_lt _ (Nat.two_pow_pos _)
  have hx64 : v % 2 ^ sizeV v < 2 ^ 64 := Nat.lt_of_le_of_lt (Nat.mod_le _ _) hv
  have hle := cnt_le (sizeV v) (v % 2 ^ sizeV v)
  rw [← cnt_low _ _ hsl hx] at hle
  have e64 : (2 : Nat) ^ 64 = 18446744073709551616 := by decide
  unfold mask_tell.f
  rw [size_spec k v (by omega) hv, Option.bind_some, low_sz v _ hs hv, Option.bind_some, mask_ones_spec _ hx64, Option.bind_some]
  generalize cnt 64 (v % 2 ^ sizeV v) = o at *
  generalize v % 2 ^ sizeV v = x at *
  generalize sizeV v = s at *
  obtain ⟨k, rfl⟩ : ∃ m, k = m + 3 := ⟨k - 3, by omega⟩
  have done_ : ∀ b : Bool, (b = true) → mask_tell.j0 (k + 3) (x : Int) (s : Int) (o : Int) b = some (0, 0, 0) := by
    intro b hb
    simp only [mask_tell.j0]
    rw [if_pos hb]
  by_cases ho : o = 0
  · rw [if_pos (by omega)]
    exact done_ true rfl
  · rw [if_neg (by omega)]
    by_cases hos : o = s
    · exact done_ _ (by subst hos; exact beq_self_eq_true _)
    · have hj : ∀ a : Int, mask_tell.j1 (k + 2) (x : Int) (s : Int) (o : Int) a = some (0, 0, 0) := fun a => j1_none (k + 1) x s o a (by omega) hs hx (by omega) (by omega) hno
      simp only [mask_tell.j0]
      rw [if_neg (by rw [beq_iff_eq]; omega)]
      have htz : bits_TrailingZeros64.f (x : Int) = some ((Lib.ctz 64 x : Nat) : Int) := by
        unfold bits_TrailingZeros64.f
        rw [if_pos ⟨by omega, by omega⟩, Int.toNat_natCast]
      rw [htz, Option.bind_some]
      split
      · rw [if_pos (by rw [wrap64_self _ (by omega) (by omega)]; omega)]
        obtain ⟨l, hl⟩ := lz_some (k + 1) (Go.bits .xor .u64 18446744073709551615 (shl .u64 (x : Int) (wrap64 (64 - (s : Int)))))
        rw [hl, Option.bind_some, if_neg (by omega)]
        exact hj _
      · exact hj _
theorem not_odd_one (v : Nat) (hno : ¬ Turned (v % 2 ^ sizeV v) (sizeV v) (cnt 64 (v % 2 ^ sizeV v))) : v ≠ 4294967297 := by
  rintro rfl
  apply hno
  have e1 : sizeV 4294967297 = 32 := by decide
  rw [e1]
  exact ⟨by decide, by decide, 0, by decide, by decide⟩
theorem is_none (k v : Nat) (hk : 300 ≤ k) (hv : v < 2 ^ 64) (hno : ¬ Turned (v % 2 ^ sizeV v) (sizeV v) (cnt 64 (v % 2 ^ sizeV v))) : mask_Is.f k (v : Int) = some false := by
  have hne := not_odd_one v hno
  unfold mask_Is.f
  rw [tell_none k v hk hv hno, Option.bind_some, if_neg (by decide)]
  congr 1
  rw [beq_eq_false_iff_ne]
  omega
theorem encode_none (k v : Nat) (hk : 300 ≤ k) (hv : v < 2 ^ 64) (hno : ¬ Turned (v % 2 ^ sizeV v) (sizeV v) (cnt 64 (v % 2 ^ sizeV v))) : mask_Encode.f k (v : Int) = some (0, 0, 0, 3) := by
  unfold mask_Encode.f
  rw [is_none k v hk hv hno, Option.bind_some, if_neg (by decide)]
def toldOk (s o r : Nat) : Bool := decide (mask_Encode.f 100 (maskN s o r : Nat) = some (nOf s, (r : Int), ((o - 1 + fr s : Nat) : Int), 0))
def toldAll (s o1 d : Nat) : Bool := (List.range d).all fun o => (List.range s).all fun r => toldOk s (o + o1) r
theorem toldAll_get {s o1 d : Nat} (h : toldAll s o1 d = true) (o r : Nat) (h1 : o1 ≤ o) (h2 : o < o1 + d) (hr : r < s) : mask_Encode.f 100 (maskN s o r : Nat) = some (nOf s, (r : Int), ((o - 1 + fr s : Nat) : Int), 0) := by
  unfold toldAll at h
  rw [List.all_eq_true] at h
  have ha := h (o - o1) (List.mem_range.mpr (by omega))
  rw [List.all_eq_true] at ha
  have hb := ha r (List.mem_range.mpr hr)
  rw [show o - o1 + o1 = o by omega] at hb
  exact of_decide_eq_true hb
theorem toldAll_2 : toldAll 2 1 1 = true := by decide +kernel
theorem toldAll_4 : toldAll 4 1 3 = true := by decide +kernel
theorem toldAll_8 : toldAll 8 1 7 = true := by decide +kernel
theorem toldAll_16 : toldAll 16 1 15 = true := by decide +kernel
theorem toldAll_32 : toldAll 32 1 31 = true := by decide +kernel
theorem toldAll_64a : toldAll 64 1 21 = true := by decide +kernel
theorem toldAll_64b : toldAll 64 22 21 = true := by decide +kernel
theorem toldAll_64c : toldAll 64 43 21 = true := by decide +kernel
theorem told_spec (k s o r : Nat) (hk : 100 ≤ k) (hs : Sz s) (h1 : 0 < o) (h2 : o < s) (hr : r < s) : mask_Encode.f k (maskN s o r : Nat) = some (nOf s, (r : Int), ((o - 1 + fr s : Nat) : Int), 0) := by
  refine at_rounds (mask_Encode.mono _) hk ?_
  rcases hs with rfl | rfl | rfl | rfl | rfl | rfl
  · exact toldAll_get toldAll_2 o r (by omega) (by omega) hr
  · exact toldAll_get toldAll_4 o r (by omega) (by omega) hr
  · exact toldAll_get toldAll_8 o r (by omega) (by omega) hr
  · exact toldAll_get toldAll_16 o r (by omega) (by omega) hr
  · exact toldAll_get toldAll_32 o r (by omega) (by omega) hr
  · by_cases c1 : o < 22
    · exact toldAll_get toldAll_64a o r (by omega) (by omega) hr
    · by_cases c2 : o < 43
      · exact toldAll_get toldAll_64b o r (by omega) (by omega) hr
      · exact toldAll_get toldAll_64c o r (by omega) (by omega) hr
def planZ (n s : Nat) : Nat := if n = 1 then 64 else if 60 ≤ s then 2 else if 56 ≤ s then 4 else if 48 ≤ s then 8 else if 32 ≤ s then 16 else 32
def decV (n r s : Nat) : Int × Int := if s - fr (planZ n s) + 1 < planZ n s ∧ r < planZ n s then ((maskN (planZ n s) (s - fr (planZ n s) + 1) r : Nat), 0) else (0, 3)
theorem planZ_sz (n s : Nat) : Sz (planZ n s) := by unfold planZ Sz; (repeat' split) <;> simp
def dataOk (n s : Nat) : Bool := decide (mask_Decode.size (n : Int) (s : Int) = some ((planZ n s : Nat) : Int) ∧ mask_front.f ((planZ n s : Nat) : Int) = some ((fr (planZ n s) : Nat) : Int) ∧
  fr (planZ n s) ≤ s)
theorem data_fin : ∀ n : Fin 2, ∀ s : Fin 64, dataOk n.val s.val = true := by decide +kernel
theorem rot_mask_lt (o r z : Nat) (ho : o < z) (hr : r < z) : 2 ^ o - 1 < 2 ^ z ∧ rotN (2 ^ o - 1) r z < 2 ^ z := by
  have hlt : 2 ^ o - 1 < 2 ^ z := by
    have := Nat.pow_le_pow_right (show 0 < 2 by decide) (Nat.le_of_lt ho)
    have := Nat.two_pow_pos o
    omega
  exact ⟨hlt, rot_lt _ r z (by omega) hlt⟩
theorem clampN (a b c : Nat) : 0 ≤ mn (mn (a : Int) b) c := by unfold mn; (repeat' split) <;> omega
theorem dec_spec (k n r s : Nat) (hk : 300 ≤ k) (hn : n ≤ 1) (hr : r ≤ 63) (hs : s ≤ 63) : mask_Decode.f k (n : Int) (r : Int) (s : Int) = some (decV n r s) := by
  obtain ⟨d1, d2, d3⟩ := of_decide_eq_true (data_fin ⟨n, by omega⟩ ⟨s, by omega⟩)
  have hz := planZ_sz n s
  have hzl := hz.le
  have d4 : fr (planZ n s) ≤ s := d3
  clear d3
  unfold mask_Decode.f decV
  rw [if_pos ⟨clampN n r s, by omega, by unfold mx; split <;> omega⟩, d1, Option.bind_some, d2, Option.bind_some]
  generalize planZ n s = z at *
  have hfr : fr z ≤ 64 := by unfold fr; split <;> omega
  rw [show wrap64 (wrap64 ((s : Int) - ((fr z : Nat) : Int)) + 1) = ((s - fr z + 1 : Nat) : Int) by rw [wrap64_self ((s : Int) - _) (by omega) (by omega), wrap64_self _ (by omega) (by omega)]; omega]
  by_cases hc : s - fr z + 1 < z ∧ r < z
  · have hl := rot_mask_lt _ r z hc.1 hc.2
    rw [if_pos ⟨by omega, by omega, by omega⟩, if_pos hc, full_low _ (by omega), Option.bind_some, rot_spec k _ _ _ (by omega) (by omega) (nat_64 z _ hzl hl.1), rotV_nat _ r z hz.sizeB hc.2, if_pos (by have := cast_pow z; omega), Option.bind_some,
      again_spec k _ z (by omega) hz hl.2, Option.bind_some]
    rfl
  · rw [if_neg (by omega), if_neg hc]
theorem is_of_enc {k : Nat} {v a b c : Int} (h : mask_Encode.f k v = some (a, b, c, 0)) : mask_Is.f k v = some true := by
  unfold mask_Encode.f at h
  obtain ⟨t, ht, h⟩ := Option.bind_eq_some_iff.mp h
  cases t with
  | true => exact ht
  | false =>
    rw [if_neg (by decide)] at h
    simp at h
theorem is_of_none {k : Nat} {v : Int} (h : mask_Encode.f k v = some (0, 0, 0, 3)) : mask_Is.f k v = some false := by
  unfold mask_Encode.f at h
  obtain ⟨t, ht, h⟩ := Option.bind_eq_some_iff.mp h
  cases t with
  | false => exact ht
  | true =>
    rw [if_pos rfl] at h
    obtain ⟨p, _, h⟩ := Option.bind_eq_some_iff.mp h
    simp at h
end Go.Proofs.YtblnfngigdipcaaGreatDoor.MM
namespace Go.Proofs.YtblnfngigdipcaaGreatDoor.MM
open Go.RowKit Go.Proofs.YtblnfngigdipcaaGreatDoor.P Go.Proofs.YtblnfngigdipcaaGreatDoorW.PrintWords Go.Proofs.YtblnfngigdipcaaGreatDoorW.PrintLast Go.Proofs.YtblnfngigdipcaaGreatDoorW.PrintMore
set_option linter.unusedVariables false
set_option linter.unusedSimpArgs false
theorem mask_own (k v : Nat) (hk : 700 ≤ k) (hv : v < 2 ^ 64) :
    (∃ s o r, Sz s ∧ 0 < o ∧ o < s ∧ r < s ∧ v = maskN s o r ∧ mask_Encode.f k (v : Int) = some (nOf s, (r : Int), ((o - 1 + fr s : Nat) : Int), 0)) ∨ mask_Encode.f k (v : Int) = some (0, 0, 0, 3) := by
  have hs := sizeV_sz v
  have hrep := sizeV_eq v hv
  have hnone := encode_none k v (by omega) hv
  generalize hs_ : sizeV v = s at *
  generalize ho_ : cnt 64 (v % 2 ^ s) = o at *
  by_cases ht : Turned (v % 2 ^ s) s o
  · obtain ⟨h0, h1, r, hr, he⟩ := ht
    have hm : maskN s o r = v := by unfold maskN; rw [he, hrep]
    have := told_spec k s o r (by omega) hs h0 h1 hr
    rw [hm] at this
    exact Or.inl ⟨s, o, r, hs, h0, h1, hr, hm.symm, this⟩
  · exact Or.inr (hnone ht)
theorem plan_of (s o : Nat) (hs : Sz s) (h1 : 0 < o) (h2 : o < s) : planZ (if s = 64 then 1 else 0) (o - 1 + fr s) = s ∧ o - 1 + fr s ≤ 63 := by
  unfold planZ fr
  rcases hs with rfl | rfl | rfl | rfl | rfl | rfl <;> simp <;> (repeat' split) <;> omega
theorem plan_one (n s : Nat) (hn : n ≤ 1) : nOf (planZ n s) = (n : Int) := by
  unfold nOf planZ
  (repeat' split) <;> omega
theorem plan_fr (n s : Nat) (hn : n ≤ 1) (hs : s ≤ 63) : fr (planZ n s) ≤ s := (of_decide_eq_true (data_fin ⟨n, by omega⟩ ⟨s, by omega⟩)).2.2
theorem mask_there (k v : Nat) (hk : 700 ≤ k) (hv : v < 2 ^ 64) :
    (∃ a b c : Int, mask_Is.f k (v : Int) = some true ∧ mask_Encode.f k (v : Int) = some (a, b, c, 0) ∧ 0 ≤ a ∧ a < 2 ∧ 0 ≤ b ∧ b < 64 ∧ 0 ≤ c ∧ c < 64 ∧ mask_Decode.f k a b c = some ((v : Int), 0)) ∨ mask_Is.f k (v : Int) = some false := by
  rcases mask_own k v hk hv with ⟨s, o, r, hs, h1, h2, h3, h4, he⟩ | he
  · left
    have hp := plan_of s o hs h1 h2
    obtain ⟨n, hn0⟩ : ∃ n : Nat, n = if s = 64 then 1 else 0 := ⟨_, rfl⟩
    have hn1 : n ≤ 1 := by rw [hn0]; split <;> omega
    have hn : nOf s = (n : Int) := by rw [hn0]; unfold nOf; split <;> rfl
    have hsl := hs.le
    rw [← hn0] at hp
    have hd := dec_spec k n r (o - 1 + fr s) (by omega) hn1 (by omega) hp.2
    unfold decV at hd
    rw [hp.1, show o - 1 + fr s - fr s + 1 = o by omega] at hd
    have hand : o < s ∧ r < s := And.intro h2 h3
    rw [if_pos hand, ← h4, ← hn] at hd
    refine ⟨nOf s, r, ((o - 1 + fr s : Nat) : Int), is_of_enc he, he, ?_, ?_, by omega, by omega, by omega, by omega, hd⟩ <;> (unfold nOf; split <;> omega)
  · exact Or.inr (is_of_none he)
theorem rep_lt (v s : Nat) (hs : Sz s) (h : v < 2 ^ s) : rep v s < 2 ^ 64 := by
  have h64 : ∀ v, v < 2 ^ 64 → rep v 64 < 2 ^ 64 := fun v h => by rw [rep64]; exact h
  have h32 : ∀ v, v < 2 ^ 32 → rep v 32 < 2 ^ 64 := fun v h => by rw [rep32]; exact h64 _ (dbl_lt v 32 h)
  have h16 : ∀ v, v < 2 ^ 16 → rep v 16 < 2 ^ 64 := fun v h => by rw [rep16]; exact h32 _ (dbl_lt v 16 h)
  have h8 : ∀ v, v < 2 ^ 8 → rep v 8 < 2 ^ 64 := fun v h => by rw [rep8]; exact h16 _ (dbl_lt v 8 h)
  have h4 : ∀ v, v < 2 ^ 4 → rep v 4 < 2 ^ 64 := fun v h => by rw [rep4]; exact h8 _ (dbl_lt v 4 h)
  have h2 : ∀ v, v < 2 ^ 2 → rep v 2 < 2 ^ 64 := fun v h => by rw [rep2]; exact h4 _ (dbl_lt v 2 h)
  rcases hs with rfl | rfl | rfl | rfl | rfl | rfl
  · exact h2 v h
  · exact h4 v h
  · exact h8 v h
  · exact h16 v h
  · exact h32 v h
  · exact h64 v h
theorem mask_here (k : Nat) (a b c : Nat) (hk : 700 ≤ k) (ha : a ≤ 1) (hb : b ≤ 63) (hc : c ≤ 63) :
    (∃ v : Nat, v < 2 ^ 64 ∧ mask_Decode.f k (a : Int) (b : Int) (c : Int) = some ((v : Int), 0) ∧ mask_Encode.f k (v : Int) = some ((a : Int), (b : Int), (c : Int), 0)) ∨ mask_Decode.f k (a : Int) (b : Int) (c : Int) = some (0, 3) := by
  have hd := dec_spec k a b c (by omega) ha hb hc
  unfold decV at hd
  by_cases hx : c - fr (planZ a c) + 1 < planZ a c ∧ b < planZ a c
  · left
    rw [if_pos hx] at hd
    have hz := planZ_sz a c
    have hf := plan_fr a c ha hc
    have he := told_spec k _ _ _ (by omega) hz (Nat.succ_pos _) hx.1 hx.2
    refine ⟨_, ?_, hd, ?_⟩
    · unfold maskN
      exact rep_lt _ _ hz (rot_mask_lt _ _ _ hx.1 hx.2).2
    · rw [he, plan_one a c ha]
      congr 4
      omega
  · rw [if_neg hx] at hd
    exact Or.inr hd
end Go.Proofs.YtblnfngigdipcaaGreatDoor.MM
