/- Fields and words: what bits.Field, bits.Word and the document's answers tell, as plain numbers (chapter 1). -/
import Derived.Test.YtclomjndhcpmfaaMShift
import Derived.Test.YtclomjndhcpmfaaPx13
import Derived.Test.YtclomjndhcpmfaaPx12
import Derived.Test.YtclomjndhcpmfaaPx12
namespace Go.Proofs.Ytclomjndhcpmfaa.M
open Go.RowKit Go.Proofs.Ytclomjndhcpmfaa.P Go.Proofs.YtclomjndhcpmfaaW.PrintWords Go.Proofs.YtclomjndhcpmfaaW.PrintLast Go.Proofs.YtclomjndhcpmfaaW.PrintMore

abbrev Fld := S56
abbrev rdF (L : List Fld) (i : Int) : Fld := rd_T56 L i
theorem rdF_nat (L : List Fld) (i : Nat) (h : i < L.length) : rdF L (i : Int) = L[i] := by
  unfold rdF rd_T56; rw [Int.toNat_natCast]; simp [List.getD, h]

/-- A right field. -/
def okI (a n : Int) : Bool := decide (0 ≤ a ∧ a ≤ 31 ∧ 1 ≤ n ∧ n ≤ 32 - a)
theorem right_spec (a n : Int) : bits_right.f a n = some (okI a n) := by
  unfold bits_right.f okI
  by_cases h1 : a ≥ 0
  · rw [if_pos h1]
    by_cases h2 : a < 32
    · rw [if_pos h2]
      by_cases h3 : n ≥ 1
      · rw [if_pos h3, wrap64_self _ (by omega) (by omega)]; congr 1; rw [decide_eq_decide]; omega
      · rw [if_neg h3, decide_eq_false (by omega)]
    · rw [if_neg h2, decide_eq_false (by omega)]
  · rw [if_neg h1, decide_eq_false (by omega)]
theorem ref_right_spec (a n : Int) : cleatref01_Right.f a n = some (okI a n) := by
  unfold cleatref01_Right.f okI
  by_cases h1 : a ≥ 0
  · rw [if_pos h1]
    by_cases h2 : a ≤ 31
    · rw [if_pos h2]
      by_cases h3 : n ≥ 1
      · rw [if_pos h3, wrap64_self _ (by omega) (by omega)]; congr 1; rw [decide_eq_decide]; omega
      · rw [if_neg h3, decide_eq_false (by omega)]
    · rw [if_neg h2, decide_eq_false (by omega)]
  · rw [if_neg h1, decide_eq_false (by omega)]
theorem okI_nat (a n : Int) (h : okI a n = true) : ∃ A M : Nat, a = A ∧ n = M ∧ A ≤ 31 ∧ 1 ≤ M ∧ A + M ≤ 32 := by
  have := of_decide_eq_true h
  exact ⟨a.toNat, n.toNat, by omega, by omega, by omega, by omega, by omega⟩

/-- A field's bits, and the error. -/
def fieldV (w a n : Int) : Int × Int := if okI a n = true then (w / 2 ^ a.toNat % 2 ^ n.toNat, 0) else (0, 1)
theorem fieldV_nat (w : Int) (A M : Nat) (h : okI A M = true) : fieldV w A M = (w / 2 ^ A % 2 ^ M, 0) := by unfold fieldV; rw [if_pos h]; simp only [Int.toNat_natCast]
theorem div_in (w : Int) (A : Nat) (w0 : 0 ≤ w) : 0 ≤ w / 2 ^ A ∧ w / 2 ^ A ≤ w := ⟨Int.ediv_nonneg w0 (Int.le_of_lt (pow_pos A)), Int.ediv_le_self _ w0⟩
theorem field_spec (w a n : Int) (w0 : 0 ≤ w) (w1 : w < 4294967296) : bits_Field.f w a n = some (fieldV w a n) := by
  unfold bits_Field.f
  rw [right_spec, Option.bind_some]
  by_cases h : okI a n = true
  · obtain ⟨A, M, rfl, rfl, h1, h2, h3⟩ := okI_nat a n h
    have hp := pow_small M (by omega)
    have hp0 := pow_pos M
    obtain ⟨d0, d1⟩ := div_in w A w0
    rw [if_pos h, if_pos (by omega), ones_nat M (by omega), Option.bind_some, shr_nat _ _ _ (by simp [IntKind.bits]; omega), Int.emod_eq_of_lt (show (0 : Int) ≤ 2 ^ M - 1 by omega) (by omega), and_ones_u32 _ M (by omega) d0 (by omega), fieldV_nat w A M h]
  · rw [if_neg h]; unfold fieldV; rw [if_neg h]
theorem ref_field_spec (k : Nat) (w a n : Int) (hk : 70 ≤ k) (w0 : 0 ≤ w) (w1 : w < 4294967296) : cleatref01_Field.f k w a n = some (fieldV w a n) := by
  unfold cleatref01_Field.f
  rw [ref_right_spec, Option.bind_some]
  by_cases h : okI a n = true
  · obtain ⟨A, M, rfl, rfl, h1, h2, h3⟩ := okI_nat a n h
    have hp := pow_small M (by omega)
    have hp0 := pow_pos M
    have ha0 := pow_pos A
    obtain ⟨d0, d1⟩ := div_in w A w0
    have hm0 := Int.emod_nonneg (w / 2 ^ A) (show (2 : Int) ^ M ≠ 0 by omega)
    have hm1 := Int.emod_lt_of_pos (w / 2 ^ A) hp0
    rw [if_pos h, power_nat k A hk (by omega), Option.bind_some, if_neg (by omega), power_nat k M hk (by omega), Option.bind_some, if_neg (by omega), u64_self w w0 (by omega), Int.tdiv_eq_ediv_of_nonneg w0, u64_self _ d0 (by omega), Int.tmod_eq_emod_of_nonneg d0,
      Int.emod_eq_of_lt hm0 (by omega), fieldV_nat w A M h]
  · rw [if_neg h]; unfold fieldV; rw [if_neg h]

/-- A field's places in a word, and its bits there. -/
def mskN (f : Fld) : Nat := (2 ^ f.f1.toNat - 1) * 2 ^ f.f0.toNat
def bitsN (f : Fld) : Nat := f.f2.toNat * 2 ^ f.f0.toNat
def okF (f : Fld) : Bool := okI f.f0 f.f1
def bigF (f : Fld) : Bool := decide (2 ^ f.f1.toNat ≤ f.f2.toNat)
def scan : List Fld → Nat → Option Nat
  | [], t => some t
  | f :: l, t => if okF f = true then (if t &&& mskN f = 0 then scan l (t ||| mskN f) else none) else none
def orW : List Fld → Nat → Nat
  | [], w => w
  | f :: l, w => orW l (w ||| bitsN f)
def sumW : List Fld → Nat
  | [] => 0
  | f :: l => bitsN f + sumW l
def wordV (L : List Fld) : Int × Int := match scan L 0 with
  | none => (0, 1)
  | some _ => if L.any bigF then (0, 4) else (((orW L 0 : Nat) : Int), 0)
/-- A field as the arguments' reading leaves it: its number is one of 32 bits. -/
def good (f : Fld) : Prop := 0 ≤ f.f2 ∧ f.f2 < 4294967296

theorem msk_bit (f : Fld) (i : Nat) : (mskN f).testBit i = decide (f.f0.toNat ≤ i ∧ i < f.f0.toNat + f.f1.toNat) := by
  unfold mskN
  rw [Nat.testBit_mul_two_pow, Nat.testBit_two_pow_sub_one]
  rw [Bool.eq_iff_iff]; simp; omega
theorem msk_lt (f : Fld) (h : okF f = true) : mskN f < 2 ^ 32 := by
  obtain ⟨A, M, h0, h1, h2, h3, h4⟩ := okI_nat _ _ h
  refine Nat.lt_pow_two_of_testBit _ fun i hi => ?_
  rw [msk_bit, decide_eq_false]; omega
theorem bits_bit (f : Fld) (i : Nat) : (bitsN f).testBit i = (decide (f.f0.toNat ≤ i) && f.f2.toNat.testBit (i - f.f0.toNat)) := by
  unfold bitsN; rw [Nat.testBit_mul_two_pow]
theorem bits_sub (f : Fld) (hb : bigF f = false) (i : Nat) (hi : (bitsN f).testBit i = true) : (mskN f).testBit i = true := by
  rw [bits_bit f] at hi
  rw [msk_bit]
  simp only [Bool.and_eq_true, decide_eq_true_eq] at hi ⊢
  refine ⟨hi.1, ?_⟩
  have hV : f.f2.toNat < 2 ^ f.f1.toNat := by have := of_decide_eq_false hb; omega
  apply Classical.byContradiction
  intro c
  have := Nat.testBit_lt_two_pow (Nat.lt_of_lt_of_le hV (Nat.pow_le_pow_right (show 0 < 2 by decide) (show f.f1.toNat ≤ i - f.f0.toNat by omega)))
  rw [this] at hi
  exact absurd hi.2 (by decide)
theorem and_zero_bits (x y : Nat) (h : x &&& y = 0) (i : Nat) : ¬ (x.testBit i = true ∧ y.testBit i = true) := by
  intro ⟨a, b⟩
  have : (x &&& y).testBit i = true := by rw [Nat.testBit_and, a, b]; rfl
  rw [h, Nat.zero_testBit] at this
  exact absurd this (by decide)
theorem or_add (x y : Nat) (hx : x < 2 ^ 64) (hy : y < 2 ^ 64) (h : ∀ i, ¬ (x.testBit i = true ∧ y.testBit i = true)) (hs : x + y < 2 ^ 64) : x ||| y = x + y := by
  have e := BitVec.add_eq_or_of_and_eq_zero (BitVec.ofNat 64 x) (BitVec.ofNat 64 y) (by
    apply BitVec.eq_of_toNat_eq
    rw [BitVec.toNat_and, BitVec.toNat_ofNat, BitVec.toNat_ofNat, Nat.mod_eq_of_lt hx, Nat.mod_eq_of_lt hy]
    apply Nat.eq_of_testBit_eq
    intro i
    have := h i
    rw [Nat.testBit_and]
    cases hx : x.testBit i <;> cases hy : y.testBit i <;> simp_all)
  have e2 := congrArg BitVec.toNat e
  rw [BitVec.toNat_add, BitVec.toNat_or, BitVec.toNat_ofNat, BitVec.toNat_ofNat, Nat.mod_eq_of_lt hx, Nat.mod_eq_of_lt hy, Nat.mod_eq_of_lt hs] at e2
  exact e2.symm

/-- What the fields make: their bits added, each field reading as it was put, the rest as it was. -/
theorem word_fold : ∀ (L : List Fld) (t t' w : Nat), scan L t = some t' → L.any bigF = false → t < 2 ^ 32 → w < 2 ^ 32 → (∀ i, w.testBit i = true → t.testBit i = true) →
    orW L w = w + sumW L ∧ orW L w < 2 ^ 32 ∧ (∀ i, t.testBit i = true → (orW L w).testBit i = w.testBit i) ∧
    (∀ f, f ∈ L → ∀ i, i < f.f1.toNat → (orW L w).testBit (f.f0.toNat + i) = f.f2.toNat.testBit i)
  | [], t, t', w, _, _, ht, hw, _ => ⟨rfl, hw, fun _ _ => rfl, fun f hf => absurd hf (by simp)⟩
  | g :: l, t, t', w, hs, hb, ht, hw, hsub => by
    unfold scan at hs
    simp only [List.any_cons, Bool.or_eq_false_iff] at hb
    by_cases h1 : okF g = true
    · rw [if_pos h1] at hs
      by_cases h2 : t &&& mskN g = 0
      · rw [if_pos h2] at hs
        have hm := msk_lt g h1
        have hbl : bitsN g < 2 ^ 32 := by
          refine Nat.lt_pow_two_of_testBit _ fun i hi => ?_
          cases c : (bitsN g).testBit i with
          | false => rfl
          | true =>
            have := bits_sub g hb.1 i c
            rw [Nat.testBit_lt_two_pow (Nat.lt_of_lt_of_le hm (Nat.pow_le_pow_right (by decide) hi))] at this
            exact absurd this (by decide)
        have hdis : ∀ i, ¬ (w.testBit i = true ∧ (bitsN g).testBit i = true) := fun i ⟨a, b⟩ => and_zero_bits t _ h2 i ⟨hsub i a, bits_sub g hb.1 i b⟩
        have e64 := pow64
        have e32 : (2 : Nat) ^ 32 = 4294967296 := by decide
        have hor : w ||| bitsN g = w + bitsN g := or_add w _ (by omega) (by omega) hdis (by omega)
        have hw2 : w ||| bitsN g < 2 ^ 32 := Nat.or_lt_two_pow hw hbl
        obtain ⟨i1, i2, i3, i4⟩ := word_fold l (t ||| mskN g) t' (w ||| bitsN g) hs hb.2 (Nat.or_lt_two_pow ht hm) hw2 (by
          intro i hi
          rw [Nat.testBit_or] at hi ⊢
          cases a : w.testBit i with
          | true => rw [hsub i a]; rfl
          | false => rw [a, Bool.false_or] at hi; rw [bits_sub g hb.1 i hi, Bool.or_true])
        have e : orW (g :: l) w = orW l (w ||| bitsN g) := rfl
        rw [e]
        refine ⟨by rw [i1, hor]; unfold sumW; rw [Nat.add_assoc]; congr 1; cases l <;> rfl, i2, ?_, ?_⟩
        · intro i hi
          rw [i3 i (by rw [Nat.testBit_or, hi]; rfl), Nat.testBit_or]
          cases c : (bitsN g).testBit i with
          | false => rw [Bool.or_false]
          | true => exact absurd ⟨hi, bits_sub g hb.1 i c⟩ (and_zero_bits t _ h2 i)
        · intro f hf i hi
          rcases List.mem_cons.1 hf with rfl | hf
          · have hmi : (mskN f).testBit (f.f0.toNat + i) = true := by rw [msk_bit, decide_eq_true]; omega
            rw [i3 _ (by rw [Nat.testBit_or, hmi, Bool.or_true]), Nat.testBit_or]
            have hw0 : w.testBit (f.f0.toNat + i) = false := by
              cases c : w.testBit (f.f0.toNat + i) with
              | false => rfl
              | true => exact absurd ⟨hsub _ c, hmi⟩ (and_zero_bits t _ h2 _)
            rw [hw0, Bool.false_or, bits_bit f, decide_eq_true (by omega), Bool.true_and, Nat.add_sub_cancel_left]
          · exact i4 f hf i hi
      · rw [if_neg h2] at hs; exact absurd hs (by simp)
    · rw [if_neg h1] at hs; exact absurd hs (by simp)
theorem scan_ok : ∀ (L : List Fld) (t t' : Nat), scan L t = some t' → ∀ f, f ∈ L → okF f = true
  | [], _, _, _, f, hf => absurd hf (by simp)
  | g :: l, t, t', hs, f, hf => by
    unfold scan at hs
    by_cases h1 : okF g = true
    · rw [if_pos h1] at hs
      by_cases h2 : t &&& mskN g = 0
      · rw [if_pos h2] at hs
        rcases List.mem_cons.1 hf with rfl | hf
        · exact h1
        · exact scan_ok l _ t' hs f hf
      · rw [if_neg h2] at hs; exact absurd hs (by simp)
    · rw [if_neg h1] at hs; exact absurd hs (by simp)
end Go.Proofs.Ytclomjndhcpmfaa.M
