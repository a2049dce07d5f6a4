/- Relocations (chapter 26): values, and words that are turned. -/
import Derived.Test.YtkpkkjbigndnoaaDoorMCodeH
import Derived.Test.YtkpkkjbigndnoaaDoorPx17
import Derived.Test.YtkpkkjbigndnoaaDoorPx16
import Derived.Test.YtkpkkjbigndnoaaDoorPx17
namespace Go.Proofs.YtkpkkjbigndnoaaDoor.M
open Go.RowKit Go.Proofs.YtkpkkjbigndnoaaDoor.P Go.Proofs.YtkpkkjbigndnoaaDoorW.PrintWords Go.Proofs.YtkpkkjbigndnoaaDoorW.PrintLast Go.Proofs.YtkpkkjbigndnoaaDoorW.PrintMore
set_option linter.unusedVariables false
set_option linter.unusedSimpArgs false
theorem andNot_page (a : Int) (h0 : 0 ≤ a) (h1 : a < 18446744073709551616) : Go.bits .andNot .u64 a 4095 = a - a % 4096 := by
  obtain ⟨A, rfl⟩ := Int.eq_ofNat_of_zero_le h0
  have e64 : (2 : Nat) ^ 64 = 18446744073709551616 := by decide
  have key : (BitVec.ofInt 64 (A : Int) &&& ~~~ BitVec.ofInt 64 4095).toNat = A - A % 4096 := by
    have h12 : A = A / 4096 * 2 ^ 12 + A % 4096 := by rw [show (2 : Nat) ^ 12 = 4096 by decide]; omega
    apply Nat.eq_of_testBit_eq
    intro i
    rw [BitVec.toNat_and, BitVec.toNat_not, BitVec.toNat_ofInt, BitVec.toNat_ofInt, show (((A : Nat) : Int) % ((2 ^ 64 : Nat) : Int)).toNat = A by omega, show ((4095 : Int) % ((2 ^ 64 : Nat) : Int)).toNat = 2 ^ 12 - 1 by decide]
    rw [Nat.testBit_and, show 2 ^ 64 - 1 - (2 ^ 12 - 1) = 2 ^ 64 - ((2 ^ 12 - 1) + 1) by decide, Nat.testBit_two_pow_sub_succ (by decide), Nat.testBit_two_pow_sub_one]
    rw [show A - A % 4096 = A / 4096 * 2 ^ 12 by rw [show (2 : Nat) ^ 12 = 4096 by decide]; omega, Nat.testBit_mul_two_pow]
    by_cases hi : i < 64
    · by_cases hi2 : i < 12
      · simp [hi, hi2]; omega
      · have e : (A / 4096).testBit (i - 12) = A.testBit i := by
          rw [show (4096 : Nat) = 2 ^ 12 by decide, Nat.testBit_div_two_pow]
          congr 1; omega
        simp [hi, hi2, e]; omega
    · have hz : A.testBit i = false := Nat.testBit_lt_two_pow (Nat.lt_of_lt_of_le (show A < 2 ^ 64 by omega) (Nat.pow_le_pow_right (by decide) (by omega)))
      have e : (A / 4096).testBit (i - 12) = A.testBit i := by
        rw [show (4096 : Nat) = 2 ^ 12 by decide, Nat.testBit_div_two_pow]
        congr 1; omega
      simp [hi, hz, e]
  show IntKind.u64.wrap ((BitVec.ofInt 64 (A : Int) &&& ~~~ BitVec.ofInt 64 4095).toNat : Nat) = _
  rw [key, IntKind.wrap_u64]
  omega
/-- The value of a kind from a place to another one. -/
def valN (j a b : Int) : Int := if j < 6 then wrap64 (IntKind.u64.wrap (b - a)) else if j = 6 then wrap64 (Int.tdiv (wrap64 (IntKind.u64.wrap ((b - b % 4096) - (a - a % 4096)))) 4096) else b % 4096
theorem val_at (j a b : Int) (a0 : 0 ≤ a) (a1 : a < 18446744073709551616) (b0 : 0 ≤ b) (b1 : b < 18446744073709551616) : fix_val j a b = some (valN j a b) := by
  unfold fix_val valN
  by_cases h6 : j < 6
  · rw [if_pos h6, if_pos h6]; rfl
  · rw [if_neg h6, if_neg h6]
    by_cases h7 : j = 6
    · rw [if_pos h7, if_pos h7]
      unfold fix_pages.f place_Far.f
      rw [andNot_page a a0 a1, andNot_page b b0 b1, Option.bind_some]
    · rw [if_neg h7, if_neg h7]
      unfold fix_low.f
      rw [Int.tmod_eq_emod_of_nonneg b0]
      congr 1
      unfold wrap64
      omega
def okV (j v : Int) : Bool := decide (v.tmod (fix_rule j).2.2 = 0) && decide ((fix_rule j).1 ≤ v ∧ v ≤ (fix_rule j).2.1)
theorem value_at (j a b : Int) (hj : 2 ≤ j ∧ j ≤ 9) (a0 : 0 ≤ a) (a1 : a < 18446744073709551616) (b0 : 0 ≤ b) (b1 : b < 18446744073709551616) :
    (okV j (valN j a b) = true ∧ fix_Value.f j a b = some (IntKind.u64.wrap (valN j a b), 0)) ∨ (okV j (valN j a b) = false ∧ ∃ e, e ≠ 0 ∧ fix_Value.f j a b = some (0, e)) := by
  unfold fix_Value.f okV
  rw [if_pos (by omega), if_neg (by omega), val_at j a b a0 a1 b0 b1, Option.bind_some]
  by_cases h1 : (valN j a b).tmod (fix_rule j).2.2 = 0
  · rw [if_pos h1]
    by_cases h2 : (fix_rule j).1 ≤ valN j a b ∧ valN j a b ≤ (fix_rule j).2.1
    · rw [if_pos h2]
      exact .inl ⟨by simp [h1, h2], rfl⟩
    · rw [if_neg h2]
      exact .inr ⟨by simp only [Bool.and_eq_false_iff]; exact .inr (by simpa using h2), 4, by decide, rfl⟩
  · rw [if_neg h1]
    exact .inr ⟨by simp [h1], 5, by decide, rfl⟩
theorem value_bad (j a b : Int) (hj : ¬ (1 ≤ j ∧ j ≤ 9)) : fix_Value.f j a b = some (0, 1) := by
  unfold fix_Value.f
  rw [if_neg hj]
theorem val_range (j a b : Int) (b0 : 0 ≤ b) : -9223372036854775808 ≤ valN j a b ∧ valN j a b < 9223372036854775808 := by
  unfold valN
  split
  · unfold wrap64; omega
  · split
    · unfold wrap64; omega
    · omega
theorem back64 (v : Int) (h0 : -9223372036854775808 ≤ v) (h1 : v < 9223372036854775808) : wrap64 (IntKind.u64.wrap v) = v := by
  rw [IntKind.wrap_u64]; unfold wrap64; omega
/-- What fits: an operation of the kind, with nothing in its number. -/
theorem kinds_fin : ∀ o : Fin 40, part_kinds.getD o.val 0 = 0 ∨ (2 ≤ part_kinds.getD o.val 0 ∧ part_kinds.getD o.val 0 ≤ 9) := by decide +kernel
theorem kinds_shape : ∀ o : Fin 40, part_kinds.getD o.val 0 ≠ 0 → 1 ≤ o.val ∧ (let s := shapeN ((o.val : Nat) : Int); let j := part_kinds.getD o.val 0; s ≠ 3 ∧ s ≠ 0 ∧
    ((inst_sh s).2.2.2.2.1 ≤ (fix_rule j).1) ∧ ((fix_rule j).2.1 ≤ (inst_sh s).2.2.2.2.2.1 ∨ 7 ≤ j ∧ 4095 ≤ (inst_sh s).2.2.2.2.2.1) ∧ ((inst_sh s).2.2.2.2.2.2.1 = (fix_rule j).2.2)) := by decide +kernel
theorem val_low (j a b : Int) (hj : 7 ≤ j) (b0 : 0 ≤ b) : valN j a b ≤ 4095 := by
  unfold valN
  rw [if_neg (by omega), if_neg (by omega)]
  omega
/-- With a value that may be the instruction is right. -/
theorem turned_ok (c : CI) (mk : Bool) (h : isB c mk = true) (h0 : c.im = 0) (j v : Int) (hk : part_kinds.getD c.o.toNat 0 = j) (hj : j ≠ 0) (hv : okV j v = true) (hl : 7 ≤ j → v ≤ 4095) : isB { c with im := v } mk = true := by
  obtain ⟨o1, o2⟩ := o_of c mk h
  have hs := kinds_shape ⟨c.o.toNat, by omega⟩ (by simp only; rw [hk]; exact hj)
  simp only [hk, show ((c.o.toNat : Nat) : Int) = c.o by omega] at hs
  obtain ⟨-, hs3, hs0, hs1, hs2, hs4⟩ := hs
  unfold isB okB at h ⊢
  simp only [Bool.and_eq_true] at h ⊢
  obtain ⟨⟨⟨⟨⟨⟨⟨⟨⟨x0, x1⟩, x2⟩, x3⟩, x4⟩, x5⟩, x6⟩, x7⟩, x8⟩, x9⟩ := h
  refine ⟨⟨⟨⟨⟨⟨⟨⟨⟨x0, x1⟩, x2⟩, x3⟩, x4⟩, ?_⟩, x6⟩, x7⟩, x8⟩, x9⟩
  unfold okV at hv
  simp only [Bool.and_eq_true, decide_eq_true_eq] at hv
  obtain ⟨v1, v2, v3⟩ := hv
  unfold stepB
  rw [hs4]
  have hb : (fix_rule j).2.2 ≠ 0 := by unfold fix_rule; (repeat' split) <;> decide
  rw [if_neg hb, decide_eq_true_eq]
  refine ⟨by omega, ?_, v1⟩
  rcases hs2 with hs2 | ⟨h7, hs2⟩
  · omega
  · have := hl h7; omega
end Go.Proofs.YtkpkkjbigndnoaaDoor.M
