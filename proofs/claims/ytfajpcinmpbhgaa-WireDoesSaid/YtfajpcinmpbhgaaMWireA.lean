/- Numbers as bytes (chapter 18): what is put and got, as plain lists. -/
import Derived.Test.YtfajpcinmpbhgaaMGen
import Derived.Test.YtfajpcinmpbhgaaPx1
namespace Go.Proofs.Ytfajpcinmpbhgaa.M
open Go.RowKit Go.Proofs.Ytfajpcinmpbhgaa.P Go.Proofs.YtfajpcinmpbhgaaW.PrintWords Go.Proofs.YtfajpcinmpbhgaaW.PrintLast Go.Proofs.YtfajpcinmpbhgaaW.PrintMore

/-- What is got of bytes, from the i-th byte on, with v got so far: the number, how many bytes, the error. -/
def getL : List UInt8 → Nat → Nat → Nat × Nat × Nat
  | [], _, _ => (0, 0, 9)
  | c :: l, i, v => if (i = 9 ∧ 1 < c.toNat) ∨ (0 < i ∧ c.toNat = 0) then (0, 0, 3) else if c.toNat < 128 then (v + c.toNat * 2 ^ (7 * i), i + 1, 0) else getL l (i + 1) (v + c.toNat % 128 * 2 ^ (7 * i))
theorem ofNat_toNat (n : Nat) (h : n < 256) : (UInt8.ofNat n).toNat = n := by simp; omega
theorem pow7 (i : Nat) : (2 : Nat) ^ (7 * (i + 1)) = 128 * 2 ^ (7 * i) := by rw [Nat.mul_add, Nat.pow_add, Nat.mul_comm]
theorem room_step (i : Nat) (h : i < 9) : (2 : Nat) ^ (64 - 7 * i) = 128 * 2 ^ (64 - 7 * (i + 1)) := by
  rw [show 64 - 7 * i = 64 - 7 * (i + 1) + 7 by omega, Nat.pow_add, Nat.mul_comm]
/-- What is put is got, whatever stands behind. -/
theorem get_put (more : List UInt8) : ∀ (d y i v : Nat), i + d = 10 → i ≤ 9 → y < 2 ^ (64 - 7 * i) → (0 < i → y ≠ 0) → getL (wire_putL y ++ more) i v = (v + y * 2 ^ (7 * i), i + (wire_putL y).length, 0)
  | 0, _, i, _, h, hi, _, _ => by omega
  | d + 1, y, i, v, h, hi, hy, h0 => by
    by_cases hlt : y < 128
    · rw [wire_putL_less y hlt]
      simp only [List.cons_append, List.nil_append, getL, ofNat_toNat y (by omega)]
      have h9 : ¬ ((i = 9 ∧ 1 < y) ∨ (0 < i ∧ y = 0)) := by
        rintro (⟨rfl, h1⟩ | ⟨h1, h2⟩)
        · simp at hy; omega
        · exact h0 h1 h2
      rw [if_neg h9, if_pos hlt]
      rfl
    · rw [wire_putL_more y hlt]
      have hi9 : i < 9 := by
        rcases Nat.lt_or_ge i 9 with h1 | h1
        · exact h1
        · have : i = 9 := by omega
          subst this
          simp at hy
          omega
      have e := room_step i hi9
      have ih := get_put more d (y / 128) (i + 1) (v + y % 128 * 2 ^ (7 * i)) (by omega) (by omega) (by omega) (by omega)
      simp only [List.cons_append, getL, ofNat_toNat (y % 128 + 128) (by omega)]
      rw [if_neg (by omega), if_neg (by omega), show (y % 128 + 128) % 128 = y % 128 by omega, ih, pow7]
      have e2 : v + y % 128 * 2 ^ (7 * i) + y / 128 * (128 * 2 ^ (7 * i)) = v + y * 2 ^ (7 * i) := by
        have : y * 2 ^ (7 * i) = (128 * (y / 128) + y % 128) * 2 ^ (7 * i) := by rw [Nat.div_add_mod]
        rw [this, Nat.add_mul, Nat.mul_comm 128 (y / 128), Nat.mul_assoc]
        omega
      rw [e2]
      simp
      omega
/-- A beginning of what is put asks for more. -/
theorem get_more : ∀ (d y i v at_ : Nat), i + d = 10 → i ≤ 9 → y < 2 ^ (64 - 7 * i) → at_ < (wire_putL y).length → getL ((wire_putL y).take at_) i v = (0, 0, 9)
  | 0, _, i, _, _, h, hi, _, _ => by omega
  | d + 1, y, i, v, at_, h, hi, hy, hat => by
    cases at_ with
    | zero => rw [List.take_zero]; rfl
    | succ at_ =>
      by_cases hlt : y < 128
      · rw [wire_putL_less y hlt] at hat
        simp at hat
      · rw [wire_putL_more y hlt] at hat ⊢
        have hi9 : i < 9 := by
          rcases Nat.lt_or_ge i 9 with h1 | h1
          · exact h1
          · have : i = 9 := by omega
            subst this
            simp at hy
            omega
        have e := room_step i hi9
        have ih := get_more d (y / 128) (i + 1) (v + y % 128 * 2 ^ (7 * i)) at_ (by omega) (by omega) (by omega) (by simpa using hat)
        simp only [List.take_succ_cons, getL, ofNat_toNat (y % 128 + 128) (by omega)]
        rw [if_neg (by omega), if_neg (by omega), show (y % 128 + 128) % 128 = y % 128 by omega, ih]
/-- How a number is got: it ends well only of what is put. -/
theorem get_cases : ∀ (l : List UInt8) (i v : Nat), i ≤ 9 → v < 2 ^ (7 * i) →
    (∃ y rest, l = wire_putL y ++ rest ∧ y < 2 ^ (64 - 7 * i) ∧ (0 < i → y ≠ 0) ∧ getL l i v = (v + y * 2 ^ (7 * i), i + (wire_putL y).length, 0)) ∨
    (∃ e, (e = 3 ∨ e = 9) ∧ getL l i v = (0, 0, e))
  | [], i, v, _, _ => .inr ⟨9, .inr rfl, rfl⟩
  | c :: l, i, v, hi, hv => by
    have hc : c.toNat < 256 := c.toNat_lt
    simp only [getL]
    by_cases h9 : (i = 9 ∧ 1 < c.toNat) ∨ (0 < i ∧ c.toNat = 0)
    · rw [if_pos h9]; exact .inr ⟨3, .inl rfl, rfl⟩
    · rw [if_neg h9]
      by_cases hlt : c.toNat < 128
      · rw [if_pos hlt]
        refine .inl ⟨c.toNat, l, ?_, ?_, ?_, ?_⟩
        · rw [wire_putL_less _ hlt]; simp
        · by_cases h : i = 9
          · subst h; simp; omega
          · have : (2 : Nat) ^ 7 ≤ 2 ^ (64 - 7 * i) := Nat.pow_le_pow_right (by decide) (by omega)
            omega
        · intro h h2; exact h9 (.inr ⟨h, h2⟩)
        · rw [wire_putL_less _ hlt]; rfl
      · rw [if_neg hlt]
        have hi9 : i < 9 := by
          rcases Nat.lt_or_ge i 9 with h1 | h1
          · exact h1
          · exact absurd (.inl ⟨by omega, by omega⟩) h9
        have hp := Nat.two_pow_pos (7 * i)
        have hv2 : v + c.toNat % 128 * 2 ^ (7 * i) < 2 ^ (7 * (i + 1)) := by
          rw [pow7]
          have : c.toNat % 128 * 2 ^ (7 * i) ≤ 127 * 2 ^ (7 * i) := Nat.mul_le_mul_right _ (by omega)
          omega
        rcases get_cases l (i + 1) _ (by omega) hv2 with ⟨y, rest, h1, h2, h3, h4⟩ | ⟨e, he, h4⟩
        · have y0 := h3 (by omega)
          have hx : ¬ c.toNat % 128 + 128 * y < 128 := by omega
          have e := room_step i hi9
          refine .inl ⟨c.toNat % 128 + 128 * y, rest, ?_, by omega, by omega, ?_⟩
          · rw [wire_putL_more _ hx, show (c.toNat % 128 + 128 * y) % 128 + 128 = c.toNat by omega, show (c.toNat % 128 + 128 * y) / 128 = y by omega, List.cons_append, ← h1]
            simp
          · rw [wire_putL_more _ hx, show (c.toNat % 128 + 128 * y) / 128 = y by omega, h4, pow7]
            have e2 : v + c.toNat % 128 * 2 ^ (7 * i) + y * (128 * 2 ^ (7 * i)) = v + (c.toNat % 128 + 128 * y) * 2 ^ (7 * i) := by
              rw [Nat.add_mul, Nat.mul_comm 128 y, Nat.mul_assoc]; omega
            rw [e2]
            simp
            omega
        · exact .inr ⟨e, he, h4⟩
/-- .. from the beginning. -/
theorem get_cases0 (l : List UInt8) : (∃ y rest, l = wire_putL y ++ rest ∧ y < 18446744073709551616 ∧ getL l 0 0 = (y, (wire_putL y).length, 0)) ∨ (∃ e, (e = 3 ∨ e = 9) ∧ getL l 0 0 = (0, 0, e)) := by
  rcases get_cases l 0 0 (by decide) (by decide) with ⟨y, rest, h1, h2, _, h4⟩ | h
  · refine .inl ⟨y, rest, h1, h2, ?_⟩
    rw [h4]; simp
  · exact .inr h
theorem get_put0 (y : Nat) (more : List UInt8) (h : y < 18446744073709551616) : getL (wire_putL y ++ more) 0 0 = (y, (wire_putL y).length, 0) := by
  rw [get_put more 10 y 0 0 (by decide) (by decide) h (by omega)]; simp
theorem get_more0 (y at_ : Nat) (h : y < 18446744073709551616) (ha : at_ < (wire_putL y).length) : getL ((wire_putL y).take at_) 0 0 = (0, 0, 9) := get_more 10 y 0 0 at_ (by decide) (by decide) h ha
theorem putL_pos (y : Nat) : 1 ≤ (wire_putL y).length := by
  have := wire_putL_ne y
  cases h : wire_putL y with
  | nil => exact absurd h this
  | cons _ _ => simp
/-- A greater number has no fewer bytes. -/
theorem putL_mono : ∀ (n v w : Nat), w ≤ n → v ≤ w → (wire_putL v).length ≤ (wire_putL w).length
  | 0, v, w, hw, h => by
    obtain rfl : w = 0 := by omega
    obtain rfl : v = 0 := by omega
    exact Nat.le_refl _
  | n + 1, v, w, hw, h => by
    by_cases h1 : v < 128
    · rw [wire_putL_less v h1]; exact putL_pos w
    · rw [wire_putL_more v h1, wire_putL_more w (by omega)]
      have := putL_mono n (v / 128) (w / 128) (by omega) (Nat.div_le_div_right h)
      simpa using this
/-- As few bytes as can be. -/
theorem putL_exact : ∀ (m v : Nat), (m = 0 ∨ 2 ^ (7 * m) ≤ v) → v < 2 ^ (7 * (m + 1)) → (wire_putL v).length = m + 1
  | 0, v, _, h => by rw [wire_putL_less v (by simpa using h)]; rfl
  | m + 1, v, h, h2 => by
    rcases h with h | h
    · omega
    · have hp := Nat.two_pow_pos (7 * m)
      rw [pow7] at h h2
      rw [pow7] at h2
      rw [wire_putL_more v (by omega)]
      have := putL_exact m (v / 128) (by right; omega) (by rw [pow7]; omega)
      simpa using this
/-- A number with a sign as one without. -/
def zig (n : Int) : Nat := if 0 ≤ n then 2 * n.toNat else 2 * (-n - 1).toNat + 1
def zag (v : Nat) : Int := if v % 2 = 0 then ((v / 2 : Nat) : Int) else -1 - ((v / 2 : Nat) : Int)
theorem zag_zig (n : Int) : zag (zig n) = n := by unfold zag zig; (repeat' split) <;> omega
theorem zig_zag (v : Nat) : zig (zag v) = v := by unfold zag zig; (repeat' split) <;> omega
theorem zig_lt (n : Int) (h0 : -9223372036854775808 ≤ n) (h1 : n < 9223372036854775808) : zig n < 18446744073709551616 := by unfold zig; split <;> omega
theorem zag_in (v : Nat) (h : v < 18446744073709551616) : -9223372036854775808 ≤ zag v ∧ zag v < 9223372036854775808 := by unfold zag; split <;> omega
end Go.Proofs.Ytfajpcinmpbhgaa.M
