/- A greater number has no fewer bytes, and each has as few as can be: the Go law answers true. -/
import Derived.Test.YtfajpcinmpbhgaaPx3
import Derived.Test.YtfajpcinmpbhgaaMWireC
namespace Go.Proofs.Ytfajpcinmpbhgaa.Pure
open Go.RowKit Go.Proofs.Ytfajpcinmpbhgaa.P Go.Proofs.YtfajpcinmpbhgaaW.PrintWords Go.Proofs.YtfajpcinmpbhgaaW.PrintLast Go.Proofs.Ytfajpcinmpbhgaa.M

theorem order_loop (v w k : Nat) (hk : 100 ≤ k) (hv : v < 18446744073709551616) (_ : w < 18446744073709551616) : ∀ (d m : Nat), m + d = 9 → 1 ≤ m → (m = 1 ∨ 2 ^ (7 * (m - 1)) ≤ v) →
    cleatlaw18_WireOrder.l0 (k + d + 1) (v : Int) (w : Int) ((wire_putL v).length : Int) ((wire_putL w).length : Int) ((2 ^ (7 * m) : Nat) : Int) (m : Int) = some true := by
  have hmono : ¬ v > w → (wire_putL v).length ≤ (wire_putL w).length := fun h => putL_mono w v w (Nat.le_refl _) (by omega)
  have hpos := putL_pos v
  have hten := wire_putL_ten v hv
  intro d
  induction d with
  | zero =>
    intro m hm h1 hlow
    obtain rfl : m = 9 := by omega
    have hlow9 : 2 ^ (7 * 8) ≤ v := by rcases hlow with h | h <;> omega
    have e70 : (2 : Nat) ^ (7 * 10) = 1180591620717411303424 := by decide
    have e63 : (2 : Nat) ^ (7 * 9) = 9223372036854775808 := by decide
    simp only [cleatlaw18_WireOrder.l0]
    rw [sent_ok _ (by omega)]
    simp only [Option.bind_some, if_true]
    by_cases hx : (v : Int) ≥ ((2 ^ (7 * 9) : Nat) : Int)
    · have he : (wire_putL v).length = 10 := putL_exact 9 v (.inr (by omega)) (by omega)
      rw [if_pos (by decide), if_pos hx, if_neg (by decide), if_pos (by decide), he]
      by_cases hvw : (v : Int) > (w : Int)
      · rw [if_pos hvw]; rfl
      · rw [if_neg hvw, if_pos (by have := hmono (by omega); omega)]; rfl
    · have he : (wire_putL v).length = 9 := putL_exact 8 v (.inr hlow9) (by omega)
      rw [if_pos (by decide), if_neg hx, if_pos (by decide), he]
      by_cases hvw : (v : Int) > (w : Int)
      · rw [if_pos hvw]; rfl
      · rw [if_neg hvw, if_pos (by have := hmono (by omega); omega)]; rfl
  | succ d ih =>
    intro m hm h1 hlow
    have hp8 : (2 : Nat) ^ (7 * m) ≤ 2 ^ (7 * 8) := Nat.pow_le_pow_right (by decide) (by omega)
    have e56 : (2 : Nat) ^ (7 * 8) = 72057594037927936 := by decide
    have hpz := Nat.two_pow_pos (7 * m)
    by_cases hx : (v : Int) ≥ ((2 ^ (7 * m) : Nat) : Int)
    · have hn := ih (m + 1) (by omega) (by omega) (.inr (by rw [Nat.add_sub_cancel]; omega))
      rw [show k + (d + 1) + 1 = (k + d + 1) + 1 by omega]
      rw [cleatlaw18_WireOrder.l0]
      rw [if_pos (by omega), if_pos hx, if_pos (by omega), u64_self _ (by omega) (by omega), wrap64_self _ (by omega) (by omega), show (128 * ((2 ^ (7 * m) : Nat) : Int)) = ((2 ^ (7 * (m + 1)) : Nat) : Int) by rw [pow7]; omega, show ((m : Int) + 1) = ((m + 1 : Nat) : Int) by omega]
      exact hn
    · have he : (wire_putL v).length = m - 1 + 1 := putL_exact (m - 1) v (by rcases hlow with h | h; exact .inl (by omega); exact .inr h) (by rw [Nat.sub_add_cancel h1]; omega)
      have he' : ((wire_putL v).length : Int) = (m : Int) := by omega
      rw [show k + (d + 1) + 1 = (k + d + 1) + 1 by omega]
      rw [cleatlaw18_WireOrder.l0]
      rw [if_pos (by omega), if_neg hx, if_neg (by omega), sent_ok _ (by omega), Option.bind_some, if_pos rfl]
      by_cases hvw : (v : Int) > (w : Int)
      · rw [if_pos hvw, if_pos he', if_pos (by omega), decide_eq_true (by omega)]
      · rw [if_neg hvw, if_pos (by have := hmono (by omega); omega), if_pos he', if_pos (by omega), decide_eq_true (by omega)]
theorem WireOrder : cleatlaw18_WireOrder.Pure := by
  intro a0 a1 w0 w1
  have b0 := bounds_u64 w0
  have b1 := bounds_u64 w1
  obtain ⟨v, rfl⟩ := Int.eq_ofNat_of_zero_le b0.1
  obtain ⟨w, rfl⟩ := Int.eq_ofNat_of_zero_le b1.1
  refine ⟨100 + 8 + 1, ?_⟩
  unfold cleatlaw18_WireOrder.f
  rw [put_spec v (by omega), Option.bind_some, put_spec w (by omega), Option.bind_some, putB_size, putB_size]
  exact order_loop v w 100 (by decide) (by omega) (by omega) 8 1 (by decide) (by decide) (.inl rfl)
end Go.Proofs.Ytfajpcinmpbhgaa.Pure
