/- Add is the same both ways round, Sub turns it back, and what is carried out of one half comes into the other: the Go law answers true for all numbers. -/
import Derived.Test.YtclomjndhcpmfaaPx7
import Derived.Test.YtclomjndhcpmfaaMFlag
namespace Go.Proofs.Ytclomjndhcpmfaa.PureSums
open Go.RowKit Go.Proofs.Ytclomjndhcpmfaa.P Go.Proofs.YtclomjndhcpmfaaW.PrintWords Go.Proofs.YtclomjndhcpmfaaW.PrintLast Go.Proofs.YtclomjndhcpmfaaW.PrintMore Go.Proofs.Ytclomjndhcpmfaa.M
theorem flagged_at (k : Nat) (h : 1 ≤ k) : cleatlaw03_flagged.f k = some true := at_rounds cleatlaw03_flagged.mono h flagged_ok
theorem sum_lo (a b : Int) (c : Bool) : 0 ≤ flag_sum a b c ∧ flag_sum a b c < 18446744073709551616 := by unfold flag_sum; omega
theorem ovf_comm (a b s : Int) : ovf a b s = ovf b a s := by unfold ovf; rw [decide_eq_decide]; exact And.comm
theorem sum_comm (a b : Int) (c : Bool) : flag_sum a b c = flag_sum b a c := by unfold flag_sum; rw [Int.add_comm a b]
theorem of_n (s : Int) (s0 : 0 ≤ s) (s1 : s < 18446744073709551616) : flag_Of.f s = some (decide (9223372036854775808 ≤ s), decide (s = 0), false, false) := by
  unfold flag_Of.f
  simp only [wrap64_neg s s0 s1]
  rfl
theorem end_j3 (k : Nat) (a s u lost : Int) (V : Bool) (fC jN jZ jC jV : Bool) (s0 : 0 ≤ s) (s1 : s < 18446744073709551616) (hl : (if jC = true then wrap64 (lost - 1) else lost) = 0) (hk : 2 ≤ k) :
    cleatlaw03_FlagSums.j3 k a s s a u u lost (decide (9223372036854775808 ≤ s)) (decide (s = 0)) fC V (decide (9223372036854775808 ≤ s)) (decide (s = 0)) fC V jN jZ jC jV = some true := by
  obtain ⟨k, rfl⟩ : ∃ m, k = m + 2 := ⟨k - 2, by omega⟩
  rw [cleatlaw03_FlagSums.j3, flagged_at _ (by omega), of_n s s0 s1]
  cases jC
  · have : lost = 0 := by simpa using hl
    simp [this]
  · have : wrap64 (lost - 1) = 0 := by simpa using hl
    simp [this]

/-- As often both ways two to the power of 64 is lost. -/
theorem sums_j0 (k : Nat) (a b c : Int) (carry : Bool) (V : Bool) (hk : 10 ≤ k) (a0 : 0 ≤ a) (a1 : a < 18446744073709551616) (b0 : 0 ≤ b) (b1 : b < 18446744073709551616) (c0 : 0 ≤ c) (c1 : c < 18446744073709551616) :
    cleatlaw03_FlagSums.j0 k a b c carry (flag_sum a b carry) (flag_sum a b carry) a (decide (9223372036854775808 ≤ flag_sum a b carry)) (decide (flag_sum a b carry = 0)) (decide (18446744073709551616 ≤ a + b + (if carry = true then 1 else 0))) V
      (decide (9223372036854775808 ≤ flag_sum a b carry)) (decide (flag_sum a b carry = 0)) (decide (18446744073709551616 ≤ a + b + (if carry = true then 1 else 0))) V = some true := by
  obtain ⟨k, rfl⟩ : ∃ m, k = m + 6 := ⟨k - 6, by omega⟩
  obtain ⟨s0, s1⟩ := sum_lo a b carry
  obtain ⟨v0, v1⟩ := sum_lo b c carry
  obtain ⟨u0, u1⟩ := sum_lo (flag_sum a b carry) c false
  obtain ⟨x0, x1⟩ := sum_lo a (flag_sum b c carry) false
  rw [cleatlaw03_FlagSums.j0, add_spec _ c false s0 s1 c0 c1, Option.bind_some, add_spec b c carry b0 b1 c0 c1, Option.bind_some, add_spec a _ false a0 a1 v0 v1, Option.bind_some]
  dsimp only
  have hu : flag_sum (flag_sum a b carry) c false = flag_sum a (flag_sum b c carry) false := by unfold flag_sum; cases carry <;> simp <;> omega
  have hl : (if 18446744073709551616 ≤ a + b + (if carry = true then (1 : Int) else 0) then (1 : Int) else 0) + (if 18446744073709551616 ≤ flag_sum a b carry + c + (if false = true then (1 : Int) else 0) then (1 : Int) else 0) =
      (if 18446744073709551616 ≤ b + c + (if carry = true then (1 : Int) else 0) then (1 : Int) else 0) + (if 18446744073709551616 ≤ a + flag_sum b c carry + (if false = true then (1 : Int) else 0) then (1 : Int) else 0) := by
    unfold flag_sum; cases carry <;> simp <;> split <;> split <;> split <;> split <;> omega
  rw [hu]
  generalize hp : decide (18446744073709551616 ≤ a + b + (if carry = true then (1 : Int) else 0)) = p
  generalize hq : decide (18446744073709551616 ≤ flag_sum a b carry + c + (if false = true then (1 : Int) else 0)) = q
  generalize hr : decide (18446744073709551616 ≤ b + c + (if carry = true then (1 : Int) else 0)) = r
  generalize ht : decide (18446744073709551616 ≤ a + flag_sum b c carry + (if false = true then (1 : Int) else 0)) = t
  have hl2 : (if p = true then (1 : Int) else 0) + (if q = true then 1 else 0) = (if r = true then 1 else 0) + (if t = true then 1 else 0) := by
    rw [← hp, ← hq, ← hr, ← ht]; simpa only [decide_eq_true_eq] using hl
  clear hp hq hr ht hl
  have w0 : wrap64 (0 + 1) = 1 := by decide +kernel
  have w1 : wrap64 (0 + 1 + 1) = 2 := by decide +kernel
  have w2 : wrap64 (1 - 1) = 0 := by decide +kernel
  have w3 : wrap64 (0 + 1 - 1) = 0 := by decide +kernel
  have w4 : wrap64 (2 - 1) = 1 := by decide +kernel
  cases p <;> cases q <;> cases r <;> cases t <;> first
    | exact absurd hl2 (by decide)
    | (simp only [Bool.false_eq_true, if_false, if_true, cleatlaw03_FlagSums.j1, cleatlaw03_FlagSums.j2, w0, w1, w2, w3, w4]
       refine end_j3 _ _ _ _ _ _ _ _ _ _ _ s0 s1 ?_ (by omega)
       decide +kernel)
theorem FlagSums : cleatlaw03_FlagSums.Pure := by
  intro a b c carry ha hb hc
  obtain ⟨a0, a1⟩ := u64_bounds ha
  obtain ⟨b0, b1⟩ := u64_bounds hb
  obtain ⟨c0, c1⟩ := u64_bounds hc
  obtain ⟨s0, s1⟩ := sum_lo a b carry
  refine ⟨20, ?_⟩
  have hlo := Int.emod_nonneg (flag_sum a b carry - b) (show (18446744073709551616 : Int) ≠ 0 by decide)
  have hhi := Int.emod_lt_of_pos (flag_sum a b carry - b) (show (0 : Int) < 18446744073709551616 by decide)
  have hcm : b + a + (if carry = true then (1 : Int) else 0) = a + b + (if carry = true then (1 : Int) else 0) := by rw [Int.add_comm b a]
  unfold cleatlaw03_FlagSums.f
  rw [add_spec a b carry a0 a1 b0 b1, Option.bind_some, add_spec b a carry b0 b1 a0 a1, Option.bind_some, sub_spec _ b s0 s1 b0 b1, Option.bind_some, sum_comm b a carry, ovf_comm b a, hcm]
  dsimp only
  cases carry
  · have e : (flag_sum a b false - b) % 18446744073709551616 = a := by unfold flag_sum; simp; omega
    rw [if_neg (by decide), e]
    exact sums_j0 20 a b c false _ (by omega) a0 a1 b0 b1 c0 c1
  · have e : ((flag_sum a b true - b) % 18446744073709551616 - 1) % 18446744073709551616 = a := by unfold flag_sum; simp; omega
    rw [if_pos rfl, sub_spec _ 1 hlo hhi (by decide) (by decide), Option.bind_some, e]
    exact sums_j0 20 a b c true _ (by omega) a0 a1 b0 b1 c0 c1
end Go.Proofs.Ytclomjndhcpmfaa.PureSums
namespace Go.Proofs.Ytclomjndhcpmfaa.Pure
open Go.Proofs.Ytclomjndhcpmfaa.P
theorem FlagSums : cleatlaw03_FlagSums.Pure := PureSums.FlagSums
end Go.Proofs.Ytclomjndhcpmfaa.Pure
