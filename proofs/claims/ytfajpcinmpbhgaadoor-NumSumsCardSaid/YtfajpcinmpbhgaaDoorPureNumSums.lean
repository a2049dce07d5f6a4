/- The law answers true at every input (chapter 10). -/
import Derived.Test.YtfajpcinmpbhgaaDoorPx6
import Derived.Test.YtfajpcinmpbhgaaDoorMNumA
namespace Go.Proofs.YtfajpcinmpbhgaaDoor.Pure
open Go.RowKit Go.Proofs.YtfajpcinmpbhgaaDoor.P Go.Proofs.YtfajpcinmpbhgaaDoorW.PrintWords Go.Proofs.YtfajpcinmpbhgaaDoorW.PrintLast Go.Proofs.YtfajpcinmpbhgaaDoor.M
set_option linter.unusedVariables false

theorem NumSums : cleatlaw10_NumSums.Pure := by
  intro a n m w0 w1 w2
  have b0 := bounds_u64 w0
  have b1 := bounds_i64 w1
  have b2 := bounds_i64 w2
  refine ⟨0 + 2, ?_⟩
  unfold cleatlaw10_NumSums.f
  rw [sum_eq a n b0.1 b0.2 b1.1 b1.2, Option.bind_some, sum_eq a m b0.1 b0.2 b2.1 b2.2, Option.bind_some, counted_ok 0]
  have hend : ∀ (x : Int), x = a + n → (if ((decide (n ≥ 0)) == (decide (x ≥ a))) = true then (if (sumV a m).2 = 0 then (some ((decide (n ≤ m)) == (decide (x ≤ (sumV a m).1)))) else some true) else none) = some true := by
    intro x hx
    subst hx
    have h1 : decide (n ≥ 0) = decide (a + n ≥ a) := decide_eq_decide.2 (by omega)
    rw [h1, if_pos (beq_self_eq_true _)]
    unfold sumV
    by_cases h : 0 ≤ a + m ∧ a + m < 18446744073709551616
    · have h2 : decide (n ≤ m) = decide (a + n ≤ a + m) := decide_eq_decide.2 (by omega)
      rw [if_pos h, if_pos rfl, h2, beq_self_eq_true]
    · rw [if_neg h, if_neg (by decide)]
  by_cases h : 0 ≤ a + n ∧ a + n < 18446744073709551616
  · have e : sumV a n = (a + n, 0) := if_pos h
    rw [e, if_pos rfl]
    by_cases hm : n = -9223372036854775808
    · rw [if_pos hm, Option.bind_some, if_pos rfl]
      exact hend _ rfl
    · have hw : wrap64 (-n) = -n := wrap64_self _ (by omega) (by omega)
      have e2 : sumV (a + n) (-n) = (a, 0) := by
        unfold sumV
        rw [if_pos (by omega), show a + n + -n = a by omega]
      rw [if_neg hm, hw, sum_eq (a + n) (-n) h.1 h.2 (by omega) (by omega), Option.bind_some, e2, if_pos rfl, if_pos rfl, Option.bind_some, if_pos rfl]
      exact hend _ rfl
  · have e : sumV a n = (0, 4) := if_neg h
    have hn : n ≠ 0 := by omega
    rw [e, if_neg (by decide), Option.bind_some, if_pos rfl, if_pos rfl]
    simp [hn]
end Go.Proofs.YtfajpcinmpbhgaaDoor.Pure
