/- The law answers true at every input (chapter 10). -/
import Derived.Test.YtfajpcinmpbhgaaDoorPx5
import Derived.Test.YtfajpcinmpbhgaaDoorMNumA
namespace Go.Proofs.YtfajpcinmpbhgaaDoor.Pure
open Go.RowKit Go.Proofs.YtfajpcinmpbhgaaDoor.P Go.Proofs.YtfajpcinmpbhgaaDoorW.PrintWords Go.Proofs.YtfajpcinmpbhgaaDoorW.PrintLast Go.Proofs.YtfajpcinmpbhgaaDoor.M
set_option linter.unusedVariables false

theorem NumSign : cleatlaw10_NumSign.Pure := by
  intro n m v w0 w2
  have b0 := bounds_i64 w0
  have b2 := bounds_u64 w2
  refine ⟨0 + 2 + 1, ?_⟩
  unfold cleatlaw10_NumSign.f
  have hs : signedV (ofV n).1 (ofV n).2 = (n, 0) := by
    unfold ofV
    by_cases h : n < 0
    · simp only [h, decide_true, if_true]
      rw [signedV_t, if_pos (by omega), Int.neg_neg]
    · simp only [h, decide_false, if_false]
      rw [signedV_f, if_pos (by omega)]
  have hu : 0 ≤ (ofV n).2 ∧ (ofV n).2 < 18446744073709551616 := by unfold ofV; show 0 ≤ (if n < 0 then -n else n) ∧ (if n < 0 then -n else n) < _; split <;> omega
  rw [of_eq n b0.1 b0.2, Option.bind_some, signed_eq (0 + 2) _ _ hu.1 hu.2, Option.bind_some, hs, if_pos rfl, if_pos rfl, cleatlaw10_NumSign.j0, if_neg (by unfold ofV; simp), signed_eq (0 + 1) m v b2.1 b2.2, Option.bind_some]
  cases m
  · rw [signedV_f]
    by_cases h : v < 9223372036854775808
    · rw [if_pos h, if_pos rfl, of_eq v (by omega) (by omega), Option.bind_some, counted_ok 0, Option.bind_some, if_pos rfl]
      unfold ofV
      simp only [show ¬ v < 0 by omega, decide_false, if_false, if_true]
      split <;> rfl
    · rw [if_neg h, if_neg (by decide), counted_ok 0, Option.bind_some, if_pos rfl, if_pos rfl, if_pos rfl, decide_eq_true (by omega)]
  · rw [signedV_t]
    by_cases h : v ≤ 9223372036854775808
    · rw [if_pos h, if_pos rfl, of_eq (-v) (by omega) (by omega), Option.bind_some, counted_ok 0, Option.bind_some, if_pos rfl]
      unfold ofV
      by_cases h0 : v = 0
      · subst h0; decide
      · simp only [show -v < 0 by omega, decide_true, if_true, Int.neg_neg, h0, if_false]; rfl
    · rw [if_neg h, if_neg (by decide), counted_ok 0, Option.bind_some, if_pos rfl, if_pos rfl, if_pos rfl, decide_eq_true (by omega)]
end Go.Proofs.YtfajpcinmpbhgaaDoor.Pure
