/- An instruction with a mask is right just if that is one: the Go law answers true. -/
import Derived.Test.YtbklmlbmbnnjkaaDoorRx19
import Derived.Test.YtbklmlbmbnnjkaaDoorMInstM
namespace Go.Proofs.YtbklmlbmbnnjkaaDoor.Pure
open Go.RowKit Go.Proofs.YtbklmlbmbnnjkaaDoor.R Go.Proofs.YtbklmlbmbnnjkaaDoorW.PrintWords Go.Proofs.YtbklmlbmbnnjkaaDoorW.PrintLast Go.Proofs.YtbklmlbmbnnjkaaDoor.M
set_option linter.unusedSimpArgs false

theorem InstMask : cleatlaw04_InstMask.Pure := by
  intro op d n v w0 w1 w2 w3
  obtain ⟨mk, h⟩ := inst_prog op d n 0 0 0 v 0 0 0 w3
  have hI := fun k hk => (h k hk).2
  have hM := fun k hk => (h k hk).1
  refine ⟨1000, ?_⟩
  have t0 : (inst_sh 3) = (true, true, false, false, 0, 0, 0, 0, 0, 0, 0, false) := rfl
  have no : ¬ (shapeN op = 3 ∧ 0 ≤ d ∧ d ≤ 31 ∧ 0 ≤ n ∧ n ≤ 31) → cleatlaw04_InstMask.j0 1000 v true op d n 0 0 0 v 0 0 0 = some true := by
    intro hno
    simp only [cleatlaw04_InstMask.j0]
    rw [if_pos trivial, shaped_at 999 (by omega), Option.bind_some, if_pos rfl]
    by_cases hv : v = 0
    · rw [if_pos hv]
    · rw [if_neg hv, hI 999 (by omega), Option.bind_some]
      have : okB op d n 0 0 0 v 0 0 0 mk = false := by
        unfold okB
        by_cases h3 : shapeN op = 3
        · rw [h3, t0]
          simp only [regB, if_true]
          have : ¬ (0 ≤ d ∧ d ≤ 31) ∨ ¬ (0 ≤ n ∧ n ≤ 31) := by omega
          rcases this with hd | hn
          · rw [decide_eq_false hd]; simp
          · rw [decide_eq_false hn]; simp
        · rw [if_neg h3]
          have : (v == 0) = false := by simp [hv]
          rw [this, Bool.and_false]
      rw [this]; rfl
  unfold cleatlaw04_InstMask.f
  rw [shape_at, Option.bind_some]
  by_cases h3 : shapeN op = 3
  · rw [if_pos (by rw [h3]; rfl)]
    by_cases c1 : d < 0
    · rw [if_pos c1]; exact no (by omega)
    · rw [if_neg c1]
      by_cases c2 : d > 31
      · rw [if_pos c2]; exact no (by omega)
      · rw [if_neg c2]
        by_cases c3 : n < 0
        · rw [if_pos c3]; exact no (by omega)
        · rw [if_neg c3]
          by_cases c4 : n > 31
          · rw [decide_eq_true c4]; exact no (by omega)
          · rw [decide_eq_false c4]
            simp only [cleatlaw04_InstMask.j0]
            rw [if_neg (by decide), shaped_at 999 (by omega), Option.bind_some, if_pos rfl, hI 999 (by omega), Option.bind_some, hM 999 (by omega), Option.bind_some]
            have : okB op d n 0 0 0 v 0 0 0 mk = mk := by
              unfold okB
              rw [h3, t0]
              simp only [regB, stepB, if_true]
              rw [decide_eq_true (show 0 ≤ d ∧ d ≤ 31 by omega), decide_eq_true (show 0 ≤ n ∧ n ≤ 31 by omega)]
              simp
            rw [this, beq_self_eq_true]
  · rw [if_neg (by omega)]; exact no (by omega)
end Go.Proofs.YtbklmlbmbnnjkaaDoor.Pure
