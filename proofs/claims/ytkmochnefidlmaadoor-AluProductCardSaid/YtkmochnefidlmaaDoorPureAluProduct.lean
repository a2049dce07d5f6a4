/- A product is told by parts: the Go law answers true. -/
import Derived.Test.YtkmochnefidlmaaDoorPx14
import Derived.Test.YtkmochnefidlmaaDoorMAlu
namespace Go.Proofs.YtkmochnefidlmaaDoor.Pure
open Go.RowKit Go.Proofs.YtkmochnefidlmaaDoor.P Go.Proofs.YtkmochnefidlmaaDoorW.PrintWords Go.Proofs.YtkmochnefidlmaaDoorW.PrintLast Go.Proofs.YtkmochnefidlmaaDoor.M

theorem bounds64 {a : Int} (h : (Lit.int .u64 a).wf = true) : 0 ≤ a ∧ a < 18446744073709551616 := by
  simp [Lit.wf, IntKind.min, IntKind.max, IntKind.bits, IntKind.signed] at h; omega
theorem next_at (b : Int) (h : 0 ≤ b) : cleatlaw06_next.f b = some ((b + 1) % 18446744073709551616) := by
  unfold cleatlaw06_next.f flag_Add.f
  rw [if_pos h, if_pos (by decide), Option.bind_some]
  simp [flag_sum]
theorem AluProduct : cleatlaw06_AluProduct.Pure := by
  intro a b c wa wb wc
  have ha := bounds64 wa
  have hb := bounds64 wb
  have hc := bounds64 wc
  refine ⟨50, ?_⟩
  unfold cleatlaw06_AluProduct.f
  simp only [do_madd 50 (by omega), do_msub 50 (by omega), Option.bind_some, next_at b hb.1, done_at 50 (by omega), if_true, u64_mod, Int.zero_add, Int.zero_mul, Int.add_zero]
  rw [if_pos, if_pos, if_pos, if_pos]
  · rw [Int.emod_eq_of_lt hc.1 hc.2, beq_self_eq_true]
  · rw [Int.mul_comm]
  · have h : a * ((b + 1) % 18446744073709551616) % 18446744073709551616 = (a * (b + 1)) % 18446744073709551616 := by
      rw [Int.mul_emod, Int.emod_emod_of_dvd _ (Int.dvd_refl _), ← Int.mul_emod]
    rw [h, Int.mul_add, Int.mul_one]
    omega
  · omega
  · omega
end Go.Proofs.YtkmochnefidlmaaDoor.Pure
