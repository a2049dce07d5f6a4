/- The law answers true at every input (chapter 10). -/
import Derived.Test.YtfajpcinmpbhgaaDoorPx4
import Derived.Test.YtfajpcinmpbhgaaDoorMNumA
namespace Go.Proofs.YtfajpcinmpbhgaaDoor.Pure
open Go.RowKit Go.Proofs.YtfajpcinmpbhgaaDoor.P Go.Proofs.YtfajpcinmpbhgaaDoorW.PrintWords Go.Proofs.YtfajpcinmpbhgaaDoorW.PrintLast Go.Proofs.YtfajpcinmpbhgaaDoor.M
set_option linter.unusedVariables false

theorem NumDoes : cleatlaw10_NumDoes.Pure := by
  intro s a m n w0 w1 w3
  have b1 := bounds_u64 w1
  have b3 := bounds_i64 w3
  obtain ⟨v, rfl⟩ := Int.eq_ofNat_of_zero_le b1.1
  refine ⟨998 + 2, ?_⟩
  unfold cleatlaw10_NumDoes.f
  by_cases hs : (s.size : Int) > 300
  · rw [if_pos hs]
  · rw [if_neg hs, value_eq s (by omega), Option.bind_some, ref_value_eq s (by omega) _ (by omega), Option.bind_some, signed_eq (998 + 1) m v (by omega) (by omega), Option.bind_some, refsigned_eq 998 m v (by omega) (by omega), Option.bind_some,
      of_eq n b3.1 b3.2, Option.bind_some, refof_eq n b3.1 b3.2, Option.bind_some, sum_eq v n b1.1 b1.2 b3.1 b3.2, Option.bind_some, refsum_eq (998 + 1) v n b1.1 b1.2 b3.1 b3.2, Option.bind_some, counted_ok 998, Option.bind_some,
      if_pos rfl, if_pos rfl, if_pos rfl, if_pos rfl, if_pos rfl, if_pos (beq_self_eq_true _), if_pos rfl, if_pos rfl, if_pos rfl,
      text_eq v (by omega), Option.bind_some, reftext_eq v (by omega), Option.bind_some, if_pos rfl, hex_eq v (by omega), Option.bind_some, refhex_eq v (by omega), Option.bind_some, beq_self_eq_true]
end Go.Proofs.YtfajpcinmpbhgaaDoor.Pure
