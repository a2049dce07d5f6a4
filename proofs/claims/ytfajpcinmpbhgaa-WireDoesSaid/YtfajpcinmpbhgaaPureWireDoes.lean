/- Numbers and texts have just these bytes, and bytes are just this number, int and text, or are refused: the Go law answers true. -/
import Derived.Test.YtfajpcinmpbhgaaPx5
import Derived.Test.YtfajpcinmpbhgaaMWireC
namespace Go.Proofs.Ytfajpcinmpbhgaa.Pure
open Go.RowKit Go.Proofs.Ytfajpcinmpbhgaa.P Go.Proofs.YtfajpcinmpbhgaaW.PrintWords Go.Proofs.YtfajpcinmpbhgaaW.PrintLast Go.Proofs.Ytfajpcinmpbhgaa.M

theorem WireDoes : cleatlaw18_WireDoes.Pure := by
  intro a0 a1 a2 a3 w0 w1 w2 w3
  have b0 := bounds_u64 w0
  have b1 := bounds_i64 w1
  obtain ⟨v, rfl⟩ := Int.eq_ofNat_of_zero_le b0.1
  refine ⟨201, ?_⟩
  unfold cleatlaw18_WireDoes.f
  by_cases hs : (a2.size : Int) > 2000
  · rw [if_pos hs]
  · rw [if_neg hs, get_spec 201 a2 (by decide), Option.bind_some, ref_get_spec 201 a2 (by decide), Option.bind_some, getint_spec 201 a2 (by decide), Option.bind_some, ref_getint_spec 201 a2 (by decide), Option.bind_some,
      gettext_spec 201 a2 a3 (by decide) (by omega), Option.bind_some, ref_gettext_spec 201 a2 a3 (by decide) (by omega), Option.bind_some,
      if_pos rfl, if_pos rfl, if_pos rfl, if_pos rfl, if_pos rfl, if_pos rfl, if_pos rfl, if_pos rfl]
    simp only [cleatlaw18_WireDoes.j0]
    rw [sent_ok 200 (by decide), Option.bind_some, if_pos rfl, if_pos (beq_self_eq_true _), put_spec v (by omega), Option.bind_some, ref_put_spec 200 v (by decide) (by omega), Option.bind_some, if_pos rfl,
      putint_spec a1 b1.1 b1.2, Option.bind_some, ref_putint_spec 200 a1 (by decide) b1.1 b1.2, Option.bind_some, if_pos rfl, puttext_spec a2 (by omega), Option.bind_some, ref_puttext_spec 200 a2 (by decide) (by omega), Option.bind_some, beq_self_eq_true]
end Go.Proofs.Ytfajpcinmpbhgaa.Pure
