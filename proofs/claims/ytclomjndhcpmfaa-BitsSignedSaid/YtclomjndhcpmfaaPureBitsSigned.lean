/- Bits are just the document's number with a sign, and back, or are refused: the Go law answers true for all numbers. -/
import Derived.Test.YtclomjndhcpmfaaPx10
import Derived.Test.YtclomjndhcpmfaaMOne
namespace Go.Proofs.Ytclomjndhcpmfaa.Pure
open Go.RowKit Go.Proofs.Ytclomjndhcpmfaa.P Go.Proofs.YtclomjndhcpmfaaW.PrintWords Go.Proofs.YtclomjndhcpmfaaW.PrintLast Go.Proofs.Ytclomjndhcpmfaa.M
theorem BitsSigned : cleatlaw01_BitsSigned.Pure := by
  intro v s n hv hs hn
  obtain ⟨v0, v1⟩ := bounds_u32 hv
  obtain ⟨s0, s1⟩ := bounds_i64 hs
  obtain ⟨n0, n1⟩ := bounds_i64 hn
  refine ⟨100, ?_⟩
  unfold cleatlaw01_BitsSigned.f
  rw [signed_spec _ v n (by omega) v0 v1 n0 n1, ref_signed_spec _ v n (by omega) v0 v1 n0 n1, pack_spec _ s n (by omega) s0 s1 n0 n1, ref_pack_spec _ s n (by omega) s0 s1 n0 n1, told_ok _ (by omega)]
  simp
end Go.Proofs.Ytclomjndhcpmfaa.Pure
