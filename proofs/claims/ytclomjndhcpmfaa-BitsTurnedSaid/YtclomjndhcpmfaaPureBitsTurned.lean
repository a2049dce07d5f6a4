/- A number has just the document's lowest bits, and is rotated just so, or it is refused: the Go law answers true for all numbers. -/
import Derived.Test.YtclomjndhcpmfaaPx10
import Derived.Test.YtclomjndhcpmfaaMRot
namespace Go.Proofs.Ytclomjndhcpmfaa.Pure
open Go.RowKit Go.Proofs.Ytclomjndhcpmfaa.P Go.Proofs.YtclomjndhcpmfaaW.PrintWords Go.Proofs.YtclomjndhcpmfaaW.PrintLast Go.Proofs.Ytclomjndhcpmfaa.M
theorem BitsTurned : cleatlaw01_BitsTurned.Pure := by
  intro v r size n hv _ _ _
  obtain ⟨v0, v1⟩ := bounds_u64 hv
  refine ⟨200, ?_⟩
  unfold cleatlaw01_BitsTurned.f
  rw [rot_spec _ v r size (by omega) v0 v1, ref_rot_spec _ v r size (by omega) v0 v1, told_ok _ (by omega), low_spec v n v0 v1, ref_low_spec _ v n (by omega) v0]
  simp
end Go.Proofs.Ytclomjndhcpmfaa.Pure
