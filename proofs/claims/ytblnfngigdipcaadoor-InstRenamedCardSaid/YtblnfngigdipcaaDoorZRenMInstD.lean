/- Written for this claim by a program of this session: what the claim uses of lemmas and proved contracts of Go functions. -/
import Derived.Test.YtblnfngigdipcaaDoorZRenMInstC
import Derived.Test.YtblnfngigdipcaaDoorZRenPx8
namespace Go.Proofs.YtblnfngigdipcaaDoor.M
open Go.RowKit Go.Proofs.YtblnfngigdipcaaDoor.P Go.Proofs.YtblnfngigdipcaaDoorW.PrintWords Go.Proofs.YtblnfngigdipcaaDoorW.PrintLast Go.Proofs.YtblnfngigdipcaaDoorW.PrintMore
set_option linter.unusedVariables false
set_option linter.unusedSimpArgs false
theorem name_at (op : Int) : inst_Name.f op = if shapeN op = 0 then some (⟨#[]⟩, 1) else some (inst_name op.toNat, 0) := by
  unfold inst_Name.f
  rw [shape_at]
  by_cases h : shapeN op = 0
  · rw [if_pos h, h, if_pos (by rfl)]
  · rw [if_neg h, if_neg]
    intro he
    have := Option.some.inj he
    omega
theorem shaped_at (k : Nat) (hk : 800 ≤ k) : cleatlaw04_shaped.f k = some true := by
  have up : ∀ (op d n m : Int) (b : Bool), inst_Is.f 10 op d n m 0 0 0 0 0 0 = some b → inst_Is.f k op d n m 0 0 0 0 0 0 = some b := fun op d n m b h => at_rounds (g := fun k => inst_Is.f k op d n m 0 0 0 0 0 0) (inst_Is.mono _ _ _ _ _ _ _ _ _ _) (by omega) h
  have e1 : inst_Is.f k 4 31 2 0 0 0 0 0 0 0 = some true := up _ _ _ _ _ (by decide +kernel)
  have e2 : inst_Is.f k 12 31 2 2 0 0 0 0 0 0 = some true := up _ _ _ _ _ (by decide +kernel)
  have e3 : inst_Is.f k 25 1 31 0 0 0 0 0 0 0 = some true := up _ _ _ _ _ (by decide +kernel)
  have e4 : inst_Is.f k 0 0 0 0 0 0 0 0 0 0 = some false := up _ _ _ _ _ (by decide +kernel)
  have n39 : inst_Name.f 39 = some (⟨#[99, 115, 101, 108]⟩, 0) := by rw [name_at]; decide +kernel
  unfold cleatlaw04_shaped.f
  rw [writes_at k (by omega) _ _ _ _ _ _ _ _ _ _ _ e1, Option.bind_some, writes_at k (by omega) _ _ _ _ _ _ _ _ _ _ _ e2, Option.bind_some, writes_at k (by omega) _ _ _ _ _ _ _ _ _ _ _ e3, Option.bind_some, n39, Option.bind_some,
    reads_at k (by omega) _ _ _ _ _ _ _ _ _ _ _ e1, Option.bind_some, reads_at k (by omega) _ _ _ _ _ _ _ _ _ _ _ e2, reads_at k (by omega) _ _ _ _ _ _ _ _ _ _ _ e3, rdV_eq, rdV_eq, rdV_eq, if_pos rfl]
  rw [show refR 4 31 2 0 0 = [2] by decide, show refR 12 31 2 2 0 = [2] by decide, show refR 25 1 31 0 0 = [1, 31] by decide, show wrV true 4 31 = (31, true) by decide, show wrV true 12 31 = (0, false) by decide, show wrV true 25 1 = (0, false) by decide]
  simp only [same_refl k [2] (by decide) (by simp; omega), same_refl k [1, 31] (by decide) (by simp; omega), Option.bind_some, if_true, e1, e4]
  decide +kernel
end Go.Proofs.YtblnfngigdipcaaDoor.M
