/- An operation has just this shape and name, a name just these operations: the Go law answers true. -/
import Derived.Test.YtbklmlbmbnnjkaaDoorRx19
import Derived.Test.YtbklmlbmbnnjkaaDoorMInstF
namespace Go.Proofs.YtbklmlbmbnnjkaaDoor.Pure
open Go.RowKit Go.Proofs.YtbklmlbmbnnjkaaDoor.R Go.Proofs.YtbklmlbmbnnjkaaDoorW.PrintWords Go.Proofs.YtbklmlbmbnnjkaaDoorW.PrintLast Go.Proofs.YtbklmlbmbnnjkaaDoor.M

theorem InstNamed : cleatlaw04_InstNamed.Pure := by
  intro op name _ _
  refine ⟨1000, ?_⟩
  unfold cleatlaw04_InstNamed.f
  have hl := opsL_len name 40 []
  have e : inst_Ops.f name = some (inst_opsL name 40 []) := rfl
  obtain ⟨p, hp1, hp2⟩ : ∃ p : ByteArray × Int, inst_Name.f op = some p ∧ cleatref04_Name.f 1000 op = some p := by
    rw [name_at, ref_name_at 1000 (by omega)]
    split
    · exact ⟨_, rfl, rfl⟩
    · exact ⟨_, rfl, rfl⟩
  rw [hp1, Option.bind_some, hp2, Option.bind_some, shaped_at 1000 (by omega), Option.bind_some, if_pos rfl, shape_at, Option.bind_some, ref_shape_at 1000 (by omega), Option.bind_some, if_pos rfl, if_pos rfl, if_pos rfl, e, Option.bind_some, ref_ops_at 1000 (by omega), Option.bind_some,
    same_refl 1000 _ (by simp at hl; omega) (by simp at hl; omega), Option.bind_some]
end Go.Proofs.YtbklmlbmbnnjkaaDoor.Pure
