/- Written for this claim by a program of this session: what the claim uses of lemmas and proved contracts of Go functions. -/
import Derived.Test.YtbklmlbmbnnjkaaDoorZDoesMInstD
import Derived.Test.YtbklmlbmbnnjkaaDoorZDoesRx0
import Derived.Test.YtbklmlbmbnnjkaaDoorZDoesRx4
import Derived.Test.YtbklmlbmbnnjkaaDoorZDoesRx5
import Derived.Test.YtbklmlbmbnnjkaaDoorZDoesRx6
import Derived.Test.YtbklmlbmbnnjkaaDoorZDoesRx10
import Derived.Test.YtbklmlbmbnnjkaaDoorZDoesRx14
namespace Go.Proofs.YtbklmlbmbnnjkaaDoor.M
open Go.RowKit Go.Proofs.YtbklmlbmbnnjkaaDoor.R Go.Proofs.YtbklmlbmbnnjkaaDoorW.PrintWords Go.Proofs.YtbklmlbmbnnjkaaDoorW.PrintLast Go.Proofs.YtbklmlbmbnnjkaaDoorW.PrintMore
set_option linter.unusedVariables false
set_option linter.unusedSimpArgs false
theorem ref_shape_fin : ∀ n : Fin 40, cleatref04_Shape.f 1 ((n.val : Nat) : Int) = some ((shapeN ((n.val : Nat) : Int) : Nat) : Int) := by decide +kernel
theorem ref_shape_at (k : Nat) (hk : 1 ≤ k) (op : Int) : cleatref04_Shape.f k op = some ((shapeN op : Nat) : Int) := by
  by_cases h : 0 ≤ op ∧ op ≤ 39
  · obtain ⟨n, rfl⟩ := Int.eq_ofNat_of_zero_le h.1
    exact at_rounds (g := fun k => cleatref04_Shape.f k (n : Int)) (cleatref04_Shape.mono _) hk (ref_shape_fin ⟨n, by omega⟩)
  · have e : shapeN op = 0 := (shapeN_zero op).2 (by omega)
    rw [e]
    obtain ⟨k, rfl⟩ : ∃ m, k = m + 1 := ⟨k - 1, by omega⟩
    unfold cleatref04_Shape.f
    rw [Option.bind_some]
    by_cases h1 : op < 1
    · rw [if_pos h1]; simp only [cleatref04_Shape.j0]; rfl
    · rw [if_neg h1, decide_eq_true (show op > 39 by omega)]; simp only [cleatref04_Shape.j0]; rfl
end Go.Proofs.YtbklmlbmbnnjkaaDoor.M
