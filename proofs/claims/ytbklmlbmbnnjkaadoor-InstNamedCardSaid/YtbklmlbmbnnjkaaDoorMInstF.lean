/- Names of operations: the document's answer is the program's (chapter 4). -/
import Derived.Test.YtbklmlbmbnnjkaaDoorMInstE
import Derived.Test.YtbklmlbmbnnjkaaDoorRx10
import Derived.Test.YtbklmlbmbnnjkaaDoorRx19
import Derived.Test.YtbklmlbmbnnjkaaDoorRx19
namespace Go.Proofs.YtbklmlbmbnnjkaaDoor.M
open Go.RowKit Go.Proofs.YtbklmlbmbnnjkaaDoor.R Go.Proofs.YtbklmlbmbnnjkaaDoorW.PrintWords Go.Proofs.YtbklmlbmbnnjkaaDoorW.PrintLast Go.Proofs.YtbklmlbmbnnjkaaDoorW.PrintMore
set_option linter.unusedVariables false
set_option linter.unusedSimpArgs false

theorem ref_shape_fin : ∀ n : Fin 40, cleatref04_Shape.f 1 ((n.val : Nat) : Int) = some ((shapeN ((n.val : Nat) : Int) : Nat) : Int) := by decide +kernel
theorem ref_shape_at (k : Nat) (hk : 1 ≤ k) (op : Int) : cleatref04_Shape.f k op = some ((shapeN op : Nat) : Int) := by
  by_cases h : 0 ≤ op ∧ op ≤ 39
  · obtain ⟨n, rfl⟩ := Int.eq_ofNat_of_zero_le h.1
    exact at_rounds (g := fun k => cleatref04_Shape.f k (n : Int)) (cleatref04_Shape.mono _) hk (ref_shape_fin ⟨n, by omega⟩)
  · have e : shapeN op = 0 := (shapeN_zero op).2 (by omega)
    rw [e]
    obtain ⟨k, rfl⟩ : ∃ m, k = m + 1 := ⟨k - 1, by omega⟩
    unfold cleatref04_Shape.f
    rw [Option.bind_some]
    by_cases h1 : op < 1
    · rw [if_pos h1]; simp only [cleatref04_Shape.j0]; rfl
    · rw [if_neg h1, decide_eq_true (show op > 39 by omega)]; simp only [cleatref04_Shape.j0]; rfl

def refL : List ByteArray := (cleatref04_names.f).getD []
theorem names_at : cleatref04_names.f = some refL := rfl
theorem refL_len : refL.length = 40 := by decide +kernel
theorem refL_fin : ∀ n : Fin 40, rdOf ByteArray.empty refL ((n.val : Nat) : Int) = inst_name n.val := by decide +kernel
theorem refL_at (i : Nat) (h : i < 40) : rdOf ByteArray.empty refL (i : Int) = inst_name i := refL_fin ⟨i, h⟩
theorem ref_name_at (k : Nat) (hk : 1 ≤ k) (op : Int) : cleatref04_Name.f k op = if shapeN op = 0 then some (⟨#[]⟩, 1) else some (inst_name op.toNat, 0) := by
  unfold cleatref04_Name.f
  rw [ref_shape_at k hk, Option.bind_some]
  by_cases h : shapeN op = 0
  · rw [if_pos h, h, if_pos (by rfl)]
  · rw [if_neg h, if_neg (by omega), names_at, Option.bind_some]
    have h1 : 1 ≤ op ∧ op ≤ 39 := Classical.byContradiction fun hn => h ((shapeN_zero op).2 hn)
    obtain ⟨n, rfl⟩ := Int.eq_ofNat_of_zero_le (show 0 ≤ op by omega)
    rw [if_pos (by omega), if_pos (by rw [refL_len]; omega), refL_at n (by omega)]
    rfl
theorem ref_ops_loop (name : ByteArray) : ∀ (d : Nat) (out : List Int) (k : Nat), d ≤ 39 → d + 1 ≤ k → out.length ≤ 40 - d → cleatref04_Ops.l0 k name out refL ((40 - d : Nat) : Int) = some (inst_opsL name d out)
  | 0, out, k, hd, hk, ho => by
    obtain ⟨k, rfl⟩ : ∃ m, k = m + 1 := ⟨k - 1, by omega⟩
    simp only [cleatref04_Ops.l0]
    rw [if_neg (by omega)]
    rfl
  | d + 1, out, k, hd, hk, ho => by
    obtain ⟨k, rfl⟩ : ∃ m, k = m + 1 := ⟨k - 1, by omega⟩
    simp only [cleatref04_Ops.l0]
    rw [if_pos (by omega), if_pos (by omega), if_pos (by rw [refL_len]; omega), refL_at _ (by omega), w64s _ (by omega) (by omega), show (((40 - (d + 1) : Nat) : Int) + 1) = ((40 - d : Nat) : Int) by omega]
    rw [show inst_opsL name (d + 1) out = inst_opsL name d (if 0 < 39 - d ∧ (inst_name (39 - d)).toList = name.toList then out ++ [((39 - d : Nat) : Int)] else out) from rfl]
    rw [show 40 - (d + 1) = 39 - d by omega]
    by_cases hn : (inst_name (39 - d)).toList = name.toList
    · rw [if_pos hn, if_pos (by omega), if_pos ⟨by omega, hn⟩]
      exact ref_ops_loop name d _ k (by omega) (by omega) (by simp; omega)
    · rw [if_neg hn, if_neg (fun h => hn h.2)]
      exact ref_ops_loop name d out k (by omega) (by omega) (by omega)
theorem ref_ops_at (k : Nat) (hk : 50 ≤ k) (name : ByteArray) : cleatref04_Ops.f k name = some (inst_opsL name 40 []) := by
  unfold cleatref04_Ops.f
  rw [names_at, Option.bind_some]
  have h := ref_ops_loop name 39 [] k (by omega) (by omega) (by simp)
  have e : inst_opsL name 40 [] = inst_opsL name 39 [] := by
    show inst_opsL name 39 (if 0 < 39 - 39 ∧ (inst_name (39 - 39)).toList = name.toList then [] ++ [((39 - 39 : Nat) : Int)] else []) = _
    rw [if_neg (fun h => absurd h.1 (by omega))]
  rw [e]
  exact h
end Go.Proofs.YtbklmlbmbnnjkaaDoor.M
