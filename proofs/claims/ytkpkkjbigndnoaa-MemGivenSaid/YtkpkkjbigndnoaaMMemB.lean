/- Whether regions are too many (chapter 7). -/
import Derived.Test.YtkpkkjbigndnoaaMMemK
namespace Go.Proofs.Ytkpkkjbigndnoaa.MW
open Go.RowKit Go.Proofs.Ytkpkkjbigndnoaa.P Go.Proofs.YtkpkkjbigndnoaaW.PrintWords Go.Proofs.YtkpkkjbigndnoaaW.PrintLast Go.Proofs.YtkpkkjbigndnoaaW.PrintMore
set_option linter.unusedVariables false
set_option linter.unusedSimpArgs false
theorem big_loop (l : List S37) (hl : l.length ≤ 20) : ∀ (d i k : Nat), i + d = l.length → 2 * d + 2 ≤ k → ∃ b, cleatref07_Big.l0 k l (i : Int) = some b
  | 0, i, k, hi, hk => by
    obtain ⟨k, rfl⟩ : ∃ m, k = m + 2 := ⟨k - 2, by omega⟩
    simp only [cleatref07_Big.l0]
    rw [if_neg (by omega)]
    simp only [cleatref07_Big.j1]
    exact ⟨_, if_neg (by decide)⟩
  | d + 1, i, k, hi, hk => by
    obtain ⟨k, rfl⟩ : ∃ m, k = m + 2 := ⟨k - 2, by omega⟩
    obtain ⟨b, hb⟩ := big_loop l hl d (i + 1) k (by omega) (by omega)
    simp only [cleatref07_Big.l0]
    rw [if_pos (by omega), show decide ((l.length : Int) ≤ 20) = true by simp; omega]
    simp only [cleatref07_Big.j1]
    rw [if_pos trivial, if_pos (by omega), if_pos (by omega), show wrap64 ((i : Int) + 1) = ((i + 1 : Nat) : Int) by unfold wrap64; omega, hb]
    (repeat' split) <;> exact ⟨_, rfl⟩
theorem big_at (l : List S37) : ∃ b, cleatref07_Big.f 100 l = some b ∧ (b = false → l.length ≤ 20) := by
  by_cases hl : l.length ≤ 20
  · obtain ⟨b, hb⟩ := big_loop l hl l.length 0 100 (by omega) (by omega)
    exact ⟨b, hb, fun _ => hl⟩
  · refine ⟨true, ?_, fun h => by cases h⟩
    unfold cleatref07_Big.f
    simp only [cleatref07_Big.l0]
    rw [if_pos (by omega), show decide ((l.length : Int) ≤ 20) = false by simp; omega]
    simp only [cleatref07_Big.j1]
    rw [if_neg (by decide)]
    congr 1
    simp
    omega
end Go.Proofs.Ytkpkkjbigndnoaa.MW
