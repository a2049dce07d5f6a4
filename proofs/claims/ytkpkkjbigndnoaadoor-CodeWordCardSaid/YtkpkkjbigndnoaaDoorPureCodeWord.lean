/- What a word is decoded as is right, and encoded as that word: the Go law answers true for every word. -/
import Derived.Test.YtkpkkjbigndnoaaDoorMCodeH
import Derived.Test.YtkpkkjbigndnoaaDoorPx13
namespace Go.Proofs.YtkpkkjbigndnoaaDoor.Pure
open Go.RowKit Go.Proofs.YtkpkkjbigndnoaaDoor.P Go.Proofs.YtkpkkjbigndnoaaDoorW.PrintWords Go.Proofs.YtkpkkjbigndnoaaDoorW.PrintLast Go.Proofs.YtkpkkjbigndnoaaDoorW.PrintMore Go.Proofs.YtkpkkjbigndnoaaDoor.M
set_option linter.unusedVariables false
set_option linter.unusedSimpArgs false
theorem CodeWord : cleatlaw05_CodeWord.Pure := by
  intro a0 w0
  have b : 0 ≤ a0 ∧ a0 < 4294967296 := by
    simp [Lit.wf, IntKind.min, IntKind.max, IntKind.bits, IntKind.signed] at w0; omega
  obtain ⟨W, rfl⟩ := Int.eq_ofNat_of_zero_le b.1
  refine ⟨1000, ?_⟩
  have hco := coded_at 1000 (by decide)
  unfold cleatlaw05_CodeWord.f
  rcases back_all W (by omega) with hd | ⟨c, hd, hi, he, ho, -, -⟩
  · simp only [tup, CI.zero] at hd
    rw [hd, Option.bind_some, if_neg (by decide), hco, Option.bind_some, if_pos rfl, if_pos rfl]
    rfl
  · unfold CI.is at hi
    simp only [tup] at hd hi he ho
    rw [hd, Option.bind_some, if_pos rfl]
    simp only
    rw [he, Option.bind_some, hco, Option.bind_some, if_pos rfl, hi, Option.bind_some, if_pos rfl, if_pos rfl, if_pos rfl, ho, Option.bind_some]
    simp
end Go.Proofs.YtkpkkjbigndnoaaDoor.Pure
