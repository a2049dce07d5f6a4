/- The chapter's examples (chapter 5). -/
import Derived.Test.YtkpkkjbigndnoaaDoorMCodeD
import Derived.Test.YtkpkkjbigndnoaaDoorPx13
namespace Go.Proofs.YtkpkkjbigndnoaaDoor.M
open Go.RowKit Go.Proofs.YtkpkkjbigndnoaaDoor.P Go.Proofs.YtkpkkjbigndnoaaDoorW.PrintWords Go.Proofs.YtkpkkjbigndnoaaDoorW.PrintLast Go.Proofs.YtkpkkjbigndnoaaDoorW.PrintMore
set_option linter.unusedVariables false
set_option linter.unusedSimpArgs false
theorem coded_one : cleatlaw05_coded.f 250 = some true := by decide +kernel
theorem coded_at : ∀ k, 250 ≤ k → cleatlaw05_coded.f k = some true
  | 0, h => by omega
  | k + 1, h => by
    by_cases hk : k + 1 = 250
    · rw [hk]; exact coded_one
    · exact cleatlaw05_coded.mono k true (coded_at k (by omega))
end Go.Proofs.YtkpkkjbigndnoaaDoor.M
