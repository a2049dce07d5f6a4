/- Written for this claim by a program of this session: what the claim uses of lemmas and proved contracts of Go functions. -/
import Derived.Test.YtbklmlbmbnnjkaaDoorZDoesRx0
import Derived.Test.YtbklmlbmbnnjkaaDoorZDoesRx2
import Derived.Test.YtbklmlbmbnnjkaaDoorZDoesRx4
import Derived.Test.YtbklmlbmbnnjkaaDoorZDoesRx8
import Derived.Test.YtbklmlbmbnnjkaaDoorZDoesRx9
import Derived.Test.YtbklmlbmbnnjkaaDoorZDoesRx20
namespace Go.Proofs.YtbklmlbmbnnjkaaDoor.R
open Go.RowKit Go.Proofs.YtbklmlbmbnnjkaaDoorW.PrintWords Go.Proofs.YtbklmlbmbnnjkaaDoorW.PrintLast Go.Proofs.YtbklmlbmbnnjkaaDoorW.PrintMore
attribute [local go_sem] max2_int min2_int max_two min_two max_three min_three max_four min_four   -- for this text's walks alone
set_option linter.unusedVariables false
set_option linter.unusedSimpArgs false
def mask_Encode.f (k : Nat) (a0 : Int) : Option (Int × Int × Int × Int) := (mask_Is.f k a0).bind fun t402 => (if t402 = true then ((mask_tell.f k a0).bind fun bt403 => (some (bt403.1, bt403.2.1, bt403.2.2, 0))) else (some (0, 0, 0, 3)))
theorem mask_Encode.mono : ∀ a0 k, LeO (mask_Encode.f k a0) (mask_Encode.f (k + 1) a0) := by
 intro a0 k
 unfold mask_Encode.f
 repeat' first
   | (with_reducible exact mask_Is.mono _ _)
   | (with_reducible exact mask_tell.mono _ _)
   | (with_reducible exact LeO.refl _)
   | (with_reducible exact LeO.none _)
   | (with_reducible refine LeO.ite ?_ ?_)
   | (with_reducible refine LeO.bind ?_ (fun _ => ?_))
   | exact mask_Is.mono _ _
   | exact mask_tell.mono _ _
   | exact LeO.none _
   | refine LeO.ite ?_ ?_
   | refine LeO.bind ?_ (fun _ => ?_)
end Go.Proofs.YtbklmlbmbnnjkaaDoor.R
