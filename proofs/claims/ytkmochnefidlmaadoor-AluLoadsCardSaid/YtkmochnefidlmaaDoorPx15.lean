/- Written for this claim by a program of this session (drive.py, over the print of the kit): Lean functions with the answers of Go functions, and the proofs that the Go code comes to these answers, under no condition but the readings of the arguments that each theorem names. -/
import Derived.Test.YtkmochnefidlmaaDoorPx0
import Derived.Test.YtkmochnefidlmaaDoorPx10
import Derived.Test.YtkmochnefidlmaaDoorPx11
import Derived.Test.YtkmochnefidlmaaDoorPx12
import Derived.Test.YtkmochnefidlmaaDoorPx14
namespace Go.Proofs.YtkmochnefidlmaaDoor.P
open Go.RowKit Go.Proofs.YtkmochnefidlmaaDoorW.PrintWords Go.Proofs.YtkmochnefidlmaaDoorW.PrintLast Go.Proofs.YtkmochnefidlmaaDoorW.PrintMore
attribute [local go_sem] max2_int min2_int max_two min_two max_three min_three max_four min_four   -- for this text's walks alone
set_option linter.unusedVariables false
set_option linter.unusedSimpArgs false

/-! ### cleatlaw06_AluLoads: function 6 -/
def bb2_0 : Array Bool := #[false, false, false, false, false, false, false, false, false, false, false, false, false, false, false, false, false, false, false, false, false, false, false, false, false, false, false, false, false, false, false, false, false, false, false, false, false, false, false, false, false, false, false, false, false, false, false, false, false, false, false, false, false, false, false, false, false, false, false]
def bb2_1 : Array Bool := #[true, false, false, false, false, false, false, false, false, false, false, false, false, false, false, false, false, false, false, false, false, false, false, false, false, false, false, false, false, false, false, false, false, false, false, false, false, false, false, false, false, false, false, false, false, false, false, false, false, false, false, false, false, false, false, false, false, false, false]
def bb2_2 : Array Bool := #[true, true, false, false, false, false, false, false, false, false, false, false, false, false, false, false, false, false, false, false, false, false, false, false, false, false, false, false, false, false, false, false, false, false, false, false, false, false, false, false, false, false, false, false, false, false, false, false, false, false, false, false, false, false, false, false, false, false, false]
def bb2_3 : Array Bool := #[true, true, true, false, false, false, false, false, false, false, false, false, false, false, false, false, false, false, false, false, false, false, false, false, false, false, false, false, false, false, false, false, false, false, false, false, false, false, false, false, false, false, false, false, false, false, false, false, false, false, false, false, false, false, false, false, false, false, false]
def bb2_4 : Array Bool := #[true, true, true, true, false, false, false, false, false, false, false, false, false, false, false, false, false, false, false, false, false, false, false, false, false, false, false, false, false, false, false, false, false, false, false, false, false, false, false, false, false, false, false, false, false, false, false, false, false, false, false, false, false, false, false, false, false, false, false]
def bb2_5 : Array Bool := #[true, true, true, true, true, false, false, false, false, false, false, false, false, false, false, false, false, false, false, false, false, false, false, false, false, false, false, false, false, false, false, false, false, false, false, false, false, false, false, false, false, false, false, false, false, false, false, false, false, false, false, false, false, false, false, false, false, false, false]
def bb2_6 : Array Bool := #[true, true, true, true, true, true, false, false, false, false, false, false, false, false, false, false, false, false, false, false, false, false, false, false, false, false, false, false, false, false, false, false, false, false, false, false, false, false, false, false, false, false, false, false, false, false, false, false, false, false, false, false, false, false, false, false, false, false, false]
def bb2_7 : Array Bool := #[true, true, true, true, true, true, true, false, false, false, false, false, false, false, false, false, false, false, false, false, false, false, false, false, false, false, false, false, false, false, false, false, false, false, false, false, false, false, false, false, false, false, false, false, false, false, false, false, false, false, false, false, false, false, false, false, false, false, false]
def bb2_8 : Array Bool := #[true, true, true, true, true, true, true, true, false, false, false, false, false, false, false, false, false, false, false, false, false, false, false, false, false, false, false, false, false, false, false, false, false, false, false, false, false, false, false, false, false, false, false, false, false, false, false, false, false, false, false, false, false, false, false, false, false, false, false]
def bb2_9 : Array Bool := #[true, true, true, true, true, true, true, true, true, false, false, false, false, false, false, false, false, false, false, false, false, false, false, false, false, false, false, false, false, false, false, false, false, false, false, false, false, false, false, false, false, false, false, false, false, false, false, false, false, false, false, false, false, false, false, false, false, false, false]
def bb2_10 : Array Bool := #[true, true, true, true, true, true, true, true, true, true, false, false, false, false, false, false, false, false, false, false, false, false, false, false, false, false, false, false, false, false, false, false, false, false, false, false, false, false, false, false, false, false, false, false, false, false, false, false, false, false, false, false, false, false, false, false, false, false, false]
def bb2_11 : Array Bool := #[true, true, true, true, true, true, true, true, true, true, true, false, false, false, false, false, false, false, false, false, false, false, false, false, false, false, false, false, false, false, false, false, false, false, false, false, false, false, false, false, false, false, false, false, false, false, false, false, false, false, false, false, false, false, false, false, false, false, false]
def bb2_12 : Array Bool := #[true, true, true, true, true, true, true, true, true, true, true, true, false, false, false, false, false, false, false, false, false, false, false, false, false, false, false, false, false, false, false, false, false, false, false, false, false, false, false, false, false, false, false, false, false, false, false, false, false, false, false, false, false, false, false, false, false, false, false]
def bb2_13 : Array Bool := #[true, true, true, true, true, true, true, true, true, true, true, true, true, false, false, false, false, false, false, false, false, false, false, false, false, false, false, false, false, false, false, false, false, false, false, false, false, false, false, false, false, false, false, false, false, false, false, false, false, false, false, false, false, false, false, false, false, false, false]
def bb2_14 : Array Bool := #[true, true, true, true, true, true, true, true, true, true, true, true, true, true, false, false, false, false, false, false, false, false, false, false, false, false, false, false, false, false, false, false, false, false, false, false, false, false, false, false, false, false, false, false, false, false, false, false, false, false, false, false, false, false, false, false, false, false, false]
def bb2_15 : Array Bool := #[true, true, true, true, true, true, true, true, true, true, true, true, true, true, true, false, false, false, false, false, false, false, false, false, false, false, false, false, false, false, false, false, false, false, false, false, false, false, false, false, false, false, false, false, false, false, false, false, false, false, false, false, false, false, false, false, false, false, false]
def bb2_16 : Array Bool := #[true, true, true, true, true, true, true, true, true, true, true, true, true, true, true, true, false, false, false, false, false, false, false, false, false, false, false, false, false, false, false, false, false, false, false, false, false, false, false, false, false, false, false, false, false, false, false, false, false, false, false, false, false, false, false, false, false, false, false]
def bb2_17 : Array Bool := #[true, true, true, true, true, true, true, true, true, true, true, true, true, true, true, true, true, false, false, false, false, false, false, false, false, false, false, false, false, false, false, false, false, false, false, false, false, false, false, false, false, false, false, false, false, false, false, false, false, false, false, false, false, false, false, false, false, false, false]
def bb2_18 : Array Bool := #[true, true, true, true, true, true, true, true, true, true, true, true, true, true, true, true, true, true, false, false, false, false, false, false, false, false, false, false, false, false, false, false, false, false, false, false, false, false, false, false, false, false, false, false, false, false, false, false, false, false, false, false, false, false, false, false, false, false, false]
def bb2_19 : Array Bool := #[true, true, true, true, true, true, true, true, true, true, true, true, true, true, true, true, true, true, true, false, false, false, false, false, false, false, false, false, false, false, false, false, false, false, false, false, false, false, false, false, false, false, false, false, false, false, false, false, false, false, false, false, false, false, false, false, false, false, false]
def bb2_20 : Array Bool := #[true, true, true, true, true, true, true, true, true, true, true, true, true, true, true, true, true, true, true, false, false, true, false, false, false, false, false, false, false, false, false, false, false, false, false, false, false, false, false, false, false, false, false, false, false, false, false, false, false, false, false, false, false, false, false, false, false, false, false]
def bb2_21 : Array Bool := #[true, true, true, true, true, true, true, true, true, true, true, true, true, true, true, true, true, true, true, false, false, true, true, false, false, false, false, false, false, false, false, false, false, false, false, false, false, false, false, false, false, false, false, false, false, false, false, false, false, false, false, false, false, false, false, false, false, false, false]
def bb2_22 : Array Bool := #[true, true, true, true, true, true, true, true, true, true, true, true, true, true, true, true, true, true, true, true, false, true, true, false, false, false, false, false, false, false, false, false, false, false, false, false, false, false, false, false, false, false, false, false, false, false, false, false, false, false, false, false, false, false, false, false, false, false, false]
def bb2_23 : Array Bool := #[true, true, true, true, true, true, true, true, true, true, true, true, true, true, true, true, true, true, true, true, true, true, true, false, false, false, false, false, false, false, false, false, false, false, false, false, false, false, false, false, false, false, false, false, false, false, false, false, false, false, false, false, false, false, false, false, false, false, false]
def bb2_24 : Array Bool := #[true, true, true, true, true, true, true, true, true, true, true, true, true, true, true, true, true, true, true, true, true, true, true, true, false, false, false, false, false, false, false, false, false, false, false, false, false, false, false, false, false, false, false, false, false, false, false, false, false, false, false, false, false, false, false, false, false, false, false]
def bb2_25 : Array Bool := #[true, true, true, true, true, true, true, true, true, true, true, true, true, true, true, true, true, true, true, true, true, true, true, true, true, false, false, false, false, false, false, false, false, false, false, false, false, false, false, false, false, false, false, false, false, false, false, false, false, false, false, false, false, false, false, false, false, false, false]
def bb2_26 : Array Bool := #[true, true, true, true, true, true, true, true, true, true, true, true, true, true, true, true, true, true, true, true, true, true, true, true, true, true, false, false, false, false, false, false, false, false, false, false, false, false, false, false, false, false, false, false, false, false, false, false, false, false, false, false, false, false, false, false, false, false, false]
def bb2_27 : Array Bool := #[true, true, true, true, true, true, true, true, true, true, true, true, true, true, true, true, true, true, true, true, true, true, true, true, true, true, true, false, false, false, false, false, false, false, false, false, false, false, false, false, false, false, false, false, false, false, false, false, false, false, false, false, false, false, false, false, false, false, false]
def bb2_28 : Array Bool := #[true, true, true, true, true, true, true, true, true, true, true, true, true, true, true, true, true, true, true, true, true, true, true, true, true, true, true, true, false, false, false, false, false, false, false, false, false, false, false, false, false, false, false, false, false, false, false, false, false, false, false, false, false, false, false, false, false, false, false]
def bb2_29 : Array Bool := #[true, true, true, true, true, true, true, true, true, true, true, true, true, true, true, true, true, true, true, true, true, true, true, true, true, true, true, true, true, false, false, false, false, false, false, false, false, false, false, false, false, false, false, false, false, false, false, false, false, false, false, false, false, false, false, false, false, false, false]
def bb2_30 : Array Bool := #[true, true, true, true, true, true, true, true, true, true, true, true, true, true, true, true, true, true, true, true, true, true, true, true, true, true, true, true, true, true, false, false, false, false, false, false, false, false, false, false, false, false, false, false, false, false, false, false, false, false, false, false, false, false, false, false, false, false, false]
def bb2_31 : Array Bool := #[true, true, true, true, true, true, true, true, true, true, true, true, true, true, true, true, true, true, true, true, true, true, true, true, true, true, true, true, true, true, true, false, false, false, false, false, false, false, false, false, false, false, false, false, false, false, false, false, false, false, false, false, false, false, false, false, false, false, false]
def bb2_32 : Array Bool := #[true, true, true, true, true, true, true, true, true, true, true, true, true, true, true, true, true, true, true, true, true, true, true, true, true, true, true, true, true, true, true, true, false, false, false, false, false, false, false, false, false, false, false, false, false, false, false, false, false, false, false, false, false, false, false, false, false, false, false]
def bb2_33 : Array Bool := #[true, true, true, true, true, true, true, true, true, true, true, true, true, true, true, true, true, true, true, true, true, true, true, true, true, true, true, true, true, true, true, true, true, false, false, false, false, false, false, false, false, false, false, false, false, false, false, false, false, false, false, false, false, false, false, false, false, false, false]
def bb2_34 : Array Bool := #[true, true, true, true, true, true, true, true, true, true, true, true, true, true, true, true, true, true, true, true, true, true, true, true, true, true, true, true, true, true, true, true, true, true, false, false, false, false, false, false, false, false, false, false, false, false, false, false, false, false, false, false, false, false, false, false, false, false, false]
def bb2_35 : Array Bool := #[true, true, true, true, true, true, true, true, true, true, true, true, true, true, true, true, true, true, true, true, true, true, true, true, true, true, true, true, true, true, true, true, true, true, true, false, false, false, false, false, false, false, false, false, false, false, false, false, false, false, false, false, false, false, false, false, false, false, false]
def bb2_36 : Array Bool := #[true, true, true, true, true, true, true, true, true, true, true, true, true, true, true, true, true, true, true, true, true, true, true, true, true, true, true, true, true, true, true, true, true, true, true, true, false, false, false, false, false, false, false, false, false, false, false, false, false, false, false, false, false, false, false, false, false, false, false]
def bb2_37 : Array Bool := #[true, true, true, true, true, true, true, true, true, true, true, true, true, true, true, true, true, true, true, true, true, true, true, true, true, true, true, true, true, true, true, true, true, true, true, true, true, false, false, false, false, false, false, false, false, false, false, false, false, false, false, false, false, false, false, false, false, false, false]
def bb2_38 : Array Bool := #[true, true, true, true, true, true, true, true, true, true, true, true, true, true, true, true, true, true, true, true, true, true, true, true, true, true, true, true, true, true, true, true, true, true, true, true, true, true, false, false, false, false, false, false, false, false, false, false, false, false, false, false, false, false, false, false, false, false, false]
def bb2_39 : Array Bool := #[true, true, true, true, true, true, true, true, true, true, true, true, true, true, true, true, true, true, true, true, true, true, true, true, true, true, true, true, true, true, true, true, true, true, true, true, true, true, true, false, false, false, false, false, false, false, false, false, false, false, false, false, false, false, false, false, false, false, false]
def bb2_40 : Array Bool := #[true, true, true, true, true, true, true, true, true, true, true, true, true, true, true, true, true, true, true, true, true, true, true, true, true, true, true, true, true, true, true, true, true, true, true, true, true, true, true, true, false, false, false, false, false, false, false, false, false, false, false, false, false, false, false, false, false, false, false]
def bb2_41 : Array Bool := #[true, true, true, true, true, true, true, true, true, true, true, true, true, true, true, true, true, true, true, true, true, true, true, true, true, true, true, true, true, true, true, true, true, true, true, true, true, true, true, true, true, false, false, false, false, false, false, false, false, false, false, false, false, false, false, false, false, false, false]
def bb2_42 : Array Bool := #[true, true, true, true, true, true, true, true, true, true, true, true, true, true, true, true, true, true, true, true, true, true, true, true, true, true, true, true, true, true, true, true, true, true, true, true, true, true, true, true, true, true, false, false, false, false, false, false, false, false, false, false, false, false, false, false, false, false, false]
def bb2_43 : Array Bool := #[true, true, true, true, true, true, true, true, true, true, true, true, true, true, true, true, true, true, true, true, true, true, true, true, true, true, true, true, true, true, true, true, true, true, true, true, true, true, true, true, true, true, true, false, false, false, false, false, false, false, false, false, false, false, false, false, false, false, false]
def bb2_44 : Array Bool := #[true, true, true, true, true, true, true, true, true, true, true, true, true, true, true, true, true, true, true, true, true, true, true, true, true, true, true, true, true, true, true, true, true, true, true, true, true, true, true, true, true, true, true, true, false, false, false, false, false, false, false, false, false, false, false, false, false, false, false]
def bb2_45 : Array Bool := #[true, true, true, true, true, true, true, true, true, true, true, true, true, true, true, true, true, true, true, true, true, true, true, true, true, true, true, true, true, true, true, true, true, true, true, true, true, true, true, true, true, true, true, true, true, false, false, false, false, false, false, false, false, false, false, false, false, false, false]
def bb2_46 : Array Bool := #[true, true, true, true, true, true, true, true, true, true, true, true, true, true, true, true, true, true, true, true, true, true, true, true, true, true, true, true, true, true, true, true, true, true, true, true, true, true, true, true, true, true, true, true, true, true, false, false, false, false, false, false, false, false, false, false, false, false, false]
def bb2_47 : Array Bool := #[true, true, true, true, true, true, true, true, true, true, true, true, true, true, true, true, true, true, true, true, true, true, true, true, true, true, true, true, true, true, true, true, true, true, true, true, true, true, true, true, true, true, true, true, true, true, true, false, false, false, false, false, false, false, false, false, false, false, false]
def bb2_48 : Array Bool := #[true, true, true, true, true, true, true, true, true, true, true, true, true, true, true, true, true, true, true, true, true, true, true, true, true, true, true, true, true, true, true, true, true, true, true, true, true, true, true, true, true, true, true, true, true, true, true, true, false, false, false, false, false, false, false, false, false, false, false]
def bb2_49 : Array Bool := #[true, true, true, true, true, true, true, true, true, true, true, true, true, true, true, true, true, true, true, true, true, true, true, true, true, true, true, true, true, true, true, true, true, true, true, true, true, true, true, true, true, true, true, true, true, true, true, true, true, false, false, false, false, false, false, false, false, false, false]
def bb2_50 : Array Bool := #[true, true, true, true, true, true, true, true, true, true, true, true, true, true, true, true, true, true, true, true, true, true, true, true, true, true, true, true, true, true, true, true, true, true, true, true, true, true, true, true, true, true, true, true, true, true, true, true, true, true, false, false, false, false, false, false, false, false, false]
def bb2_51 : Array Bool := #[true, true, true, true, true, true, true, true, true, true, true, true, true, true, true, true, true, true, true, true, true, true, true, true, true, true, true, true, true, true, true, true, true, true, true, true, true, true, true, true, true, true, true, true, true, true, true, true, true, true, true, false, false, false, false, false, false, false, false]
def bb2_52 : Array Bool := #[true, true, true, true, true, true, true, true, true, true, true, true, true, true, true, true, true, true, true, true, true, true, true, true, true, true, true, true, true, true, true, true, true, true, true, true, true, true, true, true, true, true, true, true, true, true, true, true, true, true, true, true, false, false, false, false, false, false, false]
def bb2_53 : Array Bool := #[true, true, true, true, true, true, true, true, true, true, true, true, true, true, true, true, true, true, true, true, true, true, true, true, true, true, true, true, true, true, true, true, true, true, true, true, true, true, true, true, true, true, true, true, true, true, true, true, true, true, true, true, true, false, false, false, false, false, false]
def bb2_54 : Array Bool := #[true, true, true, true, true, true, true, true, true, true, true, true, true, true, true, true, true, true, true, true, true, true, true, true, true, true, true, true, true, true, true, true, true, true, true, true, true, true, true, true, true, true, true, true, true, true, true, true, true, true, true, true, true, true, false, false, false, false, false]
def bb2_55 : Array Bool := #[true, true, true, true, true, true, true, true, true, true, true, true, true, true, true, true, true, true, true, true, true, true, true, true, true, true, true, true, true, true, true, true, true, true, true, true, true, true, true, true, true, true, true, true, true, true, true, true, true, true, true, true, true, true, true, false, false, false, false]
def bb2_56 : Array Bool := #[true, true, true, true, true, true, true, true, true, true, true, true, true, true, true, true, true, true, true, true, true, true, true, true, true, true, true, true, true, true, true, true, true, true, true, true, true, true, true, true, true, true, true, true, true, true, true, true, true, true, true, true, true, true, true, true, false, false, false]
def bb2_57 : Array Bool := #[true, true, true, true, true, true, true, true, true, true, true, true, true, true, true, true, true, true, true, true, true, true, true, true, true, true, true, true, true, true, true, true, true, true, true, true, true, true, true, true, true, true, true, true, true, true, true, true, true, true, true, true, true, true, true, true, true, false, false]
def bb2_58 : Array Bool := #[true, true, true, true, true, true, true, true, true, true, true, true, true, true, true, true, true, true, true, true, true, true, true, true, true, true, true, true, true, true, true, true, true, true, true, true, true, true, true, true, true, true, true, true, true, true, true, true, true, true, true, true, true, true, true, true, true, true, false]
def bb2_59 : Array Bool := #[true, true, true, true, true, true, true, true, true, true, true, true, true, true, true, true, true, true, true, true, true, true, true, true, true, true, true, true, true, true, true, true, true, true, true, true, true, true, true, true, true, true, true, true, true, true, true, true, true, true, true, true, true, true, true, true, true, true, true]
def bb2_60 : Array Bool := #[true, true, true, true, true, true, true, true, true, true, true, true, true, true, true, true, true, true, true, true, false, false, false, false, false, false, false, false, false, false, false, false, false, false, false, false, false, false, false, false, false, false, false, false, false, false, false, false, false, false, false, false, false, false, false, false, false, false, false]
def bb2_61 : Array Bool := #[true, true, true, true, true, true, true, true, true, true, true, true, true, true, true, true, true, true, true, true, true, false, false, false, false, false, false, false, false, false, false, false, false, false, false, false, false, false, false, false, false, false, false, false, false, false, false, false, false, false, false, false, false, false, false, false, false, false, false]
def bb2_62 : Array Bool := #[true, true, true, true, true, true, true, true, true, true, true, true, true, true, true, true, true, true, true, true, true, true, false, false, false, false, false, false, false, false, false, false, false, false, false, false, false, false, false, false, false, false, false, false, false, false, false, false, false, false, false, false, false, false, false, false, false, false, false]
mutual
def cleatlaw06_AluLoads.l0 : Nat → Int → List (S25) → Int → Int → Int → Int → Int → Option (Bool)
 | 0, _, _, _, _, _, _, _ => none
 | k + 1, x0, x5, x6, x332000, x332001, x332002, x332003 => if x6 < (x5.length : Int) then (if 0 ≤ x6 then ((inst_Is.f k ((rd_T25 x5 x6).f0) ((rd_T25 x5 x6).f1) ((rd_T25 x5 x6).f2) ((rd_T25 x5 x6).f3) ((rd_T25 x5 x6).f4) ((rd_T25 x5 x6).f5) ((rd_T25 x5 x6).f6) ((rd_T25 x5 x6).f7) ((rd_T25 x5 x6).f8) ((rd_T25 x5 x6).f9)).bind fun t336 => (if t336 = true then (if ((rd_T25 x5 x6).f1) = 0 then (if ((((rd_T25 x5 x6).f0) == 1) != (x6 == 0)) = true then (cleatlaw06_AluLoads.j1 k x0 x5 x6 true x332000 x332001 x332002 x332003) else (if x6 > 0 then (if ((rd_T25 x5 x6).f0) = 3 then (if ((rd_T25 x5 x6).f5) = 0 then (cleatlaw06_AluLoads.j1 k x0 x5 x6 true x332000 x332001 x332002 x332003) else (if 0 ≤ (wrap64 (x6 - 1)) then (if (wrap64 (x6 - 1)) < (x5.length : Int) then (cleatlaw06_AluLoads.j1 k x0 x5 x6 (decide (((rd_T25 x5 x6).f8) ≤ ((rd_T25 x5 (wrap64 (x6 - 1))).f8))) x332000 x332001 x332002 x332003) else (none)) else (none))) else (cleatlaw06_AluLoads.j1 k x0 x5 x6 true x332000 x332001 x332002 x332003)) else (cleatlaw06_AluLoads.j1 k x0 x5 x6 false x332000 x332001 x332002 x332003))) else (cleatlaw06_AluLoads.j1 k x0 x5 x6 true x332000 x332001 x332002 x332003)) else (cleatlaw06_AluLoads.j1 k x0 x5 x6 true x332000 x332001 x332002 x332003))) else (none)) else ((alu_All.f k x5 x332000 x332001 x332002 x332003).bind fun bt343 => ((cleatlaw06_done.f k).bind fun t345 => (if t345 = true then (if (x5.length : Int) ≥ 1 then (if (x5.length : Int) ≤ 4 then (if bt343.2 = 0 then (some (bt343.1 == x0)) else (none)) else (none)) else (none)) else (none))))
def cleatlaw06_AluLoads.j1 : Nat → Int → List (S25) → Int → Bool → Int → Int → Int → Int → Option (Bool)
 | 0, _, _, _, _, _, _, _, _ => none
 | k + 1, x0, x5, x6, x75, x332000, x332001, x332002, x332003 => if x75 = true then (none) else (cleatlaw06_AluLoads.l0 k x0 x5 (wrap64 (x6 + 1)) x332000 x332001 x332002 x332003)
end
def cleatlaw06_AluLoads.f (k : Nat) (a0 : Int) (a1_0 : Int) (a1_1 : Int) (a1_2 : Int) (a1_3 : Int) : Option (Bool) := (alu_Load.f k a0).bind fun t332 => (cleatlaw06_AluLoads.l0 k a0 t332 0 a1_0 a1_1 a1_2 a1_3)
theorem cleatlaw06_AluLoads.mono_l : ∀ k, (∀ y0 y1 y2 y3 y4 y5 y6, LeO (cleatlaw06_AluLoads.l0 k y0 y1 y2 y3 y4 y5 y6) (cleatlaw06_AluLoads.l0 (k + 1) y0 y1 y2 y3 y4 y5 y6)) ∧ (∀ y0 y1 y2 y3 y4 y5 y6 y7, LeO (cleatlaw06_AluLoads.j1 k y0 y1 y2 y3 y4 y5 y6 y7) (cleatlaw06_AluLoads.j1 (k + 1) y0 y1 y2 y3 y4 y5 y6 y7))
 | 0 => ⟨fun _ _ _ _ _ _ _ r h => by simp [cleatlaw06_AluLoads.l0] at h, fun _ _ _ _ _ _ _ _ r h => by simp [cleatlaw06_AluLoads.j1] at h⟩
 | k + 1 => by
  obtain ⟨ih0, ih1⟩ := cleatlaw06_AluLoads.mono_l k
  refine ⟨?_, ?_⟩
  ·
   intro y0 y1 y2 y3 y4 y5 y6
   unfold cleatlaw06_AluLoads.l0
   repeat' first
   | (with_reducible exact ih0 _ _ _ _ _ _ _)
   | (with_reducible exact ih1 _ _ _ _ _ _ _ _)
   | (with_reducible exact alu_All.mono _ _ _ _ _ _)
   | (with_reducible exact alu_Load.mono _ _)
   | (with_reducible exact cleatlaw06_done.mono _)
   | (with_reducible exact inst_Is.mono _ _ _ _ _ _ _ _ _ _ _)
   | (with_reducible exact LeO.refl _)
   | (with_reducible exact LeO.none _)
   | (with_reducible refine LeO.ite ?_ ?_)
   | (with_reducible refine LeO.bind ?_ (fun _ => ?_))
   | exact ih0 _ _ _ _ _ _ _
   | exact ih1 _ _ _ _ _ _ _ _
   | exact alu_All.mono _ _ _ _ _ _
   | exact alu_Load.mono _ _
   | exact cleatlaw06_done.mono _
   | exact inst_Is.mono _ _ _ _ _ _ _ _ _ _ _
   | exact LeO.none _
   | refine LeO.ite ?_ ?_
   | refine LeO.bind ?_ (fun _ => ?_)
  ·
   intro y0 y1 y2 y3 y4 y5 y6 y7
   unfold cleatlaw06_AluLoads.j1
   repeat' first
   | (with_reducible exact ih0 _ _ _ _ _ _ _)
   | (with_reducible exact ih1 _ _ _ _ _ _ _ _)
   | (with_reducible exact alu_All.mono _ _ _ _ _ _)
   | (with_reducible exact alu_Load.mono _ _)
   | (with_reducible exact cleatlaw06_done.mono _)
   | (with_reducible exact inst_Is.mono _ _ _ _ _ _ _ _ _ _ _)
   | (with_reducible exact LeO.refl _)
   | (with_reducible exact LeO.none _)
   | (with_reducible refine LeO.ite ?_ ?_)
   | (with_reducible refine LeO.bind ?_ (fun _ => ?_))
   | exact ih0 _ _ _ _ _ _ _
   | exact ih1 _ _ _ _ _ _ _ _
   | exact alu_All.mono _ _ _ _ _ _
   | exact alu_Load.mono _ _
   | exact cleatlaw06_done.mono _
   | exact inst_Is.mono _ _ _ _ _ _ _ _ _ _ _
   | exact LeO.none _
   | refine LeO.ite ?_ ?_
   | refine LeO.bind ?_ (fun _ => ?_)
theorem cleatlaw06_AluLoads.mono : ∀ a0 a1 a2 a3 a4 k, LeO (cleatlaw06_AluLoads.f k a0 a1 a2 a3 a4) (cleatlaw06_AluLoads.f (k + 1) a0 a1 a2 a3 a4) := by
 intro a0 a1 a2 a3 a4 k
 obtain ⟨ih0, ih1⟩ := cleatlaw06_AluLoads.mono_l k
 unfold cleatlaw06_AluLoads.f
 repeat' first
   | (with_reducible exact ih0 _ _ _ _ _ _ _)
   | (with_reducible exact ih1 _ _ _ _ _ _ _ _)
   | (with_reducible exact alu_All.mono _ _ _ _ _ _)
   | (with_reducible exact alu_Load.mono _ _)
   | (with_reducible exact cleatlaw06_done.mono _)
   | (with_reducible exact inst_Is.mono _ _ _ _ _ _ _ _ _ _ _)
   | (with_reducible exact LeO.refl _)
   | (with_reducible exact LeO.none _)
   | (with_reducible refine LeO.ite ?_ ?_)
   | (with_reducible refine LeO.bind ?_ (fun _ => ?_))
   | exact ih0 _ _ _ _ _ _ _
   | exact ih1 _ _ _ _ _ _ _ _
   | exact alu_All.mono _ _ _ _ _ _
   | exact alu_Load.mono _ _
   | exact cleatlaw06_done.mono _
   | exact inst_Is.mono _ _ _ _ _ _ _ _ _ _ _
   | exact LeO.none _
   | refine LeO.ite ?_ ?_
   | refine LeO.bind ?_ (fun _ => ?_)
def cleatlaw06_AluLoads.T5 : Bool × List (List Nat × List Nat) := (true, [([], []), ([], []), ([0, 1], [0, 1]), ([2], [2]), ([3], [3]), ([4], [4]), ([5, 4], [5]), ([6], [6]), ([6], [6]), ([7, 8, 6], [6, 7, 8]), ([9, 6], [6, 9]), ([10, 6], [6, 10]), ([11, 6], [6, 11]), ([6, 12], [6, 12]), ([13, 6], [13]), ([14], [14]), ([14], [14]), ([15, 16, 14], [14, 15, 16]), ([17, 14], [14, 17]), ([18, 14], [14, 18]), ([19, 14], [14, 19]), ([14], [14]), ([21, 14], [14, 21]), ([20, 22, 14], [14, 20, 22]), ([14, 23], [14, 23]), ([24, 14], [24]), ([25], [25]), ([26, 25], [25, 26]), ([27, 25, 25], [25, 27]), ([28], [28]), ([28], [28]), ([29, 30, 28], [28, 29, 30]), ([31, 28], [28, 31]), ([32, 28], [28, 32]), ([33, 28], [28, 33]), ([34, 28, 28], [28, 34]), ([35], [35]), ([35], [35]), ([36, 37, 35], [35, 36, 37]), ([38, 35], [35, 38]), ([39, 35], [35, 39]), ([40, 35], [35, 40]), ([35, 41, 28], [28, 35, 41]), ([42, 35, 28], [28, 42]), ([43], [43]), ([43], [43]), ([44, 45, 43], [43, 44, 45]), ([46, 43], [43, 46]), ([47, 43], [43, 47]), ([43], [43]), ([43], [43]), ([50, 43], [43, 50]), ([49, 51, 43], [43, 49, 51]), ([52, 43], [43, 52]), ([53, 43], [43, 53]), ([48, 54, 43], [43, 48, 54]), ([43, 55, 28], [28, 43, 55]), ([28, 56, 25], [25, 28, 56]), ([25, 57], [25, 57])])
def cleatlaw06_AluLoads.B5 : List Nat := [0, 0, 3, 7, 15, 31, 63, 127, 127, 511, 1023, 2047, 4095, 8191, 16383, 32767, 32767, 131071, 262143, 524287, 1048575, 32767, 2129919, 8388607, 16777215, 33554431, 67108863, 134217727, 268435455, 536870911, 536870911, 2147483647, 4294967295, 8589934591, 17179869183, 34359738367, 68719476735, 68719476735, 274877906943, 549755813887, 1099511627775, 2199023255551, 4398046511103, 8796093022207, 17592186044415, 17592186044415, 70368744177663, 140737488355327, 281474976710655, 17592186044415, 17592186044415, 1143492092887039, 3958241859993599, 8461841487364095, 17469040742105087, 36028797018963967, 72057594037927935, 144115188075855871, 288230376151711743]
theorem cleatlaw06_AluLoads.tab5 : rtab .any (opsOf Tryd.f6 5) = cleatlaw06_AluLoads.T5 := by kernel_rfl
theorem cleatlaw06_AluLoads.bits5 : waitsOk cleatlaw06_AluLoads.T5.2 cleatlaw06_AluLoads.B5 = true := by kernel_rfl
set_option maxHeartbeats 8000000 in
set_option maxRecDepth 100000 in
theorem cleatlaw06_AluLoads.calls (k : Nat) (a0 : Int) (a1_0 : Int) (a1_1 : Int) (a1_2 : Int) (a1_3 : Int) (r : Bool) (w : World) (h : cleatlaw06_AluLoads.f k a0 a1_0 a1_1 a1_2 a1_3 = some r) (hTab : TabW w := by first | exact hTab | exact TabW.drew hTab | exact TabW.drewN hTab _ | exact TabW.below hTab (by repeat (first | (with_reducible first | exact HB.out | apply below_alloc | apply pw_below_drewN | apply below_drew1) | refine Below.setCell ?_ (Aside0.out (by assumption)) _ | exact HB.out | exact Below.refl _ _))) :
    Calls Tryd.prog 6 #[.int .u64 a0, .agg #[.int .u64 a1_0, .int .u64 a1_1, .int .u64 a1_2, .int .u64 a1_3]] w fun e w' => e = .returned (.bool r) ∧ Below w.heap.size w w' := by
 have hu29 := Tryd.underlying29
 have hu25 := Tryd.underlying25
 have HB := Aside0.mk (Below.refl w.heap.size w)
 have H : ((alu_Load.f k a0).bind fun t332 => (cleatlaw06_AluLoads.l0 k a0 t332 0 a1_0 a1_1 a1_2 a1_3)) = some r := h
 clear h
 replace H := Option.bind_eq_some_iff.mp H
 obtain ⟨t332, A30, H⟩ := H
 replace H : (cleatlaw06_AluLoads.l0 k a0 t332 0 a1_0 a1_1 a1_2 a1_3) = some r := H
 have A3 := Aside0.mk A30
 clear A30
 have H' := Aside0.mk H
 clear H
 go_enter Tryd.func6, Tryd.ntmps6
 go_wp2_with (first | ((with_reducible refine gate_dst (N := 3) rfl ?_); (try (refine gate_guard (by rfl) ?_; dsimp only)); refine box_event ?hg (N := 3) ?hd (cs := #[.int .u64 a1_0, .int .u64 a1_1, .int .u64 a1_2, .int .u64 a1_3]) (t := 29) ?hr ?_; (case hd => rfl); (case hg => rfl); (case hr => first | (go_simp; done) | (go_simp; rfl)); intro gb331 hg w4 hbox hb; have n0_ := Aside0.mk (below_step (by repeat (first | (with_reducible first | exact HB.out | apply below_alloc | apply pw_below_drewN | apply below_drew1) | exact HB.out)) hb); have n1_ := Aside0.mk (hbox); have n2_ := Aside0.mk ((by rw [hg]; exact (below_size (by repeat (first | (with_reducible first | exact HB.out | apply below_alloc | apply pw_below_drewN | apply below_drew1) | exact HB.out))) : w.heap.size ≤ gb331)); have n3_ := Aside0.mk ((by rw [hg]; exact (below_size (by repeat (first | (with_reducible first | exact HB.out | apply below_alloc | apply pw_below_drewN | apply below_drew1) | exact HB.out))) : w.heap.size ≤ gb331)); clear HB; have HB := n0_; have BK331 := n1_; have GW331 := n2_; have GE331 := n3_; clear n0_ n1_ n2_ n3_; clear hb hbox hg) | ((with_reducible refine gate_callee (f := 15) rfl ?_); refine goesL_ (some 10) rfl rfl Tryd.func15 (by kernel_rfl) rfl #[.int .u64 a0] rfl (by (try simp only [List.map_toArray, List.map_cons, List.map_nil]); first | done | rfl | (simp only [List.length_drop, List.length_take]; rfl)) ?_; (with_reducible refine (alu_Load.calls k a0 t332 _ A3.out).mono ?_); rintro e w5 ⟨v333, rfl, ho0, hb⟩; refine ⟨_, rfl, ?_⟩; have n0_ := Aside0.mk (Kd.R_lower ho0 (below_size (by repeat (first | (with_reducible first | exact HB.out | apply below_alloc | apply pw_below_drewN | apply below_drew1 | refine below_set ?_ GE331.out) | exact HB.out)))); have n1_ := Aside0.mk (blk_below (g := gb331) (o := .cells #[.int .u64 a1_0, .int .u64 a1_1, .int .u64 a1_2, .int .u64 a1_3] 29 (0, 0)) (by (with_reducible repeat (first | refine blk_drewN ?_ _ | refine blk_drew ?_ | refine blk_alloc ?_ _)); exact BK331.out) hb); have n2_ := Aside0.mk (below_step (by repeat (first | (with_reducible first | exact HB.out | apply below_alloc | apply pw_below_drewN | apply below_drew1 | refine below_set ?_ GE331.out) | exact HB.out)) hb); clear BK331; clear HB; have HO334 := n0_; have BK331 := n1_; have HB := n2_; clear n0_ n1_ n2_; (try clear hb); (try clear hb2); (try clear hk); (try clear hi); (try clear ho0)))
 go_loopg [6] k (fun kq v6 w' => ∃ (x6_1 : Int), v6 = .int .i64 x6_1 ∧ Aside0 (cleatlaw06_AluLoads.l0 kq a0 t332 x6_1 a1_0 a1_1 a1_2 a1_3 = some r) ∧ Aside0 (kq ≤ k) ∧ Aside0 (Kd.R k25 25 w' w.heap.size (fun _ => True) v333 t332) ∧ Aside0 (w'.heap[gb331]? = some (.cells #[.int .u64 a1_0, .int .u64 a1_1, .int .u64 a1_2, .int .u64 a1_3] 29 (0, 0))) ∧ Aside0 (Below w.heap.size w w'))
 case atStart => exact ⟨(0), (by first | rfl | (simp; done) | (simp [*]; done)), H', ⟨Nat.le_refl _⟩, ⟨by (with_reducible repeat (first | apply Kd.R_alloc | apply Kd.R_drewN | apply Kd.R_drew)); exact HO334.out⟩, ⟨by (with_reducible repeat (first | refine blk_drewN ?_ _ | refine blk_drew ?_ | refine blk_alloc ?_ _)); exact BK331.out⟩, ⟨by repeat (first | (with_reducible first | exact HB.out | apply below_alloc | apply pw_below_drewN | apply below_drew1 | refine below_set ?_ GE331.out) | exact HB.out)⟩⟩
 case round =>
  clear H'
  try clear c1
  try clear p2
  obtain ⟨x6_1, rfl, HA, HK1, HO_5, BK331, HB⟩ := hrel
  cases gk with
  | zero => exact absurd HA.out (by simp [cleatlaw06_AluLoads.l0])
  | succ k1 =>
   have H := HA.out
   clear HA
   simp only [cleatlaw06_AluLoads.l0] at H
   by_cases c6 : x6_1 < (t332.length : Int)
   ·
    rw [if_pos c6] at H
    have c6b0 : decide (x6_1 < (t332.length : Int)) = true := decide_eq_true c6
    clear c6
    have HC7 := Aside0.mk H
    clear H
    obtain ⟨Ao8, co8, eo8⟩ := Kd.R_slice HO_5.out
    subst eo8
    go_upto_region 5 with (fail)
    go_cut [75] (fun v75 wc => ∃ (kq : Nat) (x75_6 : Bool), v75 = .bool x75_6 ∧ Aside0 (cleatlaw06_AluLoads.j1 kq a0 t332 x6_1 x75_6 a1_0 a1_1 a1_2 a1_3 = some r) ∧ Aside0 (kq ≤ k1) ∧ Aside0 (Kd.R k25 25 wc w.heap.size (fun _ => True) (.slice Ao8 t332.length co8) t332) ∧ Aside0 (wc.heap[gb331]? = some (.cells #[.int .u64 a1_0, .int .u64 a1_1, .int .u64 a1_2, .int .u64 a1_3] 29 (0, 0))) ∧ Aside0 (Below w.heap.size w wc))
    case first =>
     have H := HC7.out
     clear HC7
     by_cases c9 : 0 ≤ x6_1
     ·
      rw [if_pos c9] at H
      have c9b0 : decide (0 ≤ x6_1) = true := decide_eq_true c9
      clear c9
      (first | rw [c9b0] | (simp only [i64_w, i32_w]; rw [c9b0]) | skip)
      replace H := Option.bind_eq_some_iff.mp H
      obtain ⟨t336, A100, H⟩ := H
      replace H : (if t336 = true then (if ((rd_T25 t332 x6_1).f1) = 0 then (if ((((rd_T25 t332 x6_1).f0) == 1) != (x6_1 == 0)) = true then (cleatlaw06_AluLoads.j1 k1 a0 t332 x6_1 true a1_0 a1_1 a1_2 a1_3) else (if x6_1 > 0 then (if ((rd_T25 t332 x6_1).f0) = 3 then (if ((rd_T25 t332 x6_1).f5) = 0 then (cleatlaw06_AluLoads.j1 k1 a0 t332 x6_1 true a1_0 a1_1 a1_2 a1_3) else (if 0 ≤ (wrap64 (x6_1 - 1)) then (if (wrap64 (x6_1 - 1)) < (t332.length : Int) then (cleatlaw06_AluLoads.j1 k1 a0 t332 x6_1 (decide (((rd_T25 t332 x6_1).f8) ≤ ((rd_T25 t332 (wrap64 (x6_1 - 1))).f8))) a1_0 a1_1 a1_2 a1_3) else (none)) else (none))) else (cleatlaw06_AluLoads.j1 k1 a0 t332 x6_1 true a1_0 a1_1 a1_2 a1_3)) else (cleatlaw06_AluLoads.j1 k1 a0 t332 x6_1 false a1_0 a1_1 a1_2 a1_3))) else (cleatlaw06_AluLoads.j1 k1 a0 t332 x6_1 true a1_0 a1_1 a1_2 a1_3)) else (cleatlaw06_AluLoads.j1 k1 a0 t332 x6_1 true a1_0 a1_1 a1_2 a1_3)) = some r := H
      have A10 := Aside0.mk A100
      clear A100
      by_cases c11 : t336 = true
      ·
       subst c11
       have H1 : (if ((rd_T25 t332 x6_1).f1) = 0 then (if ((((rd_T25 t332 x6_1).f0) == 1) != (x6_1 == 0)) = true then (cleatlaw06_AluLoads.j1 k1 a0 t332 x6_1 true a1_0 a1_1 a1_2 a1_3) else (if x6_1 > 0 then (if ((rd_T25 t332 x6_1).f0) = 3 then (if ((rd_T25 t332 x6_1).f5) = 0 then (cleatlaw06_AluLoads.j1 k1 a0 t332 x6_1 true a1_0 a1_1 a1_2 a1_3) else (if 0 ≤ (wrap64 (x6_1 - 1)) then (if (wrap64 (x6_1 - 1)) < (t332.length : Int) then (cleatlaw06_AluLoads.j1 k1 a0 t332 x6_1 (decide (((rd_T25 t332 x6_1).f8) ≤ ((rd_T25 t332 (wrap64 (x6_1 - 1))).f8))) a1_0 a1_1 a1_2 a1_3) else (none)) else (none))) else (cleatlaw06_AluLoads.j1 k1 a0 t332 x6_1 true a1_0 a1_1 a1_2 a1_3)) else (cleatlaw06_AluLoads.j1 k1 a0 t332 x6_1 false a1_0 a1_1 a1_2 a1_3))) else (cleatlaw06_AluLoads.j1 k1 a0 t332 x6_1 true a1_0 a1_1 a1_2 a1_3)) = some r := by rw [if_pos rfl] at H; exact H
       clear H
       have H := H1
       clear H1
       by_cases c12 : ((rd_T25 t332 x6_1).f1) = 0
       ·
        rw [if_pos c12] at H
        have c12b0 : (((rd_T25 t332 x6_1).f1) == 0) = true := beq_iff_eq.mpr c12
        have c12b1 : (((rd_T25 t332 x6_1).f1) != 0) = false := bne_eq_false_iff_eq.mpr c12
        clear c12
        by_cases c13 : ((((rd_T25 t332 x6_1).f0) == 1) != (x6_1 == 0)) = true
        ·
         rw [if_pos c13] at H
         have c13b0 : ((((rd_T25 t332 x6_1).f0) == 1) != (x6_1 == 0)) = true := c13
         (try (have c13b1 : decide ((((rd_T25 t332 x6_1).f0) == 1) = (x6_1 == 0)) = false := by simpa using c13))
         (try (have c13b2 : ((((rd_T25 t332 x6_1).f0) == 1) == (x6_1 == 0)) = false := by simpa using c13))
         (try (have c13b3 : ¬ ((((rd_T25 t332 x6_1).f0) == 1) = (x6_1 == 0)) := by simpa using c13))
         clear c13
         have H' := Aside0.mk H
         clear H
         try go_wp2
         have n0_ := Aside0.mk (Kd.R_drew HO_5.out)
         have n1_ := Aside0.mk (blk_drew BK331.out)
         have n2_ := Aside0.mk (below_drew1 HB.out)
         clear HO_5
         clear BK331
         clear HB
         have HO_5 := n0_
         have BK331 := n1_
         have HB := n2_
         clear n0_ n1_ n2_
         have p335 : 0 ≤ (x6_1 : Int) := of_decide_eq_true (by first | (with_reducible assumption) | assumption)
         have q335 : x6_1 < (t332.length : Int) := of_decide_eq_true (by first | (with_reducible assumption) | assumption)
         obtain ⟨ad335, e335, hx335_0, hx335_1, hx335_2, hx335_3, hx335_4, hx335_5, hx335_6, hx335_7, hx335_8, hx335_9⟩ := at_T25 (Kd.R_reads' HO_5.out).2.2 x6_1 p335 q335
         cases e335
         replace p335 := eq_true p335
         replace q335 := eq_true q335
         have p337 : 0 ≤ (x6_1 : Int) := of_decide_eq_true (by first | (with_reducible assumption) | assumption)
         have q337 : x6_1 < (t332.length : Int) := of_decide_eq_true (by first | (with_reducible assumption) | assumption)
         obtain ⟨ad337, e337, hx337_0, hx337_1, hx337_2, hx337_3, hx337_4, hx337_5, hx337_6, hx337_7, hx337_8, hx337_9⟩ := at_T25 (Kd.R_reads' HO_5.out).2.2 x6_1 p337 q337
         obtain rfl : ad335 = ad337 := (by injection e337)
         replace p337 := eq_true p337
         replace q337 := eq_true q337
         have p338 : 0 ≤ (x6_1 : Int) := of_decide_eq_true (by first | (with_reducible assumption) | assumption)
         have q338 : x6_1 < (t332.length : Int) := of_decide_eq_true (by first | (with_reducible assumption) | assumption)
         obtain ⟨ad338, e338, hx338_0, hx338_1, hx338_2, hx338_3, hx338_4, hx338_5, hx338_6, hx338_7, hx338_8, hx338_9⟩ := at_T25 (Kd.R_reads' HO_5.out).2.2 x6_1 p338 q338
         obtain rfl : ad335 = ad338 := (by injection e338)
         replace p338 := eq_true p338
         replace q338 := eq_true q338
         refine start_ (n := 59) (S := fun w' => w'.cell? (ad335.add ((x6_1).toNat * 10)) = some (.int .i64 ((rd_T25 t332 x6_1).f0)) ∧ w'.cell? ⟨(ad335.add ((x6_1).toNat * 10)).block, (ad335.add ((x6_1).toNat * 10)).off + 1, none⟩ = some (.int .i64 ((rd_T25 t332 x6_1).f1)) ∧ w'.cell? ⟨(ad335.add ((x6_1).toNat * 10)).block, (ad335.add ((x6_1).toNat * 10)).off + 2, none⟩ = some (.int .i64 ((rd_T25 t332 x6_1).f2)) ∧ w'.cell? ⟨(ad335.add ((x6_1).toNat * 10)).block, (ad335.add ((x6_1).toNat * 10)).off + 3, none⟩ = some (.int .i64 ((rd_T25 t332 x6_1).f3)) ∧ w'.cell? ⟨(ad335.add ((x6_1).toNat * 10)).block, (ad335.add ((x6_1).toNat * 10)).off + 4, none⟩ = some (.int .i64 ((rd_T25 t332 x6_1).f4)) ∧ w'.cell? ⟨(ad335.add ((x6_1).toNat * 10)).block, (ad335.add ((x6_1).toNat * 10)).off + 5, none⟩ = some (.int .i64 ((rd_T25 t332 x6_1).f5)) ∧ w'.cell? ⟨(ad335.add ((x6_1).toNat * 10)).block, (ad335.add ((x6_1).toNat * 10)).off + 6, none⟩ = some (.int .u64 ((rd_T25 t332 x6_1).f6)) ∧ w'.cell? ⟨(ad335.add ((x6_1).toNat * 10)).block, (ad335.add ((x6_1).toNat * 10)).off + 7, none⟩ = some (.int .i64 ((rd_T25 t332 x6_1).f7)) ∧ w'.cell? ⟨(ad335.add ((x6_1).toNat * 10)).block, (ad335.add ((x6_1).toNat * 10)).off + 8, none⟩ = some (.int .i64 ((rd_T25 t332 x6_1).f8)) ∧ w'.cell? ⟨(ad335.add ((x6_1).toNat * 10)).block, (ad335.add ((x6_1).toNat * 10)).off + 9, none⟩ = some (.int .i64 ((rd_T25 t332 x6_1).f9)) ∧ w'.cell? (ad335.add ((x6_1).toNat * 10)) = some (.int .i64 ((rd_T25 t332 x6_1).f0)) ∧ w'.cell? ⟨(ad335.add ((x6_1).toNat * 10)).block, (ad335.add ((x6_1).toNat * 10)).off + 1, none⟩ = some (.int .i64 ((rd_T25 t332 x6_1).f1)) ∧ w'.cell? ⟨(ad335.add ((x6_1).toNat * 10)).block, (ad335.add ((x6_1).toNat * 10)).off + 2, none⟩ = some (.int .i64 ((rd_T25 t332 x6_1).f2)) ∧ w'.cell? ⟨(ad335.add ((x6_1).toNat * 10)).block, (ad335.add ((x6_1).toNat * 10)).off + 3, none⟩ = some (.int .i64 ((rd_T25 t332 x6_1).f3)) ∧ w'.cell? ⟨(ad335.add ((x6_1).toNat * 10)).block, (ad335.add ((x6_1).toNat * 10)).off + 4, none⟩ = some (.int .i64 ((rd_T25 t332 x6_1).f4)) ∧ w'.cell? ⟨(ad335.add ((x6_1).toNat * 10)).block, (ad335.add ((x6_1).toNat * 10)).off + 5, none⟩ = some (.int .i64 ((rd_T25 t332 x6_1).f5)) ∧ w'.cell? ⟨(ad335.add ((x6_1).toNat * 10)).block, (ad335.add ((x6_1).toNat * 10)).off + 6, none⟩ = some (.int .u64 ((rd_T25 t332 x6_1).f6)) ∧ w'.cell? ⟨(ad335.add ((x6_1).toNat * 10)).block, (ad335.add ((x6_1).toNat * 10)).off + 7, none⟩ = some (.int .i64 ((rd_T25 t332 x6_1).f7)) ∧ w'.cell? ⟨(ad335.add ((x6_1).toNat * 10)).block, (ad335.add ((x6_1).toNat * 10)).off + 8, none⟩ = some (.int .i64 ((rd_T25 t332 x6_1).f8)) ∧ w'.cell? ⟨(ad335.add ((x6_1).toNat * 10)).block, (ad335.add ((x6_1).toNat * 10)).off + 9, none⟩ = some (.int .i64 ((rd_T25 t332 x6_1).f9)) ∧ w'.cell? (ad335.add ((x6_1).toNat * 10)) = some (.int .i64 ((rd_T25 t332 x6_1).f0)) ∧ w'.cell? ⟨(ad335.add ((x6_1).toNat * 10)).block, (ad335.add ((x6_1).toNat * 10)).off + 1, none⟩ = some (.int .i64 ((rd_T25 t332 x6_1).f1)) ∧ w'.cell? ⟨(ad335.add ((x6_1).toNat * 10)).block, (ad335.add ((x6_1).toNat * 10)).off + 2, none⟩ = some (.int .i64 ((rd_T25 t332 x6_1).f2)) ∧ w'.cell? ⟨(ad335.add ((x6_1).toNat * 10)).block, (ad335.add ((x6_1).toNat * 10)).off + 3, none⟩ = some (.int .i64 ((rd_T25 t332 x6_1).f3)) ∧ w'.cell? ⟨(ad335.add ((x6_1).toNat * 10)).block, (ad335.add ((x6_1).toNat * 10)).off + 4, none⟩ = some (.int .i64 ((rd_T25 t332 x6_1).f4)) ∧ w'.cell? ⟨(ad335.add ((x6_1).toNat * 10)).block, (ad335.add ((x6_1).toNat * 10)).off + 5, none⟩ = some (.int .i64 ((rd_T25 t332 x6_1).f5)) ∧ w'.cell? ⟨(ad335.add ((x6_1).toNat * 10)).block, (ad335.add ((x6_1).toNat * 10)).off + 6, none⟩ = some (.int .u64 ((rd_T25 t332 x6_1).f6)) ∧ w'.cell? ⟨(ad335.add ((x6_1).toNat * 10)).block, (ad335.add ((x6_1).toNat * 10)).off + 7, none⟩ = some (.int .i64 ((rd_T25 t332 x6_1).f7)) ∧ w'.cell? ⟨(ad335.add ((x6_1).toNat * 10)).block, (ad335.add ((x6_1).toNat * 10)).off + 8, none⟩ = some (.int .i64 ((rd_T25 t332 x6_1).f8)) ∧ w'.cell? ⟨(ad335.add ((x6_1).toNat * 10)).block, (ad335.add ((x6_1).toNat * 10)).off + 9, none⟩ = some (.int .i64 ((rd_T25 t332 x6_1).f9))) (ds := []) bb2_0 (by kernel_rfl) rfl rfl ⟨hx335_0, hx335_1, hx335_2, hx335_3, hx335_4, hx335_5, hx335_6, hx335_7, hx335_8, hx335_9, hx337_0, hx337_1, hx337_2, hx337_3, hx337_4, hx337_5, hx337_6, hx337_7, hx337_8, hx337_9, hx338_0, hx338_1, hx338_2, hx338_3, hx338_4, hx338_5, hx338_6, hx338_7, hx338_8, hx338_9⟩ (fun hHeld => ?_); refine with_tabW cleatlaw06_AluLoads.tab5 cleatlaw06_AluLoads.bits5 (fun HT_ HW_ => ?_)
         generalize wr.drew = w14 at HO_5 BK331 HB hx335_0 hx335_1 hx335_2 hx335_3 hx335_4 hx335_5 hx335_6 hx335_7 hx335_8 hx335_9 hx337_0 hx337_1 hx337_2 hx337_3 hx337_4 hx337_5 hx337_6 hx337_7 hx337_8 hx337_9 hx338_0 hx338_1 hx338_2 hx338_3 hx338_4 hx338_5 hx338_6 hx338_7 hx338_8 hx338_9 hHeld ⊢
         refine pure_ (i := 0) (N := some 17) (v := ?_) (a' := ?_) bb2_1 rfl rfl (any_of HT_.out (by kernel_rfl)) (fun _ _ _ h => h) (Or.inl ⟨by rfl, ?_⟩) ?_ ?_
         rotate_left
         · intro w'; go_simp; with_reducible rfl
         rotate_left
         · simp only [qa_, qb_, qc_, qd_, i64_w, i32_w]; rfl
         refine pure_ (i := 1) (N := some 18) (v := ?_) (a' := ?_) bb2_2 rfl rfl (any_of HT_.out (by kernel_rfl)) (fun _ _ _ h => h) (Or.inl ⟨by rfl, ?_⟩) ?_ ?_
         rotate_left
         · intro w'; go_simp; with_reducible rfl
         rotate_left
         · simp only [qa_, qb_, qc_, qd_, i64_w, i32_w]; rfl
         refine pure_ (i := 2) (N := some 19) (v := ?_) (a' := ?_) bb2_3 rfl rfl (any_of HT_.out (by kernel_rfl)) (fun _ _ _ h => h) (Or.inl ⟨by rfl, ?_⟩) ?_ ?_
         rotate_left
         · intro w'; go_simp; with_reducible rfl
         rotate_left
         · simp only [qa_, qb_, qc_, qd_, i64_w, i32_w]; rfl
         refine take_ (i := 3) (N := some 20) (v := ?_) (a' := ?_) bb2_4 rfl rfl (take_ofW HT_.out HW_.out (by kernel_rfl)) (fun _ _ _ h => h) (Or.inl ⟨by rfl, ?_⟩) hHeld ?_ ?_
         rotate_left
         · rintro w' ⟨s0, s1, s2, s3, s4, s5, s6, s7, s8, s9, s10, s11, s12, s13, s14, s15, s16, s17, s18, s19, s20, s21, s22, s23, s24, s25, s26, s27, s28, s29⟩; go_simp; with_reducible rfl
         rotate_left
         · simp only [qa_, qb_, qc_, qd_, i64_w, i32_w]; rfl
         refine one_ (i := 4) (N := some 21) bb2_5 rfl rfl (one_of HT_.out (by kernel_rfl)) (by decide) (fun K hK => ?_)
         refine goes_ Tryd.func16 (by kernel_rfl) rfl #[.agg #[.int .i64 ((rd_T25 t332 x6_1).f0), .int .i64 ((rd_T25 t332 x6_1).f1), .int .i64 ((rd_T25 t332 x6_1).f2), .int .i64 ((rd_T25 t332 x6_1).f3), .int .i64 ((rd_T25 t332 x6_1).f4), .int .i64 ((rd_T25 t332 x6_1).f5), .int .u64 ((rd_T25 t332 x6_1).f6), .int .i64 ((rd_T25 t332 x6_1).f7), .int .i64 ((rd_T25 t332 x6_1).f8), .int .i64 ((rd_T25 t332 x6_1).f9)]] (by rfl) rfl rfl (by (try simp only [List.map_toArray, List.map_cons, List.map_nil]); first | done | rfl | (simp only [List.length_drop, List.length_take]; rfl)) ?_
         with_reducible refine (inst_Is.calls k1 ((rd_T25 t332 x6_1).f0) ((rd_T25 t332 x6_1).f1) ((rd_T25 t332 x6_1).f2) ((rd_T25 t332 x6_1).f3) ((rd_T25 t332 x6_1).f4) ((rd_T25 t332 x6_1).f5) ((rd_T25 t332 x6_1).f6) ((rd_T25 t332 x6_1).f7) ((rd_T25 t332 x6_1).f8) ((rd_T25 t332 x6_1).f9) true _ A10.out).mono ?_
         rintro e w15 ⟨rfl, hb⟩
         have HS0_ := pw_cell_below hb hHeld.1
         have HS1_ := pw_cell_below hb hHeld.2.1
         have HS2_ := pw_cell_below hb hHeld.2.2.1
         have HS3_ := pw_cell_below hb hHeld.2.2.2.1
         have HS4_ := pw_cell_below hb hHeld.2.2.2.2.1
         have HS5_ := pw_cell_below hb hHeld.2.2.2.2.2.1
         have HS6_ := pw_cell_below hb hHeld.2.2.2.2.2.2.1
         have HS7_ := pw_cell_below hb hHeld.2.2.2.2.2.2.2.1
         have HS8_ := pw_cell_below hb hHeld.2.2.2.2.2.2.2.2.1
         have HS9_ := pw_cell_below hb hHeld.2.2.2.2.2.2.2.2.2.1
         have HS10_ := pw_cell_below hb hHeld.2.2.2.2.2.2.2.2.2.2.1
         have HS11_ := pw_cell_below hb hHeld.2.2.2.2.2.2.2.2.2.2.2.1
         have HS12_ := pw_cell_below hb hHeld.2.2.2.2.2.2.2.2.2.2.2.2.1
         have HS13_ := pw_cell_below hb hHeld.2.2.2.2.2.2.2.2.2.2.2.2.2.1
         have HS14_ := pw_cell_below hb hHeld.2.2.2.2.2.2.2.2.2.2.2.2.2.2.1
         have HS15_ := pw_cell_below hb hHeld.2.2.2.2.2.2.2.2.2.2.2.2.2.2.2.1
         have HS16_ := pw_cell_below hb hHeld.2.2.2.2.2.2.2.2.2.2.2.2.2.2.2.2.1
         have HS17_ := pw_cell_below hb hHeld.2.2.2.2.2.2.2.2.2.2.2.2.2.2.2.2.2.1
         have HS18_ := pw_cell_below hb hHeld.2.2.2.2.2.2.2.2.2.2.2.2.2.2.2.2.2.2.1
         have HS19_ := pw_cell_below hb hHeld.2.2.2.2.2.2.2.2.2.2.2.2.2.2.2.2.2.2.2.1
         have HS20_ := pw_cell_below hb hHeld.2.2.2.2.2.2.2.2.2.2.2.2.2.2.2.2.2.2.2.2.1
         have HS21_ := pw_cell_below hb hHeld.2.2.2.2.2.2.2.2.2.2.2.2.2.2.2.2.2.2.2.2.2.1
         have HS22_ := pw_cell_below hb hHeld.2.2.2.2.2.2.2.2.2.2.2.2.2.2.2.2.2.2.2.2.2.2.1
         have HS23_ := pw_cell_below hb hHeld.2.2.2.2.2.2.2.2.2.2.2.2.2.2.2.2.2.2.2.2.2.2.2.1
         have HS24_ := pw_cell_below hb hHeld.2.2.2.2.2.2.2.2.2.2.2.2.2.2.2.2.2.2.2.2.2.2.2.2.1
         have HS25_ := pw_cell_below hb hHeld.2.2.2.2.2.2.2.2.2.2.2.2.2.2.2.2.2.2.2.2.2.2.2.2.2.1
         have HS26_ := pw_cell_below hb hHeld.2.2.2.2.2.2.2.2.2.2.2.2.2.2.2.2.2.2.2.2.2.2.2.2.2.2.1
         have HS27_ := pw_cell_below hb hHeld.2.2.2.2.2.2.2.2.2.2.2.2.2.2.2.2.2.2.2.2.2.2.2.2.2.2.2.1
         have HS28_ := pw_cell_below hb hHeld.2.2.2.2.2.2.2.2.2.2.2.2.2.2.2.2.2.2.2.2.2.2.2.2.2.2.2.2.1
         have HS29_ := pw_cell_below hb hHeld.2.2.2.2.2.2.2.2.2.2.2.2.2.2.2.2.2.2.2.2.2.2.2.2.2.2.2.2.2
         refine ⟨_, rfl, ?_⟩
         have n0_ := Aside0.mk (Kd.R_below (by (with_reducible repeat (first | apply Kd.R_alloc | apply Kd.R_drewN | apply Kd.R_drew)); exact HO_5.out) hb)
         have n1_ := Aside0.mk (blk_below (g := gb331) (o := .cells #[.int .u64 a1_0, .int .u64 a1_1, .int .u64 a1_2, .int .u64 a1_3] 29 (0, 0)) (by (with_reducible repeat (first | refine blk_drewN ?_ _ | refine blk_drew ?_ | refine blk_alloc ?_ _)); exact BK331.out) hb)
         have n2_ := Aside0.mk (below_step (by repeat (first | (with_reducible first | exact HB.out | apply below_alloc | apply pw_below_drewN | apply below_drew1 | refine below_set ?_ GE331.out) | exact HB.out)) hb)
         clear HO_5
         clear BK331
         clear HB
         have HO_5 := n0_
         have BK331 := n1_
         have HB := n2_
         clear n0_ n1_ n2_
         (try clear hb)
         (try clear hb2)
         (try clear hk)
         (try clear hi)
         refine hK.out _ _ ⟨HS0_, HS1_, HS2_, HS3_, HS4_, HS5_, HS6_, HS7_, HS8_, HS9_, HS10_, HS11_, HS12_, HS13_, HS14_, HS15_, HS16_, HS17_, HS18_, HS19_, HS20_, HS21_, HS22_, HS23_, HS24_, HS25_, HS26_, HS27_, HS28_, HS29_⟩ (fun hHeld => ?_)
         clear hK K
         refine norm_ (a' := ?_) ?_ ?_
         rotate_left
         ·
          show Act.put _ (some 21) _ = _
          simp only [qa_, qb_, qc_, qd_, i64_w, i32_w]
          rfl
         refine pure_ (i := 5) (N := some 22) (v := ?_) (a' := ?_) bb2_6 rfl rfl (any_of HT_.out (by kernel_rfl)) (fun _ _ _ h => h) (Or.inl ⟨by rfl, ?_⟩) ?_ ?_
         rotate_left
         · intro w'; go_simp; with_reducible rfl
         rotate_left
         · simp only [qa_, qb_, qc_, qd_, i64_w, i32_w]; rfl
         refine pure_ (i := 6) (N := some 23) (v := ?_) (a' := ?_) bb2_7 rfl rfl (any_of HT_.out (by kernel_rfl)) (fun _ _ _ h => h) (Or.inl ⟨by rfl, ?_⟩) ?_ ?_
         rotate_left
         · intro w'; go_simp; with_reducible rfl
         rotate_left
         · simp only [qa_, qb_, qc_, qd_, i64_w, i32_w]; rfl
         refine pure_ (i := 7) (N := some 24) (v := ?_) (a' := ?_) bb2_8 rfl rfl (any_of HT_.out (by kernel_rfl)) (fun _ _ _ h => h) (Or.inl ⟨by rfl, ?_⟩) ?_ ?_
         rotate_left
         · intro w'; go_simp; with_reducible rfl
         rotate_left
         · simp only [qa_, qb_, qc_, qd_, i64_w, i32_w]; rfl
         refine pure_ (i := 8) (N := some 25) (v := ?_) (a' := ?_) bb2_9 rfl rfl (any_of HT_.out (by kernel_rfl)) (fun _ _ _ h => h) (Or.inl ⟨by rfl, ?_⟩) ?_ ?_
         rotate_left
         · intro w'; go_simp; with_reducible rfl
         rotate_left
         · simp only [qa_, qb_, qc_, qd_, i64_w, i32_w]; rfl
         refine pure_ (i := 9) (N := some 26) (v := ?_) (a' := ?_) bb2_10 rfl rfl (any_of HT_.out (by kernel_rfl)) (fun _ _ _ h => h) (Or.inl ⟨by rfl, ?_⟩) ?_ ?_
         rotate_left
         · intro w'; go_simp; with_reducible rfl
         rotate_left
         · simp only [qa_, qb_, qc_, qd_, i64_w, i32_w]; rfl
         refine pure_ (i := 10) (N := some 27) (v := ?_) (a' := ?_) bb2_11 rfl rfl (any_of HT_.out (by kernel_rfl)) (fun _ _ _ h => h) (Or.inl ⟨by rfl, ?_⟩) ?_ ?_
         rotate_left
         · intro w'; go_simp; with_reducible rfl
         rotate_left
         · simp only [qa_, qb_, qc_, qd_, i64_w, i32_w]; rfl
         refine take_ (i := 11) (N := some 28) (v := ?_) (a' := ?_) bb2_12 rfl rfl (take_ofW HT_.out HW_.out (by kernel_rfl)) (fun _ _ _ h => h) (Or.inl ⟨by rfl, ?_⟩) hHeld ?_ ?_
         rotate_left
         · rintro w' ⟨s0, s1, s2, s3, s4, s5, s6, s7, s8, s9, s10, s11, s12, s13, s14, s15, s16, s17, s18, s19, s20, s21, s22, s23, s24, s25, s26, s27, s28, s29⟩; go_simp; with_reducible rfl
         rotate_left
         · simp only [qa_, qb_, qc_, qd_, i64_w, i32_w]; rfl
         refine pure_ (i := 12) (N := some 29) (v := ?_) (a' := ?_) bb2_13 rfl rfl (any_of HT_.out (by kernel_rfl)) (fun _ _ _ h => h) (Or.inl ⟨by rfl, ?_⟩) ?_ ?_
         rotate_left
         · intro w'; go_simp; with_reducible rfl
         rotate_left
         · simp only [qa_, qb_, qc_, qd_, i64_w, i32_w]; rfl
         refine pure_ (i := 13) (N := some 30) (v := ?_) (a' := ?_) bb2_14 rfl rfl (any_of HT_.out (by kernel_rfl)) (fun _ _ _ h => h) (Or.inl ⟨by rfl, ?_⟩) ?_ ?_
         rotate_left
         · intro w'; go_simp; with_reducible rfl
         rotate_left
         · simp only [qa_, qb_, qc_, qd_, i64_w, i32_w]; rfl
         refine pure_ (i := 14) (N := some 31) (v := ?_) (a' := ?_) bb2_15 rfl rfl (any_of HT_.out (by kernel_rfl)) (fun _ _ _ h => h) (Or.inl ⟨by rfl, ?_⟩) ?_ ?_
         rotate_left
         · intro w'; go_simp; with_reducible rfl
         rotate_left
         · simp only [qa_, qb_, qc_, qd_, i64_w, i32_w]; rfl
         refine pure_ (i := 15) (N := some 32) (v := ?_) (a' := ?_) bb2_16 rfl rfl (any_of HT_.out (by kernel_rfl)) (fun _ _ _ h => h) (Or.inl ⟨by rfl, ?_⟩) ?_ ?_
         rotate_left
         · intro w'; go_simp; with_reducible rfl
         rotate_left
         · simp only [qa_, qb_, qc_, qd_, i64_w, i32_w]; rfl
         refine pure_ (i := 16) (N := some 33) (v := ?_) (a' := ?_) bb2_17 rfl rfl (any_of HT_.out (by kernel_rfl)) (fun _ _ _ h => h) (Or.inl ⟨by rfl, ?_⟩) ?_ ?_
         rotate_left
         · intro w'; go_simp; with_reducible rfl
         rotate_left
         · simp only [qa_, qb_, qc_, qd_, i64_w, i32_w]; rfl
         refine pure_ (i := 17) (N := some 34) (v := ?_) (a' := ?_) bb2_18 rfl rfl (any_of HT_.out (by kernel_rfl)) (fun _ _ _ h => h) (Or.inl ⟨by rfl, ?_⟩) ?_ ?_
         rotate_left
         · intro w'; go_simp; with_reducible rfl
         rotate_left
         · simp only [qa_, qb_, qc_, qd_, i64_w, i32_w]; rfl
         refine pure_ (i := 18) (N := some 35) (v := ?_) (a' := ?_) bb2_19 rfl rfl (any_of HT_.out (by kernel_rfl)) (fun _ _ _ h => h) (Or.inl ⟨by rfl, ?_⟩) ?_ ?_
         rotate_left
         · intro w'; go_simp; with_reducible rfl
         rotate_left
         · simp only [qa_, qb_, qc_, qd_, i64_w, i32_w]; rfl
         refine pure_ (i := 21) (N := some 38) (v := ?_) (a' := ?_) bb2_20 rfl rfl (any_of HT_.out (by kernel_rfl)) (fun _ _ _ h => h) (Or.inl ⟨by rfl, ?_⟩) ?_ ?_
         rotate_left
         · intro w'; go_simp; with_reducible rfl
         rotate_left
         · simp only [qa_, qb_, qc_, qd_, i64_w, i32_w]; rfl
         refine pure_ (i := 22) (N := some 39) (v := ?_) (a' := ?_) bb2_21 rfl rfl (any_of HT_.out (by kernel_rfl)) (fun _ _ _ h => h) (Or.inl ⟨by rfl, ?_⟩) ?_ ?_
         rotate_left
         · intro w'; go_simp; with_reducible rfl
         rotate_left
         · simp only [qa_, qb_, qc_, qd_, i64_w, i32_w]; rfl
         refine take_ (i := 19) (N := some 36) (v := ?_) (a' := ?_) bb2_22 rfl rfl (take_ofW HT_.out HW_.out (by kernel_rfl)) (fun _ _ _ h => h) (Or.inl ⟨by rfl, ?_⟩) hHeld ?_ ?_
         rotate_left
         · rintro w' ⟨s0, s1, s2, s3, s4, s5, s6, s7, s8, s9, s10, s11, s12, s13, s14, s15, s16, s17, s18, s19, s20, s21, s22, s23, s24, s25, s26, s27, s28, s29⟩; go_simp; with_reducible rfl
         rotate_left
         · simp only [qa_, qb_, qc_, qd_, i64_w, i32_w]; rfl
         refine pure_ (i := 20) (N := some 37) (v := ?_) (a' := ?_) bb2_23 rfl rfl (any_of HT_.out (by kernel_rfl)) (fun _ _ _ h => h) (Or.inl ⟨by rfl, ?_⟩) ?_ ?_
         rotate_left
         · intro w'; go_simp; with_reducible rfl
         rotate_left
         · simp only [qa_, qb_, qc_, qd_, i64_w, i32_w]; rfl
         refine pure_ (i := 23) (N := some 40) (v := ?_) (a' := ?_) bb2_24 rfl rfl (any_of HT_.out (by kernel_rfl)) (fun _ _ _ h => h) (Or.inl ⟨by rfl, ?_⟩) ?_ ?_
         rotate_left
         · intro w'; go_simp; with_reducible rfl
         rotate_left
         · simp only [qa_, qb_, qc_, qd_, i64_w, i32_w]; rfl
         refine pure_ (i := 24) (N := some 41) (v := ?_) (a' := ?_) bb2_25 rfl rfl (any_of HT_.out (by kernel_rfl)) (fun _ _ _ h => h) (Or.inl ⟨by rfl, ?_⟩) ?_ ?_
         rotate_left
         · intro w'; go_simp; with_reducible rfl
         rotate_left
         · simp only [qa_, qb_, qc_, qd_, i64_w, i32_w]; rfl
         refine pure_ (i := 25) (N := some 42) (v := ?_) (a' := ?_) bb2_26 rfl rfl (any_of HT_.out (by kernel_rfl)) (fun _ _ _ h => h) (Or.inl ⟨by rfl, ?_⟩) ?_ ?_
         rotate_left
         · intro w'; go_simp; with_reducible rfl
         rotate_left
         · simp only [qa_, qb_, qc_, qd_, i64_w, i32_w]; rfl
         refine pure_ (i := 26) (N := some 43) (v := undef) (a' := ?_) bb2_27 rfl rfl (any_of HT_.out (by kernel_rfl)) (fun _ _ _ h => h) (Or.inr ⟨by rfl, rfl⟩) ?_ ?_
         rotate_left
         · simp only [qa_, qb_, qc_, qd_, i64_w, i32_w]; rfl
         refine pure_ (i := 27) (N := some 44) (v := undef) (a' := ?_) bb2_28 rfl rfl (any_of HT_.out (by kernel_rfl)) (fun _ _ _ h => h) (Or.inr ⟨by rfl, rfl⟩) ?_ ?_
         rotate_left
         · simp only [qa_, qb_, qc_, qd_, i64_w, i32_w]; rfl
         refine pure_ (i := 28) (N := some 45) (v := undef) (a' := ?_) bb2_29 rfl rfl (any_of HT_.out (by kernel_rfl)) (fun _ _ _ h => h) (Or.inr ⟨by rfl, rfl⟩) ?_ ?_
         rotate_left
         · simp only [qa_, qb_, qc_, qd_, i64_w, i32_w]; rfl
         refine pure_ (i := 29) (N := some 46) (v := undef) (a' := ?_) bb2_30 rfl rfl (any_of HT_.out (by kernel_rfl)) (fun _ _ _ h => h) (Or.inr ⟨by rfl, rfl⟩) ?_ ?_
         rotate_left
         · simp only [qa_, qb_, qc_, qd_, i64_w, i32_w]; rfl
         refine pure_ (i := 30) (N := some 47) (v := undef) (a' := ?_) bb2_31 rfl rfl (any_of HT_.out (by kernel_rfl)) (fun _ _ _ h => h) (Or.inr ⟨by rfl, rfl⟩) ?_ ?_
         rotate_left
         · simp only [qa_, qb_, qc_, qd_, i64_w, i32_w]; rfl
         refine pure_ (i := 31) (N := some 48) (v := undef) (a' := ?_) bb2_32 rfl rfl (any_of HT_.out (by kernel_rfl)) (fun _ _ _ h => h) (Or.inr ⟨by rfl, rfl⟩) ?_ ?_
         rotate_left
         · simp only [qa_, qb_, qc_, qd_, i64_w, i32_w]; rfl
         refine pure_ (i := 32) (N := some 49) (v := undef) (a' := ?_) bb2_33 rfl rfl (any_of HT_.out (by kernel_rfl)) (fun _ _ _ h => h) (Or.inr ⟨by rfl, rfl⟩) ?_ ?_
         rotate_left
         · simp only [qa_, qb_, qc_, qd_, i64_w, i32_w]; rfl
         refine pure_ (i := 33) (N := some 50) (v := undef) (a' := ?_) bb2_34 rfl rfl (any_of HT_.out (by kernel_rfl)) (fun _ _ _ h => h) (Or.inr ⟨by rfl, rfl⟩) ?_ ?_
         rotate_left
         · simp only [qa_, qb_, qc_, qd_, i64_w, i32_w]; rfl
         refine pure_ (i := 34) (N := some 51) (v := undef) (a' := ?_) bb2_35 rfl rfl (any_of HT_.out (by kernel_rfl)) (fun _ _ _ h => h) (Or.inr ⟨by rfl, rfl⟩) ?_ ?_
         rotate_left
         · simp only [qa_, qb_, qc_, qd_, i64_w, i32_w]; rfl
         refine pure_ (i := 35) (N := some 52) (v := undef) (a' := ?_) bb2_36 rfl rfl (any_of HT_.out (by kernel_rfl)) (fun _ _ _ h => h) (Or.inr ⟨by rfl, rfl⟩) ?_ ?_
         rotate_left
         · simp only [qa_, qb_, qc_, qd_, i64_w, i32_w]; rfl
         refine pure_ (i := 36) (N := some 53) (v := undef) (a' := ?_) bb2_37 rfl rfl (any_of HT_.out (by kernel_rfl)) (fun _ _ _ h => h) (Or.inr ⟨by rfl, rfl⟩) ?_ ?_
         rotate_left
         · simp only [qa_, qb_, qc_, qd_, i64_w, i32_w]; rfl
         refine pure_ (i := 37) (N := some 54) (v := undef) (a' := ?_) bb2_38 rfl rfl (any_of HT_.out (by kernel_rfl)) (fun _ _ _ h => h) (Or.inr ⟨by rfl, rfl⟩) ?_ ?_
         rotate_left
         · simp only [qa_, qb_, qc_, qd_, i64_w, i32_w]; rfl
         refine pure_ (i := 38) (N := some 55) (v := undef) (a' := ?_) bb2_39 rfl rfl (any_of HT_.out (by kernel_rfl)) (fun _ _ _ h => h) (Or.inr ⟨by rfl, rfl⟩) ?_ ?_
         rotate_left
         · simp only [qa_, qb_, qc_, qd_, i64_w, i32_w]; rfl
         refine pure_ (i := 39) (N := some 56) (v := undef) (a' := ?_) bb2_40 rfl rfl (any_of HT_.out (by kernel_rfl)) (fun _ _ _ h => h) (Or.inr ⟨by rfl, rfl⟩) ?_ ?_
         rotate_left
         · simp only [qa_, qb_, qc_, qd_, i64_w, i32_w]; rfl
         refine pure_ (i := 40) (N := some 57) (v := undef) (a' := ?_) bb2_41 rfl rfl (any_of HT_.out (by kernel_rfl)) (fun _ _ _ h => h) (Or.inr ⟨by rfl, rfl⟩) ?_ ?_
         rotate_left
         · simp only [qa_, qb_, qc_, qd_, i64_w, i32_w]; rfl
         refine pure_ (i := 41) (N := some 58) (v := undef) (a' := ?_) bb2_42 rfl rfl (any_of HT_.out (by kernel_rfl)) (fun _ _ _ h => h) (Or.inr ⟨by rfl, rfl⟩) ?_ ?_
         rotate_left
         · simp only [qa_, qb_, qc_, qd_, i64_w, i32_w]; rfl
         refine pure_ (i := 42) (N := some 59) (v := undef) (a' := ?_) bb2_43 rfl rfl (any_of HT_.out (by kernel_rfl)) (fun _ _ _ h => h) (Or.inr ⟨by rfl, rfl⟩) ?_ ?_
         rotate_left
         · simp only [qa_, qb_, qc_, qd_, i64_w, i32_w]; rfl
         refine pure_ (i := 43) (N := some 60) (v := undef) (a' := ?_) bb2_44 rfl rfl (any_of HT_.out (by kernel_rfl)) (fun _ _ _ h => h) (Or.inr ⟨by rfl, rfl⟩) ?_ ?_
         rotate_left
         · simp only [qa_, qb_, qc_, qd_, i64_w, i32_w]; rfl
         refine pure_ (i := 44) (N := some 61) (v := undef) (a' := ?_) bb2_45 rfl rfl (any_of HT_.out (by kernel_rfl)) (fun _ _ _ h => h) (Or.inr ⟨by rfl, rfl⟩) ?_ ?_
         rotate_left
         · simp only [qa_, qb_, qc_, qd_, i64_w, i32_w]; rfl
         refine pure_ (i := 45) (N := some 62) (v := undef) (a' := ?_) bb2_46 rfl rfl (any_of HT_.out (by kernel_rfl)) (fun _ _ _ h => h) (Or.inr ⟨by rfl, rfl⟩) ?_ ?_
         rotate_left
         · simp only [qa_, qb_, qc_, qd_, i64_w, i32_w]; rfl
         refine pure_ (i := 46) (N := some 63) (v := undef) (a' := ?_) bb2_47 rfl rfl (any_of HT_.out (by kernel_rfl)) (fun _ _ _ h => h) (Or.inr ⟨by rfl, rfl⟩) ?_ ?_
         rotate_left
         · simp only [qa_, qb_, qc_, qd_, i64_w, i32_w]; rfl
         refine pure_ (i := 47) (N := some 64) (v := undef) (a' := ?_) bb2_48 rfl rfl (any_of HT_.out (by kernel_rfl)) (fun _ _ _ h => h) (Or.inr ⟨by rfl, rfl⟩) ?_ ?_
         rotate_left
         · simp only [qa_, qb_, qc_, qd_, i64_w, i32_w]; rfl
         refine pure_ (i := 48) (N := some 65) (v := undef) (a' := ?_) bb2_49 rfl rfl (any_of HT_.out (by kernel_rfl)) (fun _ _ _ h => h) (Or.inr ⟨by rfl, rfl⟩) ?_ ?_
         rotate_left
         · simp only [qa_, qb_, qc_, qd_, i64_w, i32_w]; rfl
         refine pure_ (i := 49) (N := some 66) (v := undef) (a' := ?_) bb2_50 rfl rfl (any_of HT_.out (by kernel_rfl)) (fun _ _ _ h => h) (Or.inr ⟨by rfl, rfl⟩) ?_ ?_
         rotate_left
         · simp only [qa_, qb_, qc_, qd_, i64_w, i32_w]; rfl
         refine pure_ (i := 50) (N := some 67) (v := undef) (a' := ?_) bb2_51 rfl rfl (any_of HT_.out (by kernel_rfl)) (fun _ _ _ h => h) (Or.inr ⟨by rfl, rfl⟩) ?_ ?_
         rotate_left
         · simp only [qa_, qb_, qc_, qd_, i64_w, i32_w]; rfl
         refine pure_ (i := 51) (N := some 68) (v := undef) (a' := ?_) bb2_52 rfl rfl (any_of HT_.out (by kernel_rfl)) (fun _ _ _ h => h) (Or.inr ⟨by rfl, rfl⟩) ?_ ?_
         rotate_left
         · simp only [qa_, qb_, qc_, qd_, i64_w, i32_w]; rfl
         refine pure_ (i := 52) (N := some 69) (v := undef) (a' := ?_) bb2_53 rfl rfl (any_of HT_.out (by kernel_rfl)) (fun _ _ _ h => h) (Or.inr ⟨by rfl, rfl⟩) ?_ ?_
         rotate_left
         · simp only [qa_, qb_, qc_, qd_, i64_w, i32_w]; rfl
         refine pure_ (i := 53) (N := some 70) (v := undef) (a' := ?_) bb2_54 rfl rfl (any_of HT_.out (by kernel_rfl)) (fun _ _ _ h => h) (Or.inr ⟨by rfl, rfl⟩) ?_ ?_
         rotate_left
         · simp only [qa_, qb_, qc_, qd_, i64_w, i32_w]; rfl
         refine pure_ (i := 54) (N := some 71) (v := undef) (a' := ?_) bb2_55 rfl rfl (any_of HT_.out (by kernel_rfl)) (fun _ _ _ h => h) (Or.inr ⟨by rfl, rfl⟩) ?_ ?_
         rotate_left
         · simp only [qa_, qb_, qc_, qd_, i64_w, i32_w]; rfl
         refine pure_ (i := 55) (N := some 72) (v := undef) (a' := ?_) bb2_56 rfl rfl (any_of HT_.out (by kernel_rfl)) (fun _ _ _ h => h) (Or.inr ⟨by rfl, rfl⟩) ?_ ?_
         rotate_left
         · simp only [qa_, qb_, qc_, qd_, i64_w, i32_w]; rfl
         refine pure_ (i := 56) (N := some 73) (v := undef) (a' := ?_) bb2_57 rfl rfl (any_of HT_.out (by kernel_rfl)) (fun _ _ _ h => h) (Or.inr ⟨by rfl, rfl⟩) ?_ ?_
         rotate_left
         · simp only [qa_, qb_, qc_, qd_, i64_w, i32_w]; rfl
         refine pure_ (i := 57) (N := some 74) (v := undef) (a' := ?_) bb2_58 rfl rfl (any_of HT_.out (by kernel_rfl)) (fun _ _ _ h => h) (Or.inr ⟨by rfl, rfl⟩) ?_ ?_
         rotate_left
         · simp only [qa_, qb_, qc_, qd_, i64_w, i32_w]; rfl
         refine pure_ (i := 58) (N := some 75) (v := ?_) (a' := ?_) bb2_59 rfl rfl (any_of HT_.out (by kernel_rfl)) (fun _ _ _ h => h) (Or.inl ⟨by rfl, ?_⟩) ?_ ?_
         rotate_left
         · intro w'; go_simp; with_reducible rfl
         rotate_left
         · simp only [qa_, qb_, qc_, qd_, i64_w, i32_w]; rfl
         refine done_ (done_of HT_.out (by kernel_rfl)) ?_
         try go_wp2
         go_meet
         case rel => exact ⟨_, (true), (by first | rfl | (simp; done) | (simp [*]; done)), H', ⟨by have := HK1.out; first | omega | exact Nat.le_refl _⟩, ⟨by (with_reducible repeat (first | apply Kd.R_alloc | apply Kd.R_drewN | apply Kd.R_drew)); exact HO_5.out⟩, ⟨by (with_reducible repeat (first | refine blk_drewN ?_ _ | refine blk_drew ?_ | refine blk_alloc ?_ _)); exact BK331.out⟩, ⟨by repeat (first | (with_reducible first | exact HB.out | apply below_alloc | apply pw_below_drewN | apply below_drew1 | refine below_set ?_ GE331.out) | exact HB.out)⟩⟩
        ·
         rw [if_neg c13] at H
         have c13b0 : ((((rd_T25 t332 x6_1).f0) == 1) != (x6_1 == 0)) = false := by simpa using c13
         (try (have c13b1 : decide ((((rd_T25 t332 x6_1).f0) == 1) = (x6_1 == 0)) = true := by simpa using c13))
         (try (have c13b2 : ((((rd_T25 t332 x6_1).f0) == 1) == (x6_1 == 0)) = true := by simpa using c13))
         clear c13
         by_cases c16 : x6_1 > 0
         ·
          rw [if_pos c16] at H
          have c16b0 : decide (0 < x6_1) = true := decide_eq_true c16
          clear c16
          by_cases c17 : ((rd_T25 t332 x6_1).f0) = 3
          ·
           rw [if_pos c17] at H
           have c17b0 : (((rd_T25 t332 x6_1).f0) == 3) = true := beq_iff_eq.mpr c17
           have c17b1 : (((rd_T25 t332 x6_1).f0) != 3) = false := bne_eq_false_iff_eq.mpr c17
           clear c17
           by_cases c18 : ((rd_T25 t332 x6_1).f5) = 0
           ·
            rw [if_pos c18] at H
            have c18b0 : (((rd_T25 t332 x6_1).f5) == 0) = true := beq_iff_eq.mpr c18
            have c18b1 : (((rd_T25 t332 x6_1).f5) != 0) = false := bne_eq_false_iff_eq.mpr c18
            clear c18
            have H' := Aside0.mk H
            clear H
            try go_wp2
            have n0_ := Aside0.mk (Kd.R_drew HO_5.out)
            have n1_ := Aside0.mk (blk_drew BK331.out)
            have n2_ := Aside0.mk (below_drew1 HB.out)
            clear HO_5
            clear BK331
            clear HB
            have HO_5 := n0_
            have BK331 := n1_
            have HB := n2_
            clear n0_ n1_ n2_
            have p335 : 0 ≤ (x6_1 : Int) := of_decide_eq_true (by first | (with_reducible assumption) | assumption)
            have q335 : x6_1 < (t332.length : Int) := of_decide_eq_true (by first | (with_reducible assumption) | assumption)
            obtain ⟨ad335, e335, hx335_0, hx335_1, hx335_2, hx335_3, hx335_4, hx335_5, hx335_6, hx335_7, hx335_8, hx335_9⟩ := at_T25 (Kd.R_reads' HO_5.out).2.2 x6_1 p335 q335
            cases e335
            replace p335 := eq_true p335
            replace q335 := eq_true q335
            have p337 : 0 ≤ (x6_1 : Int) := of_decide_eq_true (by first | (with_reducible assumption) | assumption)
            have q337 : x6_1 < (t332.length : Int) := of_decide_eq_true (by first | (with_reducible assumption) | assumption)
            obtain ⟨ad337, e337, hx337_0, hx337_1, hx337_2, hx337_3, hx337_4, hx337_5, hx337_6, hx337_7, hx337_8, hx337_9⟩ := at_T25 (Kd.R_reads' HO_5.out).2.2 x6_1 p337 q337
            obtain rfl : ad335 = ad337 := (by injection e337)
            replace p337 := eq_true p337
            replace q337 := eq_true q337
            have p338 : 0 ≤ (x6_1 : Int) := of_decide_eq_true (by first | (with_reducible assumption) | assumption)
            have q338 : x6_1 < (t332.length : Int) := of_decide_eq_true (by first | (with_reducible assumption) | assumption)
            obtain ⟨ad338, e338, hx338_0, hx338_1, hx338_2, hx338_3, hx338_4, hx338_5, hx338_6, hx338_7, hx338_8, hx338_9⟩ := at_T25 (Kd.R_reads' HO_5.out).2.2 x6_1 p338 q338
            obtain rfl : ad335 = ad338 := (by injection e338)
            replace p338 := eq_true p338
            replace q338 := eq_true q338
            have p339 : 0 ≤ (x6_1 : Int) := of_decide_eq_true (by first | (with_reducible assumption) | assumption)
            have q339 : x6_1 < (t332.length : Int) := of_decide_eq_true (by first | (with_reducible assumption) | assumption)
            obtain ⟨ad339, e339, hx339_0, hx339_1, hx339_2, hx339_3, hx339_4, hx339_5, hx339_6, hx339_7, hx339_8, hx339_9⟩ := at_T25 (Kd.R_reads' HO_5.out).2.2 x6_1 p339 q339
            obtain rfl : ad335 = ad339 := (by injection e339)
            replace p339 := eq_true p339
            replace q339 := eq_true q339
            have p340 : 0 ≤ (x6_1 : Int) := of_decide_eq_true (by first | (with_reducible assumption) | assumption)
            have q340 : x6_1 < (t332.length : Int) := of_decide_eq_true (by first | (with_reducible assumption) | assumption)
            obtain ⟨ad340, e340, hx340_0, hx340_1, hx340_2, hx340_3, hx340_4, hx340_5, hx340_6, hx340_7, hx340_8, hx340_9⟩ := at_T25 (Kd.R_reads' HO_5.out).2.2 x6_1 p340 q340
            obtain rfl : ad335 = ad340 := (by injection e340)
            replace p340 := eq_true p340
            replace q340 := eq_true q340
            refine start_ (n := 59) (S := fun w' => w'.cell? (ad335.add ((x6_1).toNat * 10)) = some (.int .i64 ((rd_T25 t332 x6_1).f0)) ∧ w'.cell? ⟨(ad335.add ((x6_1).toNat * 10)).block, (ad335.add ((x6_1).toNat * 10)).off + 1, none⟩ = some (.int .i64 ((rd_T25 t332 x6_1).f1)) ∧ w'.cell? ⟨(ad335.add ((x6_1).toNat * 10)).block, (ad335.add ((x6_1).toNat * 10)).off + 2, none⟩ = some (.int .i64 ((rd_T25 t332 x6_1).f2)) ∧ w'.cell? ⟨(ad335.add ((x6_1).toNat * 10)).block, (ad335.add ((x6_1).toNat * 10)).off + 3, none⟩ = some (.int .i64 ((rd_T25 t332 x6_1).f3)) ∧ w'.cell? ⟨(ad335.add ((x6_1).toNat * 10)).block, (ad335.add ((x6_1).toNat * 10)).off + 4, none⟩ = some (.int .i64 ((rd_T25 t332 x6_1).f4)) ∧ w'.cell? ⟨(ad335.add ((x6_1).toNat * 10)).block, (ad335.add ((x6_1).toNat * 10)).off + 5, none⟩ = some (.int .i64 ((rd_T25 t332 x6_1).f5)) ∧ w'.cell? ⟨(ad335.add ((x6_1).toNat * 10)).block, (ad335.add ((x6_1).toNat * 10)).off + 6, none⟩ = some (.int .u64 ((rd_T25 t332 x6_1).f6)) ∧ w'.cell? ⟨(ad335.add ((x6_1).toNat * 10)).block, (ad335.add ((x6_1).toNat * 10)).off + 7, none⟩ = some (.int .i64 ((rd_T25 t332 x6_1).f7)) ∧ w'.cell? ⟨(ad335.add ((x6_1).toNat * 10)).block, (ad335.add ((x6_1).toNat * 10)).off + 8, none⟩ = some (.int .i64 ((rd_T25 t332 x6_1).f8)) ∧ w'.cell? ⟨(ad335.add ((x6_1).toNat * 10)).block, (ad335.add ((x6_1).toNat * 10)).off + 9, none⟩ = some (.int .i64 ((rd_T25 t332 x6_1).f9)) ∧ w'.cell? (ad335.add ((x6_1).toNat * 10)) = some (.int .i64 ((rd_T25 t332 x6_1).f0)) ∧ w'.cell? ⟨(ad335.add ((x6_1).toNat * 10)).block, (ad335.add ((x6_1).toNat * 10)).off + 1, none⟩ = some (.int .i64 ((rd_T25 t332 x6_1).f1)) ∧ w'.cell? ⟨(ad335.add ((x6_1).toNat * 10)).block, (ad335.add ((x6_1).toNat * 10)).off + 2, none⟩ = some (.int .i64 ((rd_T25 t332 x6_1).f2)) ∧ w'.cell? ⟨(ad335.add ((x6_1).toNat * 10)).block, (ad335.add ((x6_1).toNat * 10)).off + 3, none⟩ = some (.int .i64 ((rd_T25 t332 x6_1).f3)) ∧ w'.cell? ⟨(ad335.add ((x6_1).toNat * 10)).block, (ad335.add ((x6_1).toNat * 10)).off + 4, none⟩ = some (.int .i64 ((rd_T25 t332 x6_1).f4)) ∧ w'.cell? ⟨(ad335.add ((x6_1).toNat * 10)).block, (ad335.add ((x6_1).toNat * 10)).off + 5, none⟩ = some (.int .i64 ((rd_T25 t332 x6_1).f5)) ∧ w'.cell? ⟨(ad335.add ((x6_1).toNat * 10)).block, (ad335.add ((x6_1).toNat * 10)).off + 6, none⟩ = some (.int .u64 ((rd_T25 t332 x6_1).f6)) ∧ w'.cell? ⟨(ad335.add ((x6_1).toNat * 10)).block, (ad335.add ((x6_1).toNat * 10)).off + 7, none⟩ = some (.int .i64 ((rd_T25 t332 x6_1).f7)) ∧ w'.cell? ⟨(ad335.add ((x6_1).toNat * 10)).block, (ad335.add ((x6_1).toNat * 10)).off + 8, none⟩ = some (.int .i64 ((rd_T25 t332 x6_1).f8)) ∧ w'.cell? ⟨(ad335.add ((x6_1).toNat * 10)).block, (ad335.add ((x6_1).toNat * 10)).off + 9, none⟩ = some (.int .i64 ((rd_T25 t332 x6_1).f9)) ∧ w'.cell? (ad335.add ((x6_1).toNat * 10)) = some (.int .i64 ((rd_T25 t332 x6_1).f0)) ∧ w'.cell? ⟨(ad335.add ((x6_1).toNat * 10)).block, (ad335.add ((x6_1).toNat * 10)).off + 1, none⟩ = some (.int .i64 ((rd_T25 t332 x6_1).f1)) ∧ w'.cell? ⟨(ad335.add ((x6_1).toNat * 10)).block, (ad335.add ((x6_1).toNat * 10)).off + 2, none⟩ = some (.int .i64 ((rd_T25 t332 x6_1).f2)) ∧ w'.cell? ⟨(ad335.add ((x6_1).toNat * 10)).block, (ad335.add ((x6_1).toNat * 10)).off + 3, none⟩ = some (.int .i64 ((rd_T25 t332 x6_1).f3)) ∧ w'.cell? ⟨(ad335.add ((x6_1).toNat * 10)).block, (ad335.add ((x6_1).toNat * 10)).off + 4, none⟩ = some (.int .i64 ((rd_T25 t332 x6_1).f4)) ∧ w'.cell? ⟨(ad335.add ((x6_1).toNat * 10)).block, (ad335.add ((x6_1).toNat * 10)).off + 5, none⟩ = some (.int .i64 ((rd_T25 t332 x6_1).f5)) ∧ w'.cell? ⟨(ad335.add ((x6_1).toNat * 10)).block, (ad335.add ((x6_1).toNat * 10)).off + 6, none⟩ = some (.int .u64 ((rd_T25 t332 x6_1).f6)) ∧ w'.cell? ⟨(ad335.add ((x6_1).toNat * 10)).block, (ad335.add ((x6_1).toNat * 10)).off + 7, none⟩ = some (.int .i64 ((rd_T25 t332 x6_1).f7)) ∧ w'.cell? ⟨(ad335.add ((x6_1).toNat * 10)).block, (ad335.add ((x6_1).toNat * 10)).off + 8, none⟩ = some (.int .i64 ((rd_T25 t332 x6_1).f8)) ∧ w'.cell? ⟨(ad335.add ((x6_1).toNat * 10)).block, (ad335.add ((x6_1).toNat * 10)).off + 9, none⟩ = some (.int .i64 ((rd_T25 t332 x6_1).f9)) ∧ w'.cell? (ad335.add ((x6_1).toNat * 10)) = some (.int .i64 ((rd_T25 t332 x6_1).f0)) ∧ w'.cell? ⟨(ad335.add ((x6_1).toNat * 10)).block, (ad335.add ((x6_1).toNat * 10)).off + 1, none⟩ = some (.int .i64 ((rd_T25 t332 x6_1).f1)) ∧ w'.cell? ⟨(ad335.add ((x6_1).toNat * 10)).block, (ad335.add ((x6_1).toNat * 10)).off + 2, none⟩ = some (.int .i64 ((rd_T25 t332 x6_1).f2)) ∧ w'.cell? ⟨(ad335.add ((x6_1).toNat * 10)).block, (ad335.add ((x6_1).toNat * 10)).off + 3, none⟩ = some (.int .i64 ((rd_T25 t332 x6_1).f3)) ∧ w'.cell? ⟨(ad335.add ((x6_1).toNat * 10)).block, (ad335.add ((x6_1).toNat * 10)).off + 4, none⟩ = some (.int .i64 ((rd_T25 t332 x6_1).f4)) ∧ w'.cell? ⟨(ad335.add ((x6_1).toNat * 10)).block, (ad335.add ((x6_1).toNat * 10)).off + 5, none⟩ = some (.int .i64 ((rd_T25 t332 x6_1).f5)) ∧ w'.cell? ⟨(ad335.add ((x6_1).toNat * 10)).block, (ad335.add ((x6_1).toNat * 10)).off + 6, none⟩ = some (.int .u64 ((rd_T25 t332 x6_1).f6)) ∧ w'.cell? ⟨(ad335.add ((x6_1).toNat * 10)).block, (ad335.add ((x6_1).toNat * 10)).off + 7, none⟩ = some (.int .i64 ((rd_T25 t332 x6_1).f7)) ∧ w'.cell? ⟨(ad335.add ((x6_1).toNat * 10)).block, (ad335.add ((x6_1).toNat * 10)).off + 8, none⟩ = some (.int .i64 ((rd_T25 t332 x6_1).f8)) ∧ w'.cell? ⟨(ad335.add ((x6_1).toNat * 10)).block, (ad335.add ((x6_1).toNat * 10)).off + 9, none⟩ = some (.int .i64 ((rd_T25 t332 x6_1).f9)) ∧ w'.cell? (ad335.add ((x6_1).toNat * 10)) = some (.int .i64 ((rd_T25 t332 x6_1).f0)) ∧ w'.cell? ⟨(ad335.add ((x6_1).toNat * 10)).block, (ad335.add ((x6_1).toNat * 10)).off + 1, none⟩ = some (.int .i64 ((rd_T25 t332 x6_1).f1)) ∧ w'.cell? ⟨(ad335.add ((x6_1).toNat * 10)).block, (ad335.add ((x6_1).toNat * 10)).off + 2, none⟩ = some (.int .i64 ((rd_T25 t332 x6_1).f2)) ∧ w'.cell? ⟨(ad335.add ((x6_1).toNat * 10)).block, (ad335.add ((x6_1).toNat * 10)).off + 3, none⟩ = some (.int .i64 ((rd_T25 t332 x6_1).f3)) ∧ w'.cell? ⟨(ad335.add ((x6_1).toNat * 10)).block, (ad335.add ((x6_1).toNat * 10)).off + 4, none⟩ = some (.int .i64 ((rd_T25 t332 x6_1).f4)) ∧ w'.cell? ⟨(ad335.add ((x6_1).toNat * 10)).block, (ad335.add ((x6_1).toNat * 10)).off + 5, none⟩ = some (.int .i64 ((rd_T25 t332 x6_1).f5)) ∧ w'.cell? ⟨(ad335.add ((x6_1).toNat * 10)).block, (ad335.add ((x6_1).toNat * 10)).off + 6, none⟩ = some (.int .u64 ((rd_T25 t332 x6_1).f6)) ∧ w'.cell? ⟨(ad335.add ((x6_1).toNat * 10)).block, (ad335.add ((x6_1).toNat * 10)).off + 7, none⟩ = some (.int .i64 ((rd_T25 t332 x6_1).f7)) ∧ w'.cell? ⟨(ad335.add ((x6_1).toNat * 10)).block, (ad335.add ((x6_1).toNat * 10)).off + 8, none⟩ = some (.int .i64 ((rd_T25 t332 x6_1).f8)) ∧ w'.cell? ⟨(ad335.add ((x6_1).toNat * 10)).block, (ad335.add ((x6_1).toNat * 10)).off + 9, none⟩ = some (.int .i64 ((rd_T25 t332 x6_1).f9))) (ds := []) bb2_0 (by kernel_rfl) rfl rfl ⟨hx335_0, hx335_1, hx335_2, hx335_3, hx335_4, hx335_5, hx335_6, hx335_7, hx335_8, hx335_9, hx337_0, hx337_1, hx337_2, hx337_3, hx337_4, hx337_5, hx337_6, hx337_7, hx337_8, hx337_9, hx338_0, hx338_1, hx338_2, hx338_3, hx338_4, hx338_5, hx338_6, hx338_7, hx338_8, hx338_9, hx339_0, hx339_1, hx339_2, hx339_3, hx339_4, hx339_5, hx339_6, hx339_7, hx339_8, hx339_9, hx340_0, hx340_1, hx340_2, hx340_3, hx340_4, hx340_5, hx340_6, hx340_7, hx340_8, hx340_9⟩ (fun hHeld => ?_); refine with_tabW cleatlaw06_AluLoads.tab5 cleatlaw06_AluLoads.bits5 (fun HT_ HW_ => ?_)
            generalize wr.drew = w19 at HO_5 BK331 HB hx335_0 hx335_1 hx335_2 hx335_3 hx335_4 hx335_5 hx335_6 hx335_7 hx335_8 hx335_9 hx337_0 hx337_1 hx337_2 hx337_3 hx337_4 hx337_5 hx337_6 hx337_7 hx337_8 hx337_9 hx338_0 hx338_1 hx338_2 hx338_3 hx338_4 hx338_5 hx338_6 hx338_7 hx338_8 hx338_9 hx339_0 hx339_1 hx339_2 hx339_3 hx339_4 hx339_5 hx339_6 hx339_7 hx339_8 hx339_9 hx340_0 hx340_1 hx340_2 hx340_3 hx340_4 hx340_5 hx340_6 hx340_7 hx340_8 hx340_9 hHeld ⊢
            refine pure_ (i := 0) (N := some 17) (v := ?_) (a' := ?_) bb2_1 rfl rfl (any_of HT_.out (by kernel_rfl)) (fun _ _ _ h => h) (Or.inl ⟨by rfl, ?_⟩) ?_ ?_
            rotate_left
            · intro w'; go_simp; with_reducible rfl
            rotate_left
            · simp only [qa_, qb_, qc_, qd_, i64_w, i32_w]; rfl
            refine pure_ (i := 1) (N := some 18) (v := ?_) (a' := ?_) bb2_2 rfl rfl (any_of HT_.out (by kernel_rfl)) (fun _ _ _ h => h) (Or.inl ⟨by rfl, ?_⟩) ?_ ?_
            rotate_left
            · intro w'; go_simp; with_reducible rfl
            rotate_left
            · simp only [qa_, qb_, qc_, qd_, i64_w, i32_w]; rfl
            refine pure_ (i := 2) (N := some 19) (v := ?_) (a' := ?_) bb2_3 rfl rfl (any_of HT_.out (by kernel_rfl)) (fun _ _ _ h => h) (Or.inl ⟨by rfl, ?_⟩) ?_ ?_
            rotate_left
            · intro w'; go_simp; with_reducible rfl
            rotate_left
            · simp only [qa_, qb_, qc_, qd_, i64_w, i32_w]; rfl
            refine take_ (i := 3) (N := some 20) (v := ?_) (a' := ?_) bb2_4 rfl rfl (take_ofW HT_.out HW_.out (by kernel_rfl)) (fun _ _ _ h => h) (Or.inl ⟨by rfl, ?_⟩) hHeld ?_ ?_
            rotate_left
            · rintro w' ⟨s0, s1, s2, s3, s4, s5, s6, s7, s8, s9, s10, s11, s12, s13, s14, s15, s16, s17, s18, s19, s20, s21, s22, s23, s24, s25, s26, s27, s28, s29, s30, s31, s32, s33, s34, s35, s36, s37, s38, s39, s40, s41, s42, s43, s44, s45, s46, s47, s48, s49⟩; go_simp; with_reducible rfl
            rotate_left
            · simp only [qa_, qb_, qc_, qd_, i64_w, i32_w]; rfl
            refine one_ (i := 4) (N := some 21) bb2_5 rfl rfl (one_of HT_.out (by kernel_rfl)) (by decide) (fun K hK => ?_)
            refine goes_ Tryd.func16 (by kernel_rfl) rfl #[.agg #[.int .i64 ((rd_T25 t332 x6_1).f0), .int .i64 ((rd_T25 t332 x6_1).f1), .int .i64 ((rd_T25 t332 x6_1).f2), .int .i64 ((rd_T25 t332 x6_1).f3), .int .i64 ((rd_T25 t332 x6_1).f4), .int .i64 ((rd_T25 t332 x6_1).f5), .int .u64 ((rd_T25 t332 x6_1).f6), .int .i64 ((rd_T25 t332 x6_1).f7), .int .i64 ((rd_T25 t332 x6_1).f8), .int .i64 ((rd_T25 t332 x6_1).f9)]] (by rfl) rfl rfl (by (try simp only [List.map_toArray, List.map_cons, List.map_nil]); first | done | rfl | (simp only [List.length_drop, List.length_take]; rfl)) ?_
            with_reducible refine (inst_Is.calls k1 ((rd_T25 t332 x6_1).f0) ((rd_T25 t332 x6_1).f1) ((rd_T25 t332 x6_1).f2) ((rd_T25 t332 x6_1).f3) ((rd_T25 t332 x6_1).f4) ((rd_T25 t332 x6_1).f5) ((rd_T25 t332 x6_1).f6) ((rd_T25 t332 x6_1).f7) ((rd_T25 t332 x6_1).f8) ((rd_T25 t332 x6_1).f9) true _ A10.out).mono ?_
            rintro e w20 ⟨rfl, hb⟩
            have HS0_ := pw_cell_below hb hHeld.1
            have HS1_ := pw_cell_below hb hHeld.2.1
            have HS2_ := pw_cell_below hb hHeld.2.2.1
            have HS3_ := pw_cell_below hb hHeld.2.2.2.1
            have HS4_ := pw_cell_below hb hHeld.2.2.2.2.1
            have HS5_ := pw_cell_below hb hHeld.2.2.2.2.2.1
            have HS6_ := pw_cell_below hb hHeld.2.2.2.2.2.2.1
            have HS7_ := pw_cell_below hb hHeld.2.2.2.2.2.2.2.1
            have HS8_ := pw_cell_below hb hHeld.2.2.2.2.2.2.2.2.1
            have HS9_ := pw_cell_below hb hHeld.2.2.2.2.2.2.2.2.2.1
            have HS10_ := pw_cell_below hb hHeld.2.2.2.2.2.2.2.2.2.2.1
            have HS11_ := pw_cell_below hb hHeld.2.2.2.2.2.2.2.2.2.2.2.1
            have HS12_ := pw_cell_below hb hHeld.2.2.2.2.2.2.2.2.2.2.2.2.1
            have HS13_ := pw_cell_below hb hHeld.2.2.2.2.2.2.2.2.2.2.2.2.2.1
            have HS14_ := pw_cell_below hb hHeld.2.2.2.2.2.2.2.2.2.2.2.2.2.2.1
            have HS15_ := pw_cell_below hb hHeld.2.2.2.2.2.2.2.2.2.2.2.2.2.2.2.1
            have HS16_ := pw_cell_below hb hHeld.2.2.2.2.2.2.2.2.2.2.2.2.2.2.2.2.1
            have HS17_ := pw_cell_below hb hHeld.2.2.2.2.2.2.2.2.2.2.2.2.2.2.2.2.2.1
            have HS18_ := pw_cell_below hb hHeld.2.2.2.2.2.2.2.2.2.2.2.2.2.2.2.2.2.2.1
            have HS19_ := pw_cell_below hb hHeld.2.2.2.2.2.2.2.2.2.2.2.2.2.2.2.2.2.2.2.1
            have HS20_ := pw_cell_below hb hHeld.2.2.2.2.2.2.2.2.2.2.2.2.2.2.2.2.2.2.2.2.1
            have HS21_ := pw_cell_below hb hHeld.2.2.2.2.2.2.2.2.2.2.2.2.2.2.2.2.2.2.2.2.2.1
            have HS22_ := pw_cell_below hb hHeld.2.2.2.2.2.2.2.2.2.2.2.2.2.2.2.2.2.2.2.2.2.2.1
            have HS23_ := pw_cell_below hb hHeld.2.2.2.2.2.2.2.2.2.2.2.2.2.2.2.2.2.2.2.2.2.2.2.1
            have HS24_ := pw_cell_below hb hHeld.2.2.2.2.2.2.2.2.2.2.2.2.2.2.2.2.2.2.2.2.2.2.2.2.1
            have HS25_ := pw_cell_below hb hHeld.2.2.2.2.2.2.2.2.2.2.2.2.2.2.2.2.2.2.2.2.2.2.2.2.2.1
            have HS26_ := pw_cell_below hb hHeld.2.2.2.2.2.2.2.2.2.2.2.2.2.2.2.2.2.2.2.2.2.2.2.2.2.2.1
            have HS27_ := pw_cell_below hb hHeld.2.2.2.2.2.2.2.2.2.2.2.2.2.2.2.2.2.2.2.2.2.2.2.2.2.2.2.1
            have HS28_ := pw_cell_below hb hHeld.2.2.2.2.2.2.2.2.2.2.2.2.2.2.2.2.2.2.2.2.2.2.2.2.2.2.2.2.1
            have HS29_ := pw_cell_below hb hHeld.2.2.2.2.2.2.2.2.2.2.2.2.2.2.2.2.2.2.2.2.2.2.2.2.2.2.2.2.2.1
            have HS30_ := pw_cell_below hb hHeld.2.2.2.2.2.2.2.2.2.2.2.2.2.2.2.2.2.2.2.2.2.2.2.2.2.2.2.2.2.2.1
            have HS31_ := pw_cell_below hb hHeld.2.2.2.2.2.2.2.2.2.2.2.2.2.2.2.2.2.2.2.2.2.2.2.2.2.2.2.2.2.2.2.1
            have HS32_ := pw_cell_below hb hHeld.2.2.2.2.2.2.2.2.2.2.2.2.2.2.2.2.2.2.2.2.2.2.2.2.2.2.2.2.2.2.2.2.1
            have HS33_ := pw_cell_below hb hHeld.2.2.2.2.2.2.2.2.2.2.2.2.2.2.2.2.2.2.2.2.2.2.2.2.2.2.2.2.2.2.2.2.2.1
            have HS34_ := pw_cell_below hb hHeld.2.2.2.2.2.2.2.2.2.2.2.2.2.2.2.2.2.2.2.2.2.2.2.2.2.2.2.2.2.2.2.2.2.2.1
            have HS35_ := pw_cell_below hb hHeld.2.2.2.2.2.2.2.2.2.2.2.2.2.2.2.2.2.2.2.2.2.2.2.2.2.2.2.2.2.2.2.2.2.2.2.1
            have HS36_ := pw_cell_below hb hHeld.2.2.2.2.2.2.2.2.2.2.2.2.2.2.2.2.2.2.2.2.2.2.2.2.2.2.2.2.2.2.2.2.2.2.2.2.1
            have HS37_ := pw_cell_below hb hHeld.2.2.2.2.2.2.2.2.2.2.2.2.2.2.2.2.2.2.2.2.2.2.2.2.2.2.2.2.2.2.2.2.2.2.2.2.2.1
            have HS38_ := pw_cell_below hb hHeld.2.2.2.2.2.2.2.2.2.2.2.2.2.2.2.2.2.2.2.2.2.2.2.2.2.2.2.2.2.2.2.2.2.2.2.2.2.2.1
            have HS39_ := pw_cell_below hb hHeld.2.2.2.2.2.2.2.2.2.2.2.2.2.2.2.2.2.2.2.2.2.2.2.2.2.2.2.2.2.2.2.2.2.2.2.2.2.2.2.1
            have HS40_ := pw_cell_below hb hHeld.2.2.2.2.2.2.2.2.2.2.2.2.2.2.2.2.2.2.2.2.2.2.2.2.2.2.2.2.2.2.2.2.2.2.2.2.2.2.2.2.1
            have HS41_ := pw_cell_below hb hHeld.2.2.2.2.2.2.2.2.2.2.2.2.2.2.2.2.2.2.2.2.2.2.2.2.2.2.2.2.2.2.2.2.2.2.2.2.2.2.2.2.2.1
            have HS42_ := pw_cell_below hb hHeld.2.2.2.2.2.2.2.2.2.2.2.2.2.2.2.2.2.2.2.2.2.2.2.2.2.2.2.2.2.2.2.2.2.2.2.2.2.2.2.2.2.2.1
            have HS43_ := pw_cell_below hb hHeld.2.2.2.2.2.2.2.2.2.2.2.2.2.2.2.2.2.2.2.2.2.2.2.2.2.2.2.2.2.2.2.2.2.2.2.2.2.2.2.2.2.2.2.1
            have HS44_ := pw_cell_below hb hHeld.2.2.2.2.2.2.2.2.2.2.2.2.2.2.2.2.2.2.2.2.2.2.2.2.2.2.2.2.2.2.2.2.2.2.2.2.2.2.2.2.2.2.2.2.1
            have HS45_ := pw_cell_below hb hHeld.2.2.2.2.2.2.2.2.2.2.2.2.2.2.2.2.2.2.2.2.2.2.2.2.2.2.2.2.2.2.2.2.2.2.2.2.2.2.2.2.2.2.2.2.2.1
            have HS46_ := pw_cell_below hb hHeld.2.2.2.2.2.2.2.2.2.2.2.2.2.2.2.2.2.2.2.2.2.2.2.2.2.2.2.2.2.2.2.2.2.2.2.2.2.2.2.2.2.2.2.2.2.2.1
            have HS47_ := pw_cell_below hb hHeld.2.2.2.2.2.2.2.2.2.2.2.2.2.2.2.2.2.2.2.2.2.2.2.2.2.2.2.2.2.2.2.2.2.2.2.2.2.2.2.2.2.2.2.2.2.2.2.1
            have HS48_ := pw_cell_below hb hHeld.2.2.2.2.2.2.2.2.2.2.2.2.2.2.2.2.2.2.2.2.2.2.2.2.2.2.2.2.2.2.2.2.2.2.2.2.2.2.2.2.2.2.2.2.2.2.2.2.1
            have HS49_ := pw_cell_below hb hHeld.2.2.2.2.2.2.2.2.2.2.2.2.2.2.2.2.2.2.2.2.2.2.2.2.2.2.2.2.2.2.2.2.2.2.2.2.2.2.2.2.2.2.2.2.2.2.2.2.2
            refine ⟨_, rfl, ?_⟩
            have n0_ := Aside0.mk (Kd.R_below (by (with_reducible repeat (first | apply Kd.R_alloc | apply Kd.R_drewN | apply Kd.R_drew)); exact HO_5.out) hb)
            have n1_ := Aside0.mk (blk_below (g := gb331) (o := .cells #[.int .u64 a1_0, .int .u64 a1_1, .int .u64 a1_2, .int .u64 a1_3] 29 (0, 0)) (by (with_reducible repeat (first | refine blk_drewN ?_ _ | refine blk_drew ?_ | refine blk_alloc ?_ _)); exact BK331.out) hb)
            have n2_ := Aside0.mk (below_step (by repeat (first | (with_reducible first | exact HB.out | apply below_alloc | apply pw_below_drewN | apply below_drew1 | refine below_set ?_ GE331.out) | exact HB.out)) hb)
            clear HO_5
            clear BK331
            clear HB
            have HO_5 := n0_
            have BK331 := n1_
            have HB := n2_
            clear n0_ n1_ n2_
            (try clear hb)
            (try clear hb2)
            (try clear hk)
            (try clear hi)
            refine hK.out _ _ ⟨HS0_, HS1_, HS2_, HS3_, HS4_, HS5_, HS6_, HS7_, HS8_, HS9_, HS10_, HS11_, HS12_, HS13_, HS14_, HS15_, HS16_, HS17_, HS18_, HS19_, HS20_, HS21_, HS22_, HS23_, HS24_, HS25_, HS26_, HS27_, HS28_, HS29_, HS30_, HS31_, HS32_, HS33_, HS34_, HS35_, HS36_, HS37_, HS38_, HS39_, HS40_, HS41_, HS42_, HS43_, HS44_, HS45_, HS46_, HS47_, HS48_, HS49_⟩ (fun hHeld => ?_)
            clear hK K
            refine norm_ (a' := ?_) ?_ ?_
            rotate_left
            ·
             show Act.put _ (some 21) _ = _
             simp only [qa_, qb_, qc_, qd_, i64_w, i32_w]
             rfl
            refine pure_ (i := 5) (N := some 22) (v := ?_) (a' := ?_) bb2_6 rfl rfl (any_of HT_.out (by kernel_rfl)) (fun _ _ _ h => h) (Or.inl ⟨by rfl, ?_⟩) ?_ ?_
            rotate_left
            · intro w'; go_simp; with_reducible rfl
            rotate_left
            · simp only [qa_, qb_, qc_, qd_, i64_w, i32_w]; rfl
            refine pure_ (i := 6) (N := some 23) (v := ?_) (a' := ?_) bb2_7 rfl rfl (any_of HT_.out (by kernel_rfl)) (fun _ _ _ h => h) (Or.inl ⟨by rfl, ?_⟩) ?_ ?_
            rotate_left
            · intro w'; go_simp; with_reducible rfl
            rotate_left
            · simp only [qa_, qb_, qc_, qd_, i64_w, i32_w]; rfl
            refine pure_ (i := 7) (N := some 24) (v := ?_) (a' := ?_) bb2_8 rfl rfl (any_of HT_.out (by kernel_rfl)) (fun _ _ _ h => h) (Or.inl ⟨by rfl, ?_⟩) ?_ ?_
            rotate_left
            · intro w'; go_simp; with_reducible rfl
            rotate_left
            · simp only [qa_, qb_, qc_, qd_, i64_w, i32_w]; rfl
            refine pure_ (i := 8) (N := some 25) (v := ?_) (a' := ?_) bb2_9 rfl rfl (any_of HT_.out (by kernel_rfl)) (fun _ _ _ h => h) (Or.inl ⟨by rfl, ?_⟩) ?_ ?_
            rotate_left
            · intro w'; go_simp; with_reducible rfl
            rotate_left
            · simp only [qa_, qb_, qc_, qd_, i64_w, i32_w]; rfl
            refine pure_ (i := 9) (N := some 26) (v := ?_) (a' := ?_) bb2_10 rfl rfl (any_of HT_.out (by kernel_rfl)) (fun _ _ _ h => h) (Or.inl ⟨by rfl, ?_⟩) ?_ ?_
            rotate_left
            · intro w'; go_simp; with_reducible rfl
            rotate_left
            · simp only [qa_, qb_, qc_, qd_, i64_w, i32_w]; rfl
            refine pure_ (i := 10) (N := some 27) (v := ?_) (a' := ?_) bb2_11 rfl rfl (any_of HT_.out (by kernel_rfl)) (fun _ _ _ h => h) (Or.inl ⟨by rfl, ?_⟩) ?_ ?_
            rotate_left
            · intro w'; go_simp; with_reducible rfl
            rotate_left
            · simp only [qa_, qb_, qc_, qd_, i64_w, i32_w]; rfl
            refine take_ (i := 11) (N := some 28) (v := ?_) (a' := ?_) bb2_12 rfl rfl (take_ofW HT_.out HW_.out (by kernel_rfl)) (fun _ _ _ h => h) (Or.inl ⟨by rfl, ?_⟩) hHeld ?_ ?_
            rotate_left
            · rintro w' ⟨s0, s1, s2, s3, s4, s5, s6, s7, s8, s9, s10, s11, s12, s13, s14, s15, s16, s17, s18, s19, s20, s21, s22, s23, s24, s25, s26, s27, s28, s29, s30, s31, s32, s33, s34, s35, s36, s37, s38, s39, s40, s41, s42, s43, s44, s45, s46, s47, s48, s49⟩; go_simp; with_reducible rfl
            rotate_left
            · simp only [qa_, qb_, qc_, qd_, i64_w, i32_w]; rfl
            refine pure_ (i := 12) (N := some 29) (v := ?_) (a' := ?_) bb2_13 rfl rfl (any_of HT_.out (by kernel_rfl)) (fun _ _ _ h => h) (Or.inl ⟨by rfl, ?_⟩) ?_ ?_
            rotate_left
            · intro w'; go_simp; with_reducible rfl
            rotate_left
            · simp only [qa_, qb_, qc_, qd_, i64_w, i32_w]; rfl
            refine pure_ (i := 13) (N := some 30) (v := ?_) (a' := ?_) bb2_14 rfl rfl (any_of HT_.out (by kernel_rfl)) (fun _ _ _ h => h) (Or.inl ⟨by rfl, ?_⟩) ?_ ?_
            rotate_left
            · intro w'; go_simp; with_reducible rfl
            rotate_left
            · simp only [qa_, qb_, qc_, qd_, i64_w, i32_w]; rfl
            refine pure_ (i := 14) (N := some 31) (v := ?_) (a' := ?_) bb2_15 rfl rfl (any_of HT_.out (by kernel_rfl)) (fun _ _ _ h => h) (Or.inl ⟨by rfl, ?_⟩) ?_ ?_
            rotate_left
            · intro w'; go_simp; with_reducible rfl
            rotate_left
            · simp only [qa_, qb_, qc_, qd_, i64_w, i32_w]; rfl
            refine pure_ (i := 15) (N := some 32) (v := ?_) (a' := ?_) bb2_16 rfl rfl (any_of HT_.out (by kernel_rfl)) (fun _ _ _ h => h) (Or.inl ⟨by rfl, ?_⟩) ?_ ?_
            rotate_left
            · intro w'; go_simp; with_reducible rfl
            rotate_left
            · simp only [qa_, qb_, qc_, qd_, i64_w, i32_w]; rfl
            refine pure_ (i := 16) (N := some 33) (v := ?_) (a' := ?_) bb2_17 rfl rfl (any_of HT_.out (by kernel_rfl)) (fun _ _ _ h => h) (Or.inl ⟨by rfl, ?_⟩) ?_ ?_
            rotate_left
            · intro w'; go_simp; with_reducible rfl
            rotate_left
            · simp only [qa_, qb_, qc_, qd_, i64_w, i32_w]; rfl
            refine pure_ (i := 17) (N := some 34) (v := ?_) (a' := ?_) bb2_18 rfl rfl (any_of HT_.out (by kernel_rfl)) (fun _ _ _ h => h) (Or.inl ⟨by rfl, ?_⟩) ?_ ?_
            rotate_left
            · intro w'; go_simp; with_reducible rfl
            rotate_left
            · simp only [qa_, qb_, qc_, qd_, i64_w, i32_w]; rfl
            refine pure_ (i := 18) (N := some 35) (v := ?_) (a' := ?_) bb2_19 rfl rfl (any_of HT_.out (by kernel_rfl)) (fun _ _ _ h => h) (Or.inl ⟨by rfl, ?_⟩) ?_ ?_
            rotate_left
            · intro w'; go_simp; with_reducible rfl
            rotate_left
            · simp only [qa_, qb_, qc_, qd_, i64_w, i32_w]; rfl
            refine pure_ (i := 21) (N := some 38) (v := ?_) (a' := ?_) bb2_20 rfl rfl (any_of HT_.out (by kernel_rfl)) (fun _ _ _ h => h) (Or.inl ⟨by rfl, ?_⟩) ?_ ?_
            rotate_left
            · intro w'; go_simp; with_reducible rfl
            rotate_left
            · simp only [qa_, qb_, qc_, qd_, i64_w, i32_w]; rfl
            refine pure_ (i := 22) (N := some 39) (v := ?_) (a' := ?_) bb2_21 rfl rfl (any_of HT_.out (by kernel_rfl)) (fun _ _ _ h => h) (Or.inl ⟨by rfl, ?_⟩) ?_ ?_
            rotate_left
            · intro w'; go_simp; with_reducible rfl
            rotate_left
            · simp only [qa_, qb_, qc_, qd_, i64_w, i32_w]; rfl
            refine take_ (i := 19) (N := some 36) (v := ?_) (a' := ?_) bb2_22 rfl rfl (take_ofW HT_.out HW_.out (by kernel_rfl)) (fun _ _ _ h => h) (Or.inl ⟨by rfl, ?_⟩) hHeld ?_ ?_
            rotate_left
            · rintro w' ⟨s0, s1, s2, s3, s4, s5, s6, s7, s8, s9, s10, s11, s12, s13, s14, s15, s16, s17, s18, s19, s20, s21, s22, s23, s24, s25, s26, s27, s28, s29, s30, s31, s32, s33, s34, s35, s36, s37, s38, s39, s40, s41, s42, s43, s44, s45, s46, s47, s48, s49⟩; go_simp; with_reducible rfl
            rotate_left
            · simp only [qa_, qb_, qc_, qd_, i64_w, i32_w]; rfl
            refine pure_ (i := 20) (N := some 37) (v := ?_) (a' := ?_) bb2_23 rfl rfl (any_of HT_.out (by kernel_rfl)) (fun _ _ _ h => h) (Or.inl ⟨by rfl, ?_⟩) ?_ ?_
            rotate_left
            · intro w'; go_simp; with_reducible rfl
            rotate_left
            · simp only [qa_, qb_, qc_, qd_, i64_w, i32_w]; rfl
            refine pure_ (i := 23) (N := some 40) (v := ?_) (a' := ?_) bb2_24 rfl rfl (any_of HT_.out (by kernel_rfl)) (fun _ _ _ h => h) (Or.inl ⟨by rfl, ?_⟩) ?_ ?_
            rotate_left
            · intro w'; go_simp; with_reducible rfl
            rotate_left
            · simp only [qa_, qb_, qc_, qd_, i64_w, i32_w]; rfl
            refine pure_ (i := 24) (N := some 41) (v := ?_) (a' := ?_) bb2_25 rfl rfl (any_of HT_.out (by kernel_rfl)) (fun _ _ _ h => h) (Or.inl ⟨by rfl, ?_⟩) ?_ ?_
            rotate_left
            · intro w'; go_simp; with_reducible rfl
            rotate_left
            · simp only [qa_, qb_, qc_, qd_, i64_w, i32_w]; rfl
            refine pure_ (i := 25) (N := some 42) (v := ?_) (a' := ?_) bb2_26 rfl rfl (any_of HT_.out (by kernel_rfl)) (fun _ _ _ h => h) (Or.inl ⟨by rfl, ?_⟩) ?_ ?_
            rotate_left
            · intro w'; go_simp; with_reducible rfl
            rotate_left
            · simp only [qa_, qb_, qc_, qd_, i64_w, i32_w]; rfl
            refine pure_ (i := 26) (N := some 43) (v := ?_) (a' := ?_) bb2_27 rfl rfl (any_of HT_.out (by kernel_rfl)) (fun _ _ _ h => h) (Or.inl ⟨by rfl, ?_⟩) ?_ ?_
            rotate_left
            · intro w'; go_simp; with_reducible rfl
            rotate_left
            · simp only [qa_, qb_, qc_, qd_, i64_w, i32_w]; rfl
            refine pure_ (i := 27) (N := some 44) (v := ?_) (a' := ?_) bb2_28 rfl rfl (any_of HT_.out (by kernel_rfl)) (fun _ _ _ h => h) (Or.inl ⟨by rfl, ?_⟩) ?_ ?_
            rotate_left
            · intro w'; go_simp; with_reducible rfl
            rotate_left
            · simp only [qa_, qb_, qc_, qd_, i64_w, i32_w]; rfl
            refine pure_ (i := 28) (N := some 45) (v := ?_) (a' := ?_) bb2_29 rfl rfl (any_of HT_.out (by kernel_rfl)) (fun _ _ _ h => h) (Or.inl ⟨by rfl, ?_⟩) ?_ ?_
            rotate_left
            · intro w'; go_simp; with_reducible rfl
            rotate_left
            · simp only [qa_, qb_, qc_, qd_, i64_w, i32_w]; rfl
            refine pure_ (i := 29) (N := some 46) (v := ?_) (a' := ?_) bb2_30 rfl rfl (any_of HT_.out (by kernel_rfl)) (fun _ _ _ h => h) (Or.inl ⟨by rfl, ?_⟩) ?_ ?_
            rotate_left
            · intro w'; go_simp; with_reducible rfl
            rotate_left
            · simp only [qa_, qb_, qc_, qd_, i64_w, i32_w]; rfl
            refine pure_ (i := 30) (N := some 47) (v := ?_) (a' := ?_) bb2_31 rfl rfl (any_of HT_.out (by kernel_rfl)) (fun _ _ _ h => h) (Or.inl ⟨by rfl, ?_⟩) ?_ ?_
            rotate_left
            · intro w'; go_simp; with_reducible rfl
            rotate_left
            · simp only [qa_, qb_, qc_, qd_, i64_w, i32_w]; rfl
            refine pure_ (i := 31) (N := some 48) (v := ?_) (a' := ?_) bb2_32 rfl rfl (any_of HT_.out (by kernel_rfl)) (fun _ _ _ h => h) (Or.inl ⟨by rfl, ?_⟩) ?_ ?_
            rotate_left
            · intro w'; go_simp; with_reducible rfl
            rotate_left
            · simp only [qa_, qb_, qc_, qd_, i64_w, i32_w]; rfl
            refine pure_ (i := 32) (N := some 49) (v := ?_) (a' := ?_) bb2_33 rfl rfl (any_of HT_.out (by kernel_rfl)) (fun _ _ _ h => h) (Or.inl ⟨by rfl, ?_⟩) ?_ ?_
            rotate_left
            · intro w'; go_simp; with_reducible rfl
            rotate_left
            · simp only [qa_, qb_, qc_, qd_, i64_w, i32_w]; rfl
            refine take_ (i := 33) (N := some 50) (v := ?_) (a' := ?_) bb2_34 rfl rfl (take_ofW HT_.out HW_.out (by kernel_rfl)) (fun _ _ _ h => h) (Or.inl ⟨by rfl, ?_⟩) hHeld ?_ ?_
            rotate_left
            · rintro w' ⟨s0, s1, s2, s3, s4, s5, s6, s7, s8, s9, s10, s11, s12, s13, s14, s15, s16, s17, s18, s19, s20, s21, s22, s23, s24, s25, s26, s27, s28, s29, s30, s31, s32, s33, s34, s35, s36, s37, s38, s39, s40, s41, s42, s43, s44, s45, s46, s47, s48, s49⟩; go_simp; with_reducible rfl
            rotate_left
            · simp only [qa_, qb_, qc_, qd_, i64_w, i32_w]; rfl
            refine pure_ (i := 34) (N := some 51) (v := ?_) (a' := ?_) bb2_35 rfl rfl (any_of HT_.out (by kernel_rfl)) (fun _ _ _ h => h) (Or.inl ⟨by rfl, ?_⟩) ?_ ?_
            rotate_left
            · intro w'; go_simp; with_reducible rfl
            rotate_left
            · simp only [qa_, qb_, qc_, qd_, i64_w, i32_w]; rfl
            refine pure_ (i := 35) (N := some 52) (v := ?_) (a' := ?_) bb2_36 rfl rfl (any_of HT_.out (by kernel_rfl)) (fun _ _ _ h => h) (Or.inl ⟨by rfl, ?_⟩) ?_ ?_
            rotate_left
            · intro w'; go_simp; with_reducible rfl
            rotate_left
            · simp only [qa_, qb_, qc_, qd_, i64_w, i32_w]; rfl
            refine pure_ (i := 36) (N := some 53) (v := ?_) (a' := ?_) bb2_37 rfl rfl (any_of HT_.out (by kernel_rfl)) (fun _ _ _ h => h) (Or.inl ⟨by rfl, ?_⟩) ?_ ?_
            rotate_left
            · intro w'; go_simp; with_reducible rfl
            rotate_left
            · simp only [qa_, qb_, qc_, qd_, i64_w, i32_w]; rfl
            refine pure_ (i := 37) (N := some 54) (v := ?_) (a' := ?_) bb2_38 rfl rfl (any_of HT_.out (by kernel_rfl)) (fun _ _ _ h => h) (Or.inl ⟨by rfl, ?_⟩) ?_ ?_
            rotate_left
            · intro w'; go_simp; with_reducible rfl
            rotate_left
            · simp only [qa_, qb_, qc_, qd_, i64_w, i32_w]; rfl
            refine pure_ (i := 38) (N := some 55) (v := ?_) (a' := ?_) bb2_39 rfl rfl (any_of HT_.out (by kernel_rfl)) (fun _ _ _ h => h) (Or.inl ⟨by rfl, ?_⟩) ?_ ?_
            rotate_left
            · intro w'; go_simp; with_reducible rfl
            rotate_left
            · simp only [qa_, qb_, qc_, qd_, i64_w, i32_w]; rfl
            refine pure_ (i := 39) (N := some 56) (v := ?_) (a' := ?_) bb2_40 rfl rfl (any_of HT_.out (by kernel_rfl)) (fun _ _ _ h => h) (Or.inl ⟨by rfl, ?_⟩) ?_ ?_
            rotate_left
            · intro w'; go_simp; with_reducible rfl
            rotate_left
            · simp only [qa_, qb_, qc_, qd_, i64_w, i32_w]; rfl
            refine take_ (i := 40) (N := some 57) (v := ?_) (a' := ?_) bb2_41 rfl rfl (take_ofW HT_.out HW_.out (by kernel_rfl)) (fun _ _ _ h => h) (Or.inl ⟨by rfl, ?_⟩) hHeld ?_ ?_
            rotate_left
            · rintro w' ⟨s0, s1, s2, s3, s4, s5, s6, s7, s8, s9, s10, s11, s12, s13, s14, s15, s16, s17, s18, s19, s20, s21, s22, s23, s24, s25, s26, s27, s28, s29, s30, s31, s32, s33, s34, s35, s36, s37, s38, s39, s40, s41, s42, s43, s44, s45, s46, s47, s48, s49⟩; go_simp; with_reducible rfl
            rotate_left
            · simp only [qa_, qb_, qc_, qd_, i64_w, i32_w]; rfl
            refine pure_ (i := 41) (N := some 58) (v := ?_) (a' := ?_) bb2_42 rfl rfl (any_of HT_.out (by kernel_rfl)) (fun _ _ _ h => h) (Or.inl ⟨by rfl, ?_⟩) ?_ ?_
            rotate_left
            · intro w'; go_simp; with_reducible rfl
            rotate_left
            · simp only [qa_, qb_, qc_, qd_, i64_w, i32_w]; rfl
            refine pure_ (i := 42) (N := some 59) (v := ?_) (a' := ?_) bb2_43 rfl rfl (any_of HT_.out (by kernel_rfl)) (fun _ _ _ h => h) (Or.inl ⟨by rfl, ?_⟩) ?_ ?_
            rotate_left
            · intro w'; go_simp; with_reducible rfl
            rotate_left
            · simp only [qa_, qb_, qc_, qd_, i64_w, i32_w]; rfl
            refine pure_ (i := 43) (N := some 60) (v := ?_) (a' := ?_) bb2_44 rfl rfl (any_of HT_.out (by kernel_rfl)) (fun _ _ _ h => h) (Or.inl ⟨by rfl, ?_⟩) ?_ ?_
            rotate_left
            · intro w'; go_simp; with_reducible rfl
            rotate_left
            · simp only [qa_, qb_, qc_, qd_, i64_w, i32_w]; rfl
            refine pure_ (i := 44) (N := some 61) (v := undef) (a' := ?_) bb2_45 rfl rfl (any_of HT_.out (by kernel_rfl)) (fun _ _ _ h => h) (Or.inr ⟨by rfl, rfl⟩) ?_ ?_
            rotate_left
            · simp only [qa_, qb_, qc_, qd_, i64_w, i32_w]; rfl
            refine pure_ (i := 45) (N := some 62) (v := undef) (a' := ?_) bb2_46 rfl rfl (any_of HT_.out (by kernel_rfl)) (fun _ _ _ h => h) (Or.inr ⟨by rfl, rfl⟩) ?_ ?_
            rotate_left
            · simp only [qa_, qb_, qc_, qd_, i64_w, i32_w]; rfl
            refine pure_ (i := 46) (N := some 63) (v := undef) (a' := ?_) bb2_47 rfl rfl (any_of HT_.out (by kernel_rfl)) (fun _ _ _ h => h) (Or.inr ⟨by rfl, rfl⟩) ?_ ?_
            rotate_left
            · simp only [qa_, qb_, qc_, qd_, i64_w, i32_w]; rfl
            refine pure_ (i := 47) (N := some 64) (v := undef) (a' := ?_) bb2_48 rfl rfl (any_of HT_.out (by kernel_rfl)) (fun _ _ _ h => h) (Or.inr ⟨by rfl, rfl⟩) ?_ ?_
            rotate_left
            · simp only [qa_, qb_, qc_, qd_, i64_w, i32_w]; rfl
            refine pure_ (i := 48) (N := some 65) (v := undef) (a' := ?_) bb2_49 rfl rfl (any_of HT_.out (by kernel_rfl)) (fun _ _ _ h => h) (Or.inr ⟨by rfl, rfl⟩) ?_ ?_
            rotate_left
            · simp only [qa_, qb_, qc_, qd_, i64_w, i32_w]; rfl
            refine pure_ (i := 49) (N := some 66) (v := undef) (a' := ?_) bb2_50 rfl rfl (any_of HT_.out (by kernel_rfl)) (fun _ _ _ h => h) (Or.inr ⟨by rfl, rfl⟩) ?_ ?_
            rotate_left
            · simp only [qa_, qb_, qc_, qd_, i64_w, i32_w]; rfl
            refine pure_ (i := 50) (N := some 67) (v := undef) (a' := ?_) bb2_51 rfl rfl (any_of HT_.out (by kernel_rfl)) (fun _ _ _ h => h) (Or.inr ⟨by rfl, rfl⟩) ?_ ?_
            rotate_left
            · simp only [qa_, qb_, qc_, qd_, i64_w, i32_w]; rfl
            refine pure_ (i := 51) (N := some 68) (v := undef) (a' := ?_) bb2_52 rfl rfl (any_of HT_.out (by kernel_rfl)) (fun _ _ _ h => h) (Or.inr ⟨by rfl, rfl⟩) ?_ ?_
            rotate_left
            · simp only [qa_, qb_, qc_, qd_, i64_w, i32_w]; rfl
            refine pure_ (i := 52) (N := some 69) (v := undef) (a' := ?_) bb2_53 rfl rfl (any_of HT_.out (by kernel_rfl)) (fun _ _ _ h => h) (Or.inr ⟨by rfl, rfl⟩) ?_ ?_
            rotate_left
            · simp only [qa_, qb_, qc_, qd_, i64_w, i32_w]; rfl
            refine pure_ (i := 53) (N := some 70) (v := undef) (a' := ?_) bb2_54 rfl rfl (any_of HT_.out (by kernel_rfl)) (fun _ _ _ h => h) (Or.inr ⟨by rfl, rfl⟩) ?_ ?_
            rotate_left
            · simp only [qa_, qb_, qc_, qd_, i64_w, i32_w]; rfl
            refine pure_ (i := 54) (N := some 71) (v := undef) (a' := ?_) bb2_55 rfl rfl (any_of HT_.out (by kernel_rfl)) (fun _ _ _ h => h) (Or.inr ⟨by rfl, rfl⟩) ?_ ?_
            rotate_left
            · simp only [qa_, qb_, qc_, qd_, i64_w, i32_w]; rfl
            refine pure_ (i := 55) (N := some 72) (v := undef) (a' := ?_) bb2_56 rfl rfl (any_of HT_.out (by kernel_rfl)) (fun _ _ _ h => h) (Or.inr ⟨by rfl, rfl⟩) ?_ ?_
            rotate_left
            · simp only [qa_, qb_, qc_, qd_, i64_w, i32_w]; rfl
            refine pure_ (i := 56) (N := some 73) (v := ?_) (a' := ?_) bb2_57 rfl rfl (any_of HT_.out (by kernel_rfl)) (fun _ _ _ h => h) (Or.inl ⟨by rfl, ?_⟩) ?_ ?_
            rotate_left
            · intro w'; go_simp; with_reducible rfl
            rotate_left
            · simp only [qa_, qb_, qc_, qd_, i64_w, i32_w]; rfl
            refine pure_ (i := 57) (N := some 74) (v := ?_) (a' := ?_) bb2_58 rfl rfl (any_of HT_.out (by kernel_rfl)) (fun _ _ _ h => h) (Or.inl ⟨by rfl, ?_⟩) ?_ ?_
            rotate_left
            · intro w'; go_simp; with_reducible rfl
            rotate_left
            · simp only [qa_, qb_, qc_, qd_, i64_w, i32_w]; rfl
            refine pure_ (i := 58) (N := some 75) (v := ?_) (a' := ?_) bb2_59 rfl rfl (any_of HT_.out (by kernel_rfl)) (fun _ _ _ h => h) (Or.inl ⟨by rfl, ?_⟩) ?_ ?_
            rotate_left
            · intro w'; go_simp; with_reducible rfl
            rotate_left
            · simp only [qa_, qb_, qc_, qd_, i64_w, i32_w]; rfl
            refine done_ (done_of HT_.out (by kernel_rfl)) ?_
            try go_wp2
            go_meet
            case rel => exact ⟨_, (true), (by first | rfl | (simp; done) | (simp [*]; done)), H', ⟨by have := HK1.out; first | omega | exact Nat.le_refl _⟩, ⟨by (with_reducible repeat (first | apply Kd.R_alloc | apply Kd.R_drewN | apply Kd.R_drew)); exact HO_5.out⟩, ⟨by (with_reducible repeat (first | refine blk_drewN ?_ _ | refine blk_drew ?_ | refine blk_alloc ?_ _)); exact BK331.out⟩, ⟨by repeat (first | (with_reducible first | exact HB.out | apply below_alloc | apply pw_below_drewN | apply below_drew1 | refine below_set ?_ GE331.out) | exact HB.out)⟩⟩
           ·
            rw [if_neg c18] at H
            have c18b0 : (((rd_T25 t332 x6_1).f5) == 0) = false := beq_eq_false_iff_ne.mpr c18
            have c18b1 : (((rd_T25 t332 x6_1).f5) != 0) = true := bne_iff_ne.mpr c18
            obtain ⟨ji21, hji21⟩ : ∃ j_ : Int, (wrap64 (x6_1 - 1)) = j_ := ⟨_, rfl⟩
            replace H : (if 0 ≤ (ji21) then (if (ji21) < (t332.length : Int) then (cleatlaw06_AluLoads.j1 k1 a0 t332 x6_1 (decide (((rd_T25 t332 x6_1).f8) ≤ ((rd_T25 t332 (ji21)).f8))) a1_0 a1_1 a1_2 a1_3) else (none)) else (none)) = some r := by first | (rw [hji21] at H; exact H) | (simp only [hji21] at H ⊢; exact H)
            (try rw [hji21] at A10)
            have hji21w : (IntKind.i64.wrap (x6_1 - 1)) = ji21 := (i64_w _).trans hji21
            by_cases c22 : 0 ≤ (ji21)
            ·
             rw [if_pos c22] at H
             have c22b0 : decide (0 ≤ (ji21)) = true := decide_eq_true c22
             clear c22
             by_cases c23 : (ji21) < (t332.length : Int)
             ·
              rw [if_pos c23] at H
              have c23b0 : decide ((ji21) < (t332.length : Int)) = true := decide_eq_true c23
              clear c23
              have H' := Aside0.mk H
              clear H
              try go_wp2
              have n0_ := Aside0.mk (Kd.R_drew HO_5.out)
              have n1_ := Aside0.mk (blk_drew BK331.out)
              have n2_ := Aside0.mk (below_drew1 HB.out)
              clear HO_5
              clear BK331
              clear HB
              have HO_5 := n0_
              have BK331 := n1_
              have HB := n2_
              clear n0_ n1_ n2_
              have p335 : 0 ≤ (x6_1 : Int) := of_decide_eq_true (by first | (with_reducible assumption) | assumption)
              have q335 : x6_1 < (t332.length : Int) := of_decide_eq_true (by first | (with_reducible assumption) | assumption)
              obtain ⟨ad335, e335, hx335_0, hx335_1, hx335_2, hx335_3, hx335_4, hx335_5, hx335_6, hx335_7, hx335_8, hx335_9⟩ := at_T25 (Kd.R_reads' HO_5.out).2.2 x6_1 p335 q335
              cases e335
              replace p335 := eq_true p335
              replace q335 := eq_true q335
              have p337 : 0 ≤ (x6_1 : Int) := of_decide_eq_true (by first | (with_reducible assumption) | assumption)
              have q337 : x6_1 < (t332.length : Int) := of_decide_eq_true (by first | (with_reducible assumption) | assumption)
              obtain ⟨ad337, e337, hx337_0, hx337_1, hx337_2, hx337_3, hx337_4, hx337_5, hx337_6, hx337_7, hx337_8, hx337_9⟩ := at_T25 (Kd.R_reads' HO_5.out).2.2 x6_1 p337 q337
              obtain rfl : ad335 = ad337 := (by injection e337)
              replace p337 := eq_true p337
              replace q337 := eq_true q337
              have p338 : 0 ≤ (x6_1 : Int) := of_decide_eq_true (by first | (with_reducible assumption) | assumption)
              have q338 : x6_1 < (t332.length : Int) := of_decide_eq_true (by first | (with_reducible assumption) | assumption)
              obtain ⟨ad338, e338, hx338_0, hx338_1, hx338_2, hx338_3, hx338_4, hx338_5, hx338_6, hx338_7, hx338_8, hx338_9⟩ := at_T25 (Kd.R_reads' HO_5.out).2.2 x6_1 p338 q338
              obtain rfl : ad335 = ad338 := (by injection e338)
              replace p338 := eq_true p338
              replace q338 := eq_true q338
              have p339 : 0 ≤ (x6_1 : Int) := of_decide_eq_true (by first | (with_reducible assumption) | assumption)
              have q339 : x6_1 < (t332.length : Int) := of_decide_eq_true (by first | (with_reducible assumption) | assumption)
              obtain ⟨ad339, e339, hx339_0, hx339_1, hx339_2, hx339_3, hx339_4, hx339_5, hx339_6, hx339_7, hx339_8, hx339_9⟩ := at_T25 (Kd.R_reads' HO_5.out).2.2 x6_1 p339 q339
              obtain rfl : ad335 = ad339 := (by injection e339)
              replace p339 := eq_true p339
              replace q339 := eq_true q339
              have p340 : 0 ≤ (x6_1 : Int) := of_decide_eq_true (by first | (with_reducible assumption) | assumption)
              have q340 : x6_1 < (t332.length : Int) := of_decide_eq_true (by first | (with_reducible assumption) | assumption)
              obtain ⟨ad340, e340, hx340_0, hx340_1, hx340_2, hx340_3, hx340_4, hx340_5, hx340_6, hx340_7, hx340_8, hx340_9⟩ := at_T25 (Kd.R_reads' HO_5.out).2.2 x6_1 p340 q340
              obtain rfl : ad335 = ad340 := (by injection e340)
              replace p340 := eq_true p340
              replace q340 := eq_true q340
              have p341 : 0 ≤ (x6_1 : Int) := of_decide_eq_true (by first | (with_reducible assumption) | assumption)
              have q341 : x6_1 < (t332.length : Int) := of_decide_eq_true (by first | (with_reducible assumption) | assumption)
              obtain ⟨ad341, e341, hx341_0, hx341_1, hx341_2, hx341_3, hx341_4, hx341_5, hx341_6, hx341_7, hx341_8, hx341_9⟩ := at_T25 (Kd.R_reads' HO_5.out).2.2 x6_1 p341 q341
              obtain rfl : ad335 = ad341 := (by injection e341)
              replace p341 := eq_true p341
              replace q341 := eq_true q341
              have p342 : 0 ≤ ((ji21) : Int) := of_decide_eq_true (by first | (with_reducible assumption) | assumption)
              have q342 : (ji21) < (t332.length : Int) := of_decide_eq_true (by first | (with_reducible assumption) | assumption)
              obtain ⟨ad342, e342, hx342_0, hx342_1, hx342_2, hx342_3, hx342_4, hx342_5, hx342_6, hx342_7, hx342_8, hx342_9⟩ := at_T25 (Kd.R_reads' HO_5.out).2.2 (ji21) p342 q342
              obtain rfl : ad335 = ad342 := (by injection e342)
              replace p342 := eq_true p342
              replace q342 := eq_true q342
              refine start_ (n := 59) (S := fun w' => w'.cell? (ad335.add ((x6_1).toNat * 10)) = some (.int .i64 ((rd_T25 t332 x6_1).f0)) ∧ w'.cell? ⟨(ad335.add ((x6_1).toNat * 10)).block, (ad335.add ((x6_1).toNat * 10)).off + 1, none⟩ = some (.int .i64 ((rd_T25 t332 x6_1).f1)) ∧ w'.cell? ⟨(ad335.add ((x6_1).toNat * 10)).block, (ad335.add ((x6_1).toNat * 10)).off + 2, none⟩ = some (.int .i64 ((rd_T25 t332 x6_1).f2)) ∧ w'.cell? ⟨(ad335.add ((x6_1).toNat * 10)).block, (ad335.add ((x6_1).toNat * 10)).off + 3, none⟩ = some (.int .i64 ((rd_T25 t332 x6_1).f3)) ∧ w'.cell? ⟨(ad335.add ((x6_1).toNat * 10)).block, (ad335.add ((x6_1).toNat * 10)).off + 4, none⟩ = some (.int .i64 ((rd_T25 t332 x6_1).f4)) ∧ w'.cell? ⟨(ad335.add ((x6_1).toNat * 10)).block, (ad335.add ((x6_1).toNat * 10)).off + 5, none⟩ = some (.int .i64 ((rd_T25 t332 x6_1).f5)) ∧ w'.cell? ⟨(ad335.add ((x6_1).toNat * 10)).block, (ad335.add ((x6_1).toNat * 10)).off + 6, none⟩ = some (.int .u64 ((rd_T25 t332 x6_1).f6)) ∧ w'.cell? ⟨(ad335.add ((x6_1).toNat * 10)).block, (ad335.add ((x6_1).toNat * 10)).off + 7, none⟩ = some (.int .i64 ((rd_T25 t332 x6_1).f7)) ∧ w'.cell? ⟨(ad335.add ((x6_1).toNat * 10)).block, (ad335.add ((x6_1).toNat * 10)).off + 8, none⟩ = some (.int .i64 ((rd_T25 t332 x6_1).f8)) ∧ w'.cell? ⟨(ad335.add ((x6_1).toNat * 10)).block, (ad335.add ((x6_1).toNat * 10)).off + 9, none⟩ = some (.int .i64 ((rd_T25 t332 x6_1).f9)) ∧ w'.cell? (ad335.add ((x6_1).toNat * 10)) = some (.int .i64 ((rd_T25 t332 x6_1).f0)) ∧ w'.cell? ⟨(ad335.add ((x6_1).toNat * 10)).block, (ad335.add ((x6_1).toNat * 10)).off + 1, none⟩ = some (.int .i64 ((rd_T25 t332 x6_1).f1)) ∧ w'.cell? ⟨(ad335.add ((x6_1).toNat * 10)).block, (ad335.add ((x6_1).toNat * 10)).off + 2, none⟩ = some (.int .i64 ((rd_T25 t332 x6_1).f2)) ∧ w'.cell? ⟨(ad335.add ((x6_1).toNat * 10)).block, (ad335.add ((x6_1).toNat * 10)).off + 3, none⟩ = some (.int .i64 ((rd_T25 t332 x6_1).f3)) ∧ w'.cell? ⟨(ad335.add ((x6_1).toNat * 10)).block, (ad335.add ((x6_1).toNat * 10)).off + 4, none⟩ = some (.int .i64 ((rd_T25 t332 x6_1).f4)) ∧ w'.cell? ⟨(ad335.add ((x6_1).toNat * 10)).block, (ad335.add ((x6_1).toNat * 10)).off + 5, none⟩ = some (.int .i64 ((rd_T25 t332 x6_1).f5)) ∧ w'.cell? ⟨(ad335.add ((x6_1).toNat * 10)).block, (ad335.add ((x6_1).toNat * 10)).off + 6, none⟩ = some (.int .u64 ((rd_T25 t332 x6_1).f6)) ∧ w'.cell? ⟨(ad335.add ((x6_1).toNat * 10)).block, (ad335.add ((x6_1).toNat * 10)).off + 7, none⟩ = some (.int .i64 ((rd_T25 t332 x6_1).f7)) ∧ w'.cell? ⟨(ad335.add ((x6_1).toNat * 10)).block, (ad335.add ((x6_1).toNat * 10)).off + 8, none⟩ = some (.int .i64 ((rd_T25 t332 x6_1).f8)) ∧ w'.cell? ⟨(ad335.add ((x6_1).toNat * 10)).block, (ad335.add ((x6_1).toNat * 10)).off + 9, none⟩ = some (.int .i64 ((rd_T25 t332 x6_1).f9)) ∧ w'.cell? (ad335.add ((x6_1).toNat * 10)) = some (.int .i64 ((rd_T25 t332 x6_1).f0)) ∧ w'.cell? ⟨(ad335.add ((x6_1).toNat * 10)).block, (ad335.add ((x6_1).toNat * 10)).off + 1, none⟩ = some (.int .i64 ((rd_T25 t332 x6_1).f1)) ∧ w'.cell? ⟨(ad335.add ((x6_1).toNat * 10)).block, (ad335.add ((x6_1).toNat * 10)).off + 2, none⟩ = some (.int .i64 ((rd_T25 t332 x6_1).f2)) ∧ w'.cell? ⟨(ad335.add ((x6_1).toNat * 10)).block, (ad335.add ((x6_1).toNat * 10)).off + 3, none⟩ = some (.int .i64 ((rd_T25 t332 x6_1).f3)) ∧ w'.cell? ⟨(ad335.add ((x6_1).toNat * 10)).block, (ad335.add ((x6_1).toNat * 10)).off + 4, none⟩ = some (.int .i64 ((rd_T25 t332 x6_1).f4)) ∧ w'.cell? ⟨(ad335.add ((x6_1).toNat * 10)).block, (ad335.add ((x6_1).toNat * 10)).off + 5, none⟩ = some (.int .i64 ((rd_T25 t332 x6_1).f5)) ∧ w'.cell? ⟨(ad335.add ((x6_1).toNat * 10)).block, (ad335.add ((x6_1).toNat * 10)).off + 6, none⟩ = some (.int .u64 ((rd_T25 t332 x6_1).f6)) ∧ w'.cell? ⟨(ad335.add ((x6_1).toNat * 10)).block, (ad335.add ((x6_1).toNat * 10)).off + 7, none⟩ = some (.int .i64 ((rd_T25 t332 x6_1).f7)) ∧ w'.cell? ⟨(ad335.add ((x6_1).toNat * 10)).block, (ad335.add ((x6_1).toNat * 10)).off + 8, none⟩ = some (.int .i64 ((rd_T25 t332 x6_1).f8)) ∧ w'.cell? ⟨(ad335.add ((x6_1).toNat * 10)).block, (ad335.add ((x6_1).toNat * 10)).off + 9, none⟩ = some (.int .i64 ((rd_T25 t332 x6_1).f9)) ∧ w'.cell? (ad335.add ((x6_1).toNat * 10)) = some (.int .i64 ((rd_T25 t332 x6_1).f0)) ∧ w'.cell? ⟨(ad335.add ((x6_1).toNat * 10)).block, (ad335.add ((x6_1).toNat * 10)).off + 1, none⟩ = some (.int .i64 ((rd_T25 t332 x6_1).f1)) ∧ w'.cell? ⟨(ad335.add ((x6_1).toNat * 10)).block, (ad335.add ((x6_1).toNat * 10)).off + 2, none⟩ = some (.int .i64 ((rd_T25 t332 x6_1).f2)) ∧ w'.cell? ⟨(ad335.add ((x6_1).toNat * 10)).block, (ad335.add ((x6_1).toNat * 10)).off + 3, none⟩ = some (.int .i64 ((rd_T25 t332 x6_1).f3)) ∧ w'.cell? ⟨(ad335.add ((x6_1).toNat * 10)).block, (ad335.add ((x6_1).toNat * 10)).off + 4, none⟩ = some (.int .i64 ((rd_T25 t332 x6_1).f4)) ∧ w'.cell? ⟨(ad335.add ((x6_1).toNat * 10)).block, (ad335.add ((x6_1).toNat * 10)).off + 5, none⟩ = some (.int .i64 ((rd_T25 t332 x6_1).f5)) ∧ w'.cell? ⟨(ad335.add ((x6_1).toNat * 10)).block, (ad335.add ((x6_1).toNat * 10)).off + 6, none⟩ = some (.int .u64 ((rd_T25 t332 x6_1).f6)) ∧ w'.cell? ⟨(ad335.add ((x6_1).toNat * 10)).block, (ad335.add ((x6_1).toNat * 10)).off + 7, none⟩ = some (.int .i64 ((rd_T25 t332 x6_1).f7)) ∧ w'.cell? ⟨(ad335.add ((x6_1).toNat * 10)).block, (ad335.add ((x6_1).toNat * 10)).off + 8, none⟩ = some (.int .i64 ((rd_T25 t332 x6_1).f8)) ∧ w'.cell? ⟨(ad335.add ((x6_1).toNat * 10)).block, (ad335.add ((x6_1).toNat * 10)).off + 9, none⟩ = some (.int .i64 ((rd_T25 t332 x6_1).f9)) ∧ w'.cell? (ad335.add ((x6_1).toNat * 10)) = some (.int .i64 ((rd_T25 t332 x6_1).f0)) ∧ w'.cell? ⟨(ad335.add ((x6_1).toNat * 10)).block, (ad335.add ((x6_1).toNat * 10)).off + 1, none⟩ = some (.int .i64 ((rd_T25 t332 x6_1).f1)) ∧ w'.cell? ⟨(ad335.add ((x6_1).toNat * 10)).block, (ad335.add ((x6_1).toNat * 10)).off + 2, none⟩ = some (.int .i64 ((rd_T25 t332 x6_1).f2)) ∧ w'.cell? ⟨(ad335.add ((x6_1).toNat * 10)).block, (ad335.add ((x6_1).toNat * 10)).off + 3, none⟩ = some (.int .i64 ((rd_T25 t332 x6_1).f3)) ∧ w'.cell? ⟨(ad335.add ((x6_1).toNat * 10)).block, (ad335.add ((x6_1).toNat * 10)).off + 4, none⟩ = some (.int .i64 ((rd_T25 t332 x6_1).f4)) ∧ w'.cell? ⟨(ad335.add ((x6_1).toNat * 10)).block, (ad335.add ((x6_1).toNat * 10)).off + 5, none⟩ = some (.int .i64 ((rd_T25 t332 x6_1).f5)) ∧ w'.cell? ⟨(ad335.add ((x6_1).toNat * 10)).block, (ad335.add ((x6_1).toNat * 10)).off + 6, none⟩ = some (.int .u64 ((rd_T25 t332 x6_1).f6)) ∧ w'.cell? ⟨(ad335.add ((x6_1).toNat * 10)).block, (ad335.add ((x6_1).toNat * 10)).off + 7, none⟩ = some (.int .i64 ((rd_T25 t332 x6_1).f7)) ∧ w'.cell? ⟨(ad335.add ((x6_1).toNat * 10)).block, (ad335.add ((x6_1).toNat * 10)).off + 8, none⟩ = some (.int .i64 ((rd_T25 t332 x6_1).f8)) ∧ w'.cell? ⟨(ad335.add ((x6_1).toNat * 10)).block, (ad335.add ((x6_1).toNat * 10)).off + 9, none⟩ = some (.int .i64 ((rd_T25 t332 x6_1).f9)) ∧ w'.cell? (ad335.add ((x6_1).toNat * 10)) = some (.int .i64 ((rd_T25 t332 x6_1).f0)) ∧ w'.cell? ⟨(ad335.add ((x6_1).toNat * 10)).block, (ad335.add ((x6_1).toNat * 10)).off + 1, none⟩ = some (.int .i64 ((rd_T25 t332 x6_1).f1)) ∧ w'.cell? ⟨(ad335.add ((x6_1).toNat * 10)).block, (ad335.add ((x6_1).toNat * 10)).off + 2, none⟩ = some (.int .i64 ((rd_T25 t332 x6_1).f2)) ∧ w'.cell? ⟨(ad335.add ((x6_1).toNat * 10)).block, (ad335.add ((x6_1).toNat * 10)).off + 3, none⟩ = some (.int .i64 ((rd_T25 t332 x6_1).f3)) ∧ w'.cell? ⟨(ad335.add ((x6_1).toNat * 10)).block, (ad335.add ((x6_1).toNat * 10)).off + 4, none⟩ = some (.int .i64 ((rd_T25 t332 x6_1).f4)) ∧ w'.cell? ⟨(ad335.add ((x6_1).toNat * 10)).block, (ad335.add ((x6_1).toNat * 10)).off + 5, none⟩ = some (.int .i64 ((rd_T25 t332 x6_1).f5)) ∧ w'.cell? ⟨(ad335.add ((x6_1).toNat * 10)).block, (ad335.add ((x6_1).toNat * 10)).off + 6, none⟩ = some (.int .u64 ((rd_T25 t332 x6_1).f6)) ∧ w'.cell? ⟨(ad335.add ((x6_1).toNat * 10)).block, (ad335.add ((x6_1).toNat * 10)).off + 7, none⟩ = some (.int .i64 ((rd_T25 t332 x6_1).f7)) ∧ w'.cell? ⟨(ad335.add ((x6_1).toNat * 10)).block, (ad335.add ((x6_1).toNat * 10)).off + 8, none⟩ = some (.int .i64 ((rd_T25 t332 x6_1).f8)) ∧ w'.cell? ⟨(ad335.add ((x6_1).toNat * 10)).block, (ad335.add ((x6_1).toNat * 10)).off + 9, none⟩ = some (.int .i64 ((rd_T25 t332 x6_1).f9)) ∧ w'.cell? (ad335.add (((ji21)).toNat * 10)) = some (.int .i64 ((rd_T25 t332 (ji21)).f0)) ∧ w'.cell? ⟨(ad335.add (((ji21)).toNat * 10)).block, (ad335.add (((ji21)).toNat * 10)).off + 1, none⟩ = some (.int .i64 ((rd_T25 t332 (ji21)).f1)) ∧ w'.cell? ⟨(ad335.add (((ji21)).toNat * 10)).block, (ad335.add (((ji21)).toNat * 10)).off + 2, none⟩ = some (.int .i64 ((rd_T25 t332 (ji21)).f2)) ∧ w'.cell? ⟨(ad335.add (((ji21)).toNat * 10)).block, (ad335.add (((ji21)).toNat * 10)).off + 3, none⟩ = some (.int .i64 ((rd_T25 t332 (ji21)).f3)) ∧ w'.cell? ⟨(ad335.add (((ji21)).toNat * 10)).block, (ad335.add (((ji21)).toNat * 10)).off + 4, none⟩ = some (.int .i64 ((rd_T25 t332 (ji21)).f4)) ∧ w'.cell? ⟨(ad335.add (((ji21)).toNat * 10)).block, (ad335.add (((ji21)).toNat * 10)).off + 5, none⟩ = some (.int .i64 ((rd_T25 t332 (ji21)).f5)) ∧ w'.cell? ⟨(ad335.add (((ji21)).toNat * 10)).block, (ad335.add (((ji21)).toNat * 10)).off + 6, none⟩ = some (.int .u64 ((rd_T25 t332 (ji21)).f6)) ∧ w'.cell? ⟨(ad335.add (((ji21)).toNat * 10)).block, (ad335.add (((ji21)).toNat * 10)).off + 7, none⟩ = some (.int .i64 ((rd_T25 t332 (ji21)).f7)) ∧ w'.cell? ⟨(ad335.add (((ji21)).toNat * 10)).block, (ad335.add (((ji21)).toNat * 10)).off + 8, none⟩ = some (.int .i64 ((rd_T25 t332 (ji21)).f8)) ∧ w'.cell? ⟨(ad335.add (((ji21)).toNat * 10)).block, (ad335.add (((ji21)).toNat * 10)).off + 9, none⟩ = some (.int .i64 ((rd_T25 t332 (ji21)).f9))) (ds := []) bb2_0 (by kernel_rfl) rfl rfl ⟨hx335_0, hx335_1, hx335_2, hx335_3, hx335_4, hx335_5, hx335_6, hx335_7, hx335_8, hx335_9, hx337_0, hx337_1, hx337_2, hx337_3, hx337_4, hx337_5, hx337_6, hx337_7, hx337_8, hx337_9, hx338_0, hx338_1, hx338_2, hx338_3, hx338_4, hx338_5, hx338_6, hx338_7, hx338_8, hx338_9, hx339_0, hx339_1, hx339_2, hx339_3, hx339_4, hx339_5, hx339_6, hx339_7, hx339_8, hx339_9, hx340_0, hx340_1, hx340_2, hx340_3, hx340_4, hx340_5, hx340_6, hx340_7, hx340_8, hx340_9, hx341_0, hx341_1, hx341_2, hx341_3, hx341_4, hx341_5, hx341_6, hx341_7, hx341_8, hx341_9, hx342_0, hx342_1, hx342_2, hx342_3, hx342_4, hx342_5, hx342_6, hx342_7, hx342_8, hx342_9⟩ (fun hHeld => ?_); refine with_tabW cleatlaw06_AluLoads.tab5 cleatlaw06_AluLoads.bits5 (fun HT_ HW_ => ?_)
              generalize wr.drew = w24 at HO_5 BK331 HB hx335_0 hx335_1 hx335_2 hx335_3 hx335_4 hx335_5 hx335_6 hx335_7 hx335_8 hx335_9 hx337_0 hx337_1 hx337_2 hx337_3 hx337_4 hx337_5 hx337_6 hx337_7 hx337_8 hx337_9 hx338_0 hx338_1 hx338_2 hx338_3 hx338_4 hx338_5 hx338_6 hx338_7 hx338_8 hx338_9 hx339_0 hx339_1 hx339_2 hx339_3 hx339_4 hx339_5 hx339_6 hx339_7 hx339_8 hx339_9 hx340_0 hx340_1 hx340_2 hx340_3 hx340_4 hx340_5 hx340_6 hx340_7 hx340_8 hx340_9 hx341_0 hx341_1 hx341_2 hx341_3 hx341_4 hx341_5 hx341_6 hx341_7 hx341_8 hx341_9 hx342_0 hx342_1 hx342_2 hx342_3 hx342_4 hx342_5 hx342_6 hx342_7 hx342_8 hx342_9 hHeld ⊢
              refine pure_ (i := 0) (N := some 17) (v := ?_) (a' := ?_) bb2_1 rfl rfl (any_of HT_.out (by kernel_rfl)) (fun _ _ _ h => h) (Or.inl ⟨by rfl, ?_⟩) ?_ ?_
              rotate_left
              · intro w'; go_simp; with_reducible rfl
              rotate_left
              · simp only [qa_, qb_, qc_, qd_, i64_w, i32_w]; rfl
              refine pure_ (i := 1) (N := some 18) (v := ?_) (a' := ?_) bb2_2 rfl rfl (any_of HT_.out (by kernel_rfl)) (fun _ _ _ h => h) (Or.inl ⟨by rfl, ?_⟩) ?_ ?_
              rotate_left
              · intro w'; go_simp; with_reducible rfl
              rotate_left
              · simp only [qa_, qb_, qc_, qd_, i64_w, i32_w]; rfl
              refine pure_ (i := 2) (N := some 19) (v := ?_) (a' := ?_) bb2_3 rfl rfl (any_of HT_.out (by kernel_rfl)) (fun _ _ _ h => h) (Or.inl ⟨by rfl, ?_⟩) ?_ ?_
              rotate_left
              · intro w'; go_simp; with_reducible rfl
              rotate_left
              · simp only [qa_, qb_, qc_, qd_, i64_w, i32_w]; rfl
              refine take_ (i := 3) (N := some 20) (v := ?_) (a' := ?_) bb2_4 rfl rfl (take_ofW HT_.out HW_.out (by kernel_rfl)) (fun _ _ _ h => h) (Or.inl ⟨by rfl, ?_⟩) hHeld ?_ ?_
              rotate_left
              · rintro w' ⟨s0, s1, s2, s3, s4, s5, s6, s7, s8, s9, s10, s11, s12, s13, s14, s15, s16, s17, s18, s19, s20, s21, s22, s23, s24, s25, s26, s27, s28, s29, s30, s31, s32, s33, s34, s35, s36, s37, s38, s39, s40, s41, s42, s43, s44, s45, s46, s47, s48, s49, s50, s51, s52, s53, s54, s55, s56, s57, s58, s59, s60, s61, s62, s63, s64, s65, s66, s67, s68, s69⟩; go_simp; with_reducible rfl
              rotate_left
              · simp only [qa_, qb_, qc_, qd_, i64_w, i32_w]; rfl
              refine one_ (i := 4) (N := some 21) bb2_5 rfl rfl (one_of HT_.out (by kernel_rfl)) (by decide) (fun K hK => ?_)
              refine goes_ Tryd.func16 (by kernel_rfl) rfl #[.agg #[.int .i64 ((rd_T25 t332 x6_1).f0), .int .i64 ((rd_T25 t332 x6_1).f1), .int .i64 ((rd_T25 t332 x6_1).f2), .int .i64 ((rd_T25 t332 x6_1).f3), .int .i64 ((rd_T25 t332 x6_1).f4), .int .i64 ((rd_T25 t332 x6_1).f5), .int .u64 ((rd_T25 t332 x6_1).f6), .int .i64 ((rd_T25 t332 x6_1).f7), .int .i64 ((rd_T25 t332 x6_1).f8), .int .i64 ((rd_T25 t332 x6_1).f9)]] (by rfl) rfl rfl (by (try simp only [List.map_toArray, List.map_cons, List.map_nil]); first | done | rfl | (simp only [List.length_drop, List.length_take]; rfl)) ?_
              with_reducible refine (inst_Is.calls k1 ((rd_T25 t332 x6_1).f0) ((rd_T25 t332 x6_1).f1) ((rd_T25 t332 x6_1).f2) ((rd_T25 t332 x6_1).f3) ((rd_T25 t332 x6_1).f4) ((rd_T25 t332 x6_1).f5) ((rd_T25 t332 x6_1).f6) ((rd_T25 t332 x6_1).f7) ((rd_T25 t332 x6_1).f8) ((rd_T25 t332 x6_1).f9) true _ A10.out).mono ?_
              rintro e w25 ⟨rfl, hb⟩
              have HS0_ := pw_cell_below hb hHeld.1
              have HS1_ := pw_cell_below hb hHeld.2.1
              have HS2_ := pw_cell_below hb hHeld.2.2.1
              have HS3_ := pw_cell_below hb hHeld.2.2.2.1
              have HS4_ := pw_cell_below hb hHeld.2.2.2.2.1
              have HS5_ := pw_cell_below hb hHeld.2.2.2.2.2.1
              have HS6_ := pw_cell_below hb hHeld.2.2.2.2.2.2.1
              have HS7_ := pw_cell_below hb hHeld.2.2.2.2.2.2.2.1
              have HS8_ := pw_cell_below hb hHeld.2.2.2.2.2.2.2.2.1
              have HS9_ := pw_cell_below hb hHeld.2.2.2.2.2.2.2.2.2.1
              have HS10_ := pw_cell_below hb hHeld.2.2.2.2.2.2.2.2.2.2.1
              have HS11_ := pw_cell_below hb hHeld.2.2.2.2.2.2.2.2.2.2.2.1
              have HS12_ := pw_cell_below hb hHeld.2.2.2.2.2.2.2.2.2.2.2.2.1
              have HS13_ := pw_cell_below hb hHeld.2.2.2.2.2.2.2.2.2.2.2.2.2.1
              have HS14_ := pw_cell_below hb hHeld.2.2.2.2.2.2.2.2.2.2.2.2.2.2.1
              have HS15_ := pw_cell_below hb hHeld.2.2.2.2.2.2.2.2.2.2.2.2.2.2.2.1
              have HS16_ := pw_cell_below hb hHeld.2.2.2.2.2.2.2.2.2.2.2.2.2.2.2.2.1
              have HS17_ := pw_cell_below hb hHeld.2.2.2.2.2.2.2.2.2.2.2.2.2.2.2.2.2.1
              have HS18_ := pw_cell_below hb hHeld.2.2.2.2.2.2.2.2.2.2.2.2.2.2.2.2.2.2.1
              have HS19_ := pw_cell_below hb hHeld.2.2.2.2.2.2.2.2.2.2.2.2.2.2.2.2.2.2.2.1
              have HS20_ := pw_cell_below hb hHeld.2.2.2.2.2.2.2.2.2.2.2.2.2.2.2.2.2.2.2.2.1
              have HS21_ := pw_cell_below hb hHeld.2.2.2.2.2.2.2.2.2.2.2.2.2.2.2.2.2.2.2.2.2.1
              have HS22_ := pw_cell_below hb hHeld.2.2.2.2.2.2.2.2.2.2.2.2.2.2.2.2.2.2.2.2.2.2.1
              have HS23_ := pw_cell_below hb hHeld.2.2.2.2.2.2.2.2.2.2.2.2.2.2.2.2.2.2.2.2.2.2.2.1
              have HS24_ := pw_cell_below hb hHeld.2.2.2.2.2.2.2.2.2.2.2.2.2.2.2.2.2.2.2.2.2.2.2.2.1
              have HS25_ := pw_cell_below hb hHeld.2.2.2.2.2.2.2.2.2.2.2.2.2.2.2.2.2.2.2.2.2.2.2.2.2.1
              have HS26_ := pw_cell_below hb hHeld.2.2.2.2.2.2.2.2.2.2.2.2.2.2.2.2.2.2.2.2.2.2.2.2.2.2.1
              have HS27_ := pw_cell_below hb hHeld.2.2.2.2.2.2.2.2.2.2.2.2.2.2.2.2.2.2.2.2.2.2.2.2.2.2.2.1
              have HS28_ := pw_cell_below hb hHeld.2.2.2.2.2.2.2.2.2.2.2.2.2.2.2.2.2.2.2.2.2.2.2.2.2.2.2.2.1
              have HS29_ := pw_cell_below hb hHeld.2.2.2.2.2.2.2.2.2.2.2.2.2.2.2.2.2.2.2.2.2.2.2.2.2.2.2.2.2.1
              have HS30_ := pw_cell_below hb hHeld.2.2.2.2.2.2.2.2.2.2.2.2.2.2.2.2.2.2.2.2.2.2.2.2.2.2.2.2.2.2.1
              have HS31_ := pw_cell_below hb hHeld.2.2.2.2.2.2.2.2.2.2.2.2.2.2.2.2.2.2.2.2.2.2.2.2.2.2.2.2.2.2.2.1
              have HS32_ := pw_cell_below hb hHeld.2.2.2.2.2.2.2.2.2.2.2.2.2.2.2.2.2.2.2.2.2.2.2.2.2.2.2.2.2.2.2.2.1
              have HS33_ := pw_cell_below hb hHeld.2.2.2.2.2.2.2.2.2.2.2.2.2.2.2.2.2.2.2.2.2.2.2.2.2.2.2.2.2.2.2.2.2.1
              have HS34_ := pw_cell_below hb hHeld.2.2.2.2.2.2.2.2.2.2.2.2.2.2.2.2.2.2.2.2.2.2.2.2.2.2.2.2.2.2.2.2.2.2.1
              have HS35_ := pw_cell_below hb hHeld.2.2.2.2.2.2.2.2.2.2.2.2.2.2.2.2.2.2.2.2.2.2.2.2.2.2.2.2.2.2.2.2.2.2.2.1
              have HS36_ := pw_cell_below hb hHeld.2.2.2.2.2.2.2.2.2.2.2.2.2.2.2.2.2.2.2.2.2.2.2.2.2.2.2.2.2.2.2.2.2.2.2.2.1
              have HS37_ := pw_cell_below hb hHeld.2.2.2.2.2.2.2.2.2.2.2.2.2.2.2.2.2.2.2.2.2.2.2.2.2.2.2.2.2.2.2.2.2.2.2.2.2.1
              have HS38_ := pw_cell_below hb hHeld.2.2.2.2.2.2.2.2.2.2.2.2.2.2.2.2.2.2.2.2.2.2.2.2.2.2.2.2.2.2.2.2.2.2.2.2.2.2.1
              have HS39_ := pw_cell_below hb hHeld.2.2.2.2.2.2.2.2.2.2.2.2.2.2.2.2.2.2.2.2.2.2.2.2.2.2.2.2.2.2.2.2.2.2.2.2.2.2.2.1
              have HS40_ := pw_cell_below hb hHeld.2.2.2.2.2.2.2.2.2.2.2.2.2.2.2.2.2.2.2.2.2.2.2.2.2.2.2.2.2.2.2.2.2.2.2.2.2.2.2.2.1
              have HS41_ := pw_cell_below hb hHeld.2.2.2.2.2.2.2.2.2.2.2.2.2.2.2.2.2.2.2.2.2.2.2.2.2.2.2.2.2.2.2.2.2.2.2.2.2.2.2.2.2.1
              have HS42_ := pw_cell_below hb hHeld.2.2.2.2.2.2.2.2.2.2.2.2.2.2.2.2.2.2.2.2.2.2.2.2.2.2.2.2.2.2.2.2.2.2.2.2.2.2.2.2.2.2.1
              have HS43_ := pw_cell_below hb hHeld.2.2.2.2.2.2.2.2.2.2.2.2.2.2.2.2.2.2.2.2.2.2.2.2.2.2.2.2.2.2.2.2.2.2.2.2.2.2.2.2.2.2.2.1
              have HS44_ := pw_cell_below hb hHeld.2.2.2.2.2.2.2.2.2.2.2.2.2.2.2.2.2.2.2.2.2.2.2.2.2.2.2.2.2.2.2.2.2.2.2.2.2.2.2.2.2.2.2.2.1
              have HS45_ := pw_cell_below hb hHeld.2.2.2.2.2.2.2.2.2.2.2.2.2.2.2.2.2.2.2.2.2.2.2.2.2.2.2.2.2.2.2.2.2.2.2.2.2.2.2.2.2.2.2.2.2.1
              have HS46_ := pw_cell_below hb hHeld.2.2.2.2.2.2.2.2.2.2.2.2.2.2.2.2.2.2.2.2.2.2.2.2.2.2.2.2.2.2.2.2.2.2.2.2.2.2.2.2.2.2.2.2.2.2.1
              have HS47_ := pw_cell_below hb hHeld.2.2.2.2.2.2.2.2.2.2.2.2.2.2.2.2.2.2.2.2.2.2.2.2.2.2.2.2.2.2.2.2.2.2.2.2.2.2.2.2.2.2.2.2.2.2.2.1
              have HS48_ := pw_cell_below hb hHeld.2.2.2.2.2.2.2.2.2.2.2.2.2.2.2.2.2.2.2.2.2.2.2.2.2.2.2.2.2.2.2.2.2.2.2.2.2.2.2.2.2.2.2.2.2.2.2.2.1
              have HS49_ := pw_cell_below hb hHeld.2.2.2.2.2.2.2.2.2.2.2.2.2.2.2.2.2.2.2.2.2.2.2.2.2.2.2.2.2.2.2.2.2.2.2.2.2.2.2.2.2.2.2.2.2.2.2.2.2.1
              have HS50_ := pw_cell_below hb hHeld.2.2.2.2.2.2.2.2.2.2.2.2.2.2.2.2.2.2.2.2.2.2.2.2.2.2.2.2.2.2.2.2.2.2.2.2.2.2.2.2.2.2.2.2.2.2.2.2.2.2.1
              have HS51_ := pw_cell_below hb hHeld.2.2.2.2.2.2.2.2.2.2.2.2.2.2.2.2.2.2.2.2.2.2.2.2.2.2.2.2.2.2.2.2.2.2.2.2.2.2.2.2.2.2.2.2.2.2.2.2.2.2.2.1
              have HS52_ := pw_cell_below hb hHeld.2.2.2.2.2.2.2.2.2.2.2.2.2.2.2.2.2.2.2.2.2.2.2.2.2.2.2.2.2.2.2.2.2.2.2.2.2.2.2.2.2.2.2.2.2.2.2.2.2.2.2.2.1
              have HS53_ := pw_cell_below hb hHeld.2.2.2.2.2.2.2.2.2.2.2.2.2.2.2.2.2.2.2.2.2.2.2.2.2.2.2.2.2.2.2.2.2.2.2.2.2.2.2.2.2.2.2.2.2.2.2.2.2.2.2.2.2.1
              have HS54_ := pw_cell_below hb hHeld.2.2.2.2.2.2.2.2.2.2.2.2.2.2.2.2.2.2.2.2.2.2.2.2.2.2.2.2.2.2.2.2.2.2.2.2.2.2.2.2.2.2.2.2.2.2.2.2.2.2.2.2.2.2.1
              have HS55_ := pw_cell_below hb hHeld.2.2.2.2.2.2.2.2.2.2.2.2.2.2.2.2.2.2.2.2.2.2.2.2.2.2.2.2.2.2.2.2.2.2.2.2.2.2.2.2.2.2.2.2.2.2.2.2.2.2.2.2.2.2.2.1
              have HS56_ := pw_cell_below hb hHeld.2.2.2.2.2.2.2.2.2.2.2.2.2.2.2.2.2.2.2.2.2.2.2.2.2.2.2.2.2.2.2.2.2.2.2.2.2.2.2.2.2.2.2.2.2.2.2.2.2.2.2.2.2.2.2.2.1
              have HS57_ := pw_cell_below hb hHeld.2.2.2.2.2.2.2.2.2.2.2.2.2.2.2.2.2.2.2.2.2.2.2.2.2.2.2.2.2.2.2.2.2.2.2.2.2.2.2.2.2.2.2.2.2.2.2.2.2.2.2.2.2.2.2.2.2.1
              have HS58_ := pw_cell_below hb hHeld.2.2.2.2.2.2.2.2.2.2.2.2.2.2.2.2.2.2.2.2.2.2.2.2.2.2.2.2.2.2.2.2.2.2.2.2.2.2.2.2.2.2.2.2.2.2.2.2.2.2.2.2.2.2.2.2.2.2.1
              have HS59_ := pw_cell_below hb hHeld.2.2.2.2.2.2.2.2.2.2.2.2.2.2.2.2.2.2.2.2.2.2.2.2.2.2.2.2.2.2.2.2.2.2.2.2.2.2.2.2.2.2.2.2.2.2.2.2.2.2.2.2.2.2.2.2.2.2.2.1
              have HS60_ := pw_cell_below hb hHeld.2.2.2.2.2.2.2.2.2.2.2.2.2.2.2.2.2.2.2.2.2.2.2.2.2.2.2.2.2.2.2.2.2.2.2.2.2.2.2.2.2.2.2.2.2.2.2.2.2.2.2.2.2.2.2.2.2.2.2.2.1
              have HS61_ := pw_cell_below hb hHeld.2.2.2.2.2.2.2.2.2.2.2.2.2.2.2.2.2.2.2.2.2.2.2.2.2.2.2.2.2.2.2.2.2.2.2.2.2.2.2.2.2.2.2.2.2.2.2.2.2.2.2.2.2.2.2.2.2.2.2.2.2.1
              have HS62_ := pw_cell_below hb hHeld.2.2.2.2.2.2.2.2.2.2.2.2.2.2.2.2.2.2.2.2.2.2.2.2.2.2.2.2.2.2.2.2.2.2.2.2.2.2.2.2.2.2.2.2.2.2.2.2.2.2.2.2.2.2.2.2.2.2.2.2.2.2.1
              have HS63_ := pw_cell_below hb hHeld.2.2.2.2.2.2.2.2.2.2.2.2.2.2.2.2.2.2.2.2.2.2.2.2.2.2.2.2.2.2.2.2.2.2.2.2.2.2.2.2.2.2.2.2.2.2.2.2.2.2.2.2.2.2.2.2.2.2.2.2.2.2.2.1
              have HS64_ := pw_cell_below hb hHeld.2.2.2.2.2.2.2.2.2.2.2.2.2.2.2.2.2.2.2.2.2.2.2.2.2.2.2.2.2.2.2.2.2.2.2.2.2.2.2.2.2.2.2.2.2.2.2.2.2.2.2.2.2.2.2.2.2.2.2.2.2.2.2.2.1
              have HS65_ := pw_cell_below hb hHeld.2.2.2.2.2.2.2.2.2.2.2.2.2.2.2.2.2.2.2.2.2.2.2.2.2.2.2.2.2.2.2.2.2.2.2.2.2.2.2.2.2.2.2.2.2.2.2.2.2.2.2.2.2.2.2.2.2.2.2.2.2.2.2.2.2.1
              have HS66_ := pw_cell_below hb hHeld.2.2.2.2.2.2.2.2.2.2.2.2.2.2.2.2.2.2.2.2.2.2.2.2.2.2.2.2.2.2.2.2.2.2.2.2.2.2.2.2.2.2.2.2.2.2.2.2.2.2.2.2.2.2.2.2.2.2.2.2.2.2.2.2.2.2.1
              have HS67_ := pw_cell_below hb hHeld.2.2.2.2.2.2.2.2.2.2.2.2.2.2.2.2.2.2.2.2.2.2.2.2.2.2.2.2.2.2.2.2.2.2.2.2.2.2.2.2.2.2.2.2.2.2.2.2.2.2.2.2.2.2.2.2.2.2.2.2.2.2.2.2.2.2.2.1
              have HS68_ := pw_cell_below hb hHeld.2.2.2.2.2.2.2.2.2.2.2.2.2.2.2.2.2.2.2.2.2.2.2.2.2.2.2.2.2.2.2.2.2.2.2.2.2.2.2.2.2.2.2.2.2.2.2.2.2.2.2.2.2.2.2.2.2.2.2.2.2.2.2.2.2.2.2.2.1
              have HS69_ := pw_cell_below hb hHeld.2.2.2.2.2.2.2.2.2.2.2.2.2.2.2.2.2.2.2.2.2.2.2.2.2.2.2.2.2.2.2.2.2.2.2.2.2.2.2.2.2.2.2.2.2.2.2.2.2.2.2.2.2.2.2.2.2.2.2.2.2.2.2.2.2.2.2.2.2
              refine ⟨_, rfl, ?_⟩
              have n0_ := Aside0.mk (Kd.R_below (by (with_reducible repeat (first | apply Kd.R_alloc | apply Kd.R_drewN | apply Kd.R_drew)); exact HO_5.out) hb)
              have n1_ := Aside0.mk (blk_below (g := gb331) (o := .cells #[.int .u64 a1_0, .int .u64 a1_1, .int .u64 a1_2, .int .u64 a1_3] 29 (0, 0)) (by (with_reducible repeat (first | refine blk_drewN ?_ _ | refine blk_drew ?_ | refine blk_alloc ?_ _)); exact BK331.out) hb)
              have n2_ := Aside0.mk (below_step (by repeat (first | (with_reducible first | exact HB.out | apply below_alloc | apply pw_below_drewN | apply below_drew1 | refine below_set ?_ GE331.out) | exact HB.out)) hb)
              clear HO_5
              clear BK331
              clear HB
              have HO_5 := n0_
              have BK331 := n1_
              have HB := n2_
              clear n0_ n1_ n2_
              (try clear hb)
              (try clear hb2)
              (try clear hk)
              (try clear hi)
              refine hK.out _ _ ⟨HS0_, HS1_, HS2_, HS3_, HS4_, HS5_, HS6_, HS7_, HS8_, HS9_, HS10_, HS11_, HS12_, HS13_, HS14_, HS15_, HS16_, HS17_, HS18_, HS19_, HS20_, HS21_, HS22_, HS23_, HS24_, HS25_, HS26_, HS27_, HS28_, HS29_, HS30_, HS31_, HS32_, HS33_, HS34_, HS35_, HS36_, HS37_, HS38_, HS39_, HS40_, HS41_, HS42_, HS43_, HS44_, HS45_, HS46_, HS47_, HS48_, HS49_, HS50_, HS51_, HS52_, HS53_, HS54_, HS55_, HS56_, HS57_, HS58_, HS59_, HS60_, HS61_, HS62_, HS63_, HS64_, HS65_, HS66_, HS67_, HS68_, HS69_⟩ (fun hHeld => ?_)
              clear hK K
              refine norm_ (a' := ?_) ?_ ?_
              rotate_left
              ·
               show Act.put _ (some 21) _ = _
               simp only [qa_, qb_, qc_, qd_, i64_w, i32_w]
               rfl
              refine pure_ (i := 5) (N := some 22) (v := ?_) (a' := ?_) bb2_6 rfl rfl (any_of HT_.out (by kernel_rfl)) (fun _ _ _ h => h) (Or.inl ⟨by rfl, ?_⟩) ?_ ?_
              rotate_left
              · intro w'; go_simp; with_reducible rfl
              rotate_left
              · simp only [qa_, qb_, qc_, qd_, i64_w, i32_w]; rfl
              refine pure_ (i := 6) (N := some 23) (v := ?_) (a' := ?_) bb2_7 rfl rfl (any_of HT_.out (by kernel_rfl)) (fun _ _ _ h => h) (Or.inl ⟨by rfl, ?_⟩) ?_ ?_
              rotate_left
              · intro w'; go_simp; with_reducible rfl
              rotate_left
              · simp only [qa_, qb_, qc_, qd_, i64_w, i32_w]; rfl
              refine pure_ (i := 7) (N := some 24) (v := ?_) (a' := ?_) bb2_8 rfl rfl (any_of HT_.out (by kernel_rfl)) (fun _ _ _ h => h) (Or.inl ⟨by rfl, ?_⟩) ?_ ?_
              rotate_left
              · intro w'; go_simp; with_reducible rfl
              rotate_left
              · simp only [qa_, qb_, qc_, qd_, i64_w, i32_w]; rfl
              refine pure_ (i := 8) (N := some 25) (v := ?_) (a' := ?_) bb2_9 rfl rfl (any_of HT_.out (by kernel_rfl)) (fun _ _ _ h => h) (Or.inl ⟨by rfl, ?_⟩) ?_ ?_
              rotate_left
              · intro w'; go_simp; with_reducible rfl
              rotate_left
              · simp only [qa_, qb_, qc_, qd_, i64_w, i32_w]; rfl
              refine pure_ (i := 9) (N := some 26) (v := ?_) (a' := ?_) bb2_10 rfl rfl (any_of HT_.out (by kernel_rfl)) (fun _ _ _ h => h) (Or.inl ⟨by rfl, ?_⟩) ?_ ?_
              rotate_left
              · intro w'; go_simp; with_reducible rfl
              rotate_left
              · simp only [qa_, qb_, qc_, qd_, i64_w, i32_w]; rfl
              refine pure_ (i := 10) (N := some 27) (v := ?_) (a' := ?_) bb2_11 rfl rfl (any_of HT_.out (by kernel_rfl)) (fun _ _ _ h => h) (Or.inl ⟨by rfl, ?_⟩) ?_ ?_
              rotate_left
              · intro w'; go_simp; with_reducible rfl
              rotate_left
              · simp only [qa_, qb_, qc_, qd_, i64_w, i32_w]; rfl
              refine take_ (i := 11) (N := some 28) (v := ?_) (a' := ?_) bb2_12 rfl rfl (take_ofW HT_.out HW_.out (by kernel_rfl)) (fun _ _ _ h => h) (Or.inl ⟨by rfl, ?_⟩) hHeld ?_ ?_
              rotate_left
              · rintro w' ⟨s0, s1, s2, s3, s4, s5, s6, s7, s8, s9, s10, s11, s12, s13, s14, s15, s16, s17, s18, s19, s20, s21, s22, s23, s24, s25, s26, s27, s28, s29, s30, s31, s32, s33, s34, s35, s36, s37, s38, s39, s40, s41, s42, s43, s44, s45, s46, s47, s48, s49, s50, s51, s52, s53, s54, s55, s56, s57, s58, s59, s60, s61, s62, s63, s64, s65, s66, s67, s68, s69⟩; go_simp; with_reducible rfl
              rotate_left
              · simp only [qa_, qb_, qc_, qd_, i64_w, i32_w]; rfl
              refine pure_ (i := 12) (N := some 29) (v := ?_) (a' := ?_) bb2_13 rfl rfl (any_of HT_.out (by kernel_rfl)) (fun _ _ _ h => h) (Or.inl ⟨by rfl, ?_⟩) ?_ ?_
              rotate_left
              · intro w'; go_simp; with_reducible rfl
              rotate_left
              · simp only [qa_, qb_, qc_, qd_, i64_w, i32_w]; rfl
              refine pure_ (i := 13) (N := some 30) (v := ?_) (a' := ?_) bb2_14 rfl rfl (any_of HT_.out (by kernel_rfl)) (fun _ _ _ h => h) (Or.inl ⟨by rfl, ?_⟩) ?_ ?_
              rotate_left
              · intro w'; go_simp; with_reducible rfl
              rotate_left
              · simp only [qa_, qb_, qc_, qd_, i64_w, i32_w]; rfl
              refine pure_ (i := 14) (N := some 31) (v := ?_) (a' := ?_) bb2_15 rfl rfl (any_of HT_.out (by kernel_rfl)) (fun _ _ _ h => h) (Or.inl ⟨by rfl, ?_⟩) ?_ ?_
              rotate_left
              · intro w'; go_simp; with_reducible rfl
              rotate_left
              · simp only [qa_, qb_, qc_, qd_, i64_w, i32_w]; rfl
              refine pure_ (i := 15) (N := some 32) (v := ?_) (a' := ?_) bb2_16 rfl rfl (any_of HT_.out (by kernel_rfl)) (fun _ _ _ h => h) (Or.inl ⟨by rfl, ?_⟩) ?_ ?_
              rotate_left
              · intro w'; go_simp; with_reducible rfl
              rotate_left
              · simp only [qa_, qb_, qc_, qd_, i64_w, i32_w]; rfl
              refine pure_ (i := 16) (N := some 33) (v := ?_) (a' := ?_) bb2_17 rfl rfl (any_of HT_.out (by kernel_rfl)) (fun _ _ _ h => h) (Or.inl ⟨by rfl, ?_⟩) ?_ ?_
              rotate_left
              · intro w'; go_simp; with_reducible rfl
              rotate_left
              · simp only [qa_, qb_, qc_, qd_, i64_w, i32_w]; rfl
              refine pure_ (i := 17) (N := some 34) (v := ?_) (a' := ?_) bb2_18 rfl rfl (any_of HT_.out (by kernel_rfl)) (fun _ _ _ h => h) (Or.inl ⟨by rfl, ?_⟩) ?_ ?_
              rotate_left
              · intro w'; go_simp; with_reducible rfl
              rotate_left
              · simp only [qa_, qb_, qc_, qd_, i64_w, i32_w]; rfl
              refine pure_ (i := 18) (N := some 35) (v := ?_) (a' := ?_) bb2_19 rfl rfl (any_of HT_.out (by kernel_rfl)) (fun _ _ _ h => h) (Or.inl ⟨by rfl, ?_⟩) ?_ ?_
              rotate_left
              · intro w'; go_simp; with_reducible rfl
              rotate_left
              · simp only [qa_, qb_, qc_, qd_, i64_w, i32_w]; rfl
              refine pure_ (i := 21) (N := some 38) (v := ?_) (a' := ?_) bb2_20 rfl rfl (any_of HT_.out (by kernel_rfl)) (fun _ _ _ h => h) (Or.inl ⟨by rfl, ?_⟩) ?_ ?_
              rotate_left
              · intro w'; go_simp; with_reducible rfl
              rotate_left
              · simp only [qa_, qb_, qc_, qd_, i64_w, i32_w]; rfl
              refine pure_ (i := 22) (N := some 39) (v := ?_) (a' := ?_) bb2_21 rfl rfl (any_of HT_.out (by kernel_rfl)) (fun _ _ _ h => h) (Or.inl ⟨by rfl, ?_⟩) ?_ ?_
              rotate_left
              · intro w'; go_simp; with_reducible rfl
              rotate_left
              · simp only [qa_, qb_, qc_, qd_, i64_w, i32_w]; rfl
              refine take_ (i := 19) (N := some 36) (v := ?_) (a' := ?_) bb2_22 rfl rfl (take_ofW HT_.out HW_.out (by kernel_rfl)) (fun _ _ _ h => h) (Or.inl ⟨by rfl, ?_⟩) hHeld ?_ ?_
              rotate_left
              · rintro w' ⟨s0, s1, s2, s3, s4, s5, s6, s7, s8, s9, s10, s11, s12, s13, s14, s15, s16, s17, s18, s19, s20, s21, s22, s23, s24, s25, s26, s27, s28, s29, s30, s31, s32, s33, s34, s35, s36, s37, s38, s39, s40, s41, s42, s43, s44, s45, s46, s47, s48, s49, s50, s51, s52, s53, s54, s55, s56, s57, s58, s59, s60, s61, s62, s63, s64, s65, s66, s67, s68, s69⟩; go_simp; with_reducible rfl
              rotate_left
              · simp only [qa_, qb_, qc_, qd_, i64_w, i32_w]; rfl
              refine pure_ (i := 20) (N := some 37) (v := ?_) (a' := ?_) bb2_23 rfl rfl (any_of HT_.out (by kernel_rfl)) (fun _ _ _ h => h) (Or.inl ⟨by rfl, ?_⟩) ?_ ?_
              rotate_left
              · intro w'; go_simp; with_reducible rfl
              rotate_left
              · simp only [qa_, qb_, qc_, qd_, i64_w, i32_w]; rfl
              refine pure_ (i := 23) (N := some 40) (v := ?_) (a' := ?_) bb2_24 rfl rfl (any_of HT_.out (by kernel_rfl)) (fun _ _ _ h => h) (Or.inl ⟨by rfl, ?_⟩) ?_ ?_
              rotate_left
              · intro w'; go_simp; with_reducible rfl
              rotate_left
              · simp only [qa_, qb_, qc_, qd_, i64_w, i32_w]; rfl
              refine pure_ (i := 24) (N := some 41) (v := ?_) (a' := ?_) bb2_25 rfl rfl (any_of HT_.out (by kernel_rfl)) (fun _ _ _ h => h) (Or.inl ⟨by rfl, ?_⟩) ?_ ?_
              rotate_left
              · intro w'; go_simp; with_reducible rfl
              rotate_left
              · simp only [qa_, qb_, qc_, qd_, i64_w, i32_w]; rfl
              refine pure_ (i := 25) (N := some 42) (v := ?_) (a' := ?_) bb2_26 rfl rfl (any_of HT_.out (by kernel_rfl)) (fun _ _ _ h => h) (Or.inl ⟨by rfl, ?_⟩) ?_ ?_
              rotate_left
              · intro w'; go_simp; with_reducible rfl
              rotate_left
              · simp only [qa_, qb_, qc_, qd_, i64_w, i32_w]; rfl
              refine pure_ (i := 26) (N := some 43) (v := ?_) (a' := ?_) bb2_27 rfl rfl (any_of HT_.out (by kernel_rfl)) (fun _ _ _ h => h) (Or.inl ⟨by rfl, ?_⟩) ?_ ?_
              rotate_left
              · intro w'; go_simp; with_reducible rfl
              rotate_left
              · simp only [qa_, qb_, qc_, qd_, i64_w, i32_w]; rfl
              refine pure_ (i := 27) (N := some 44) (v := ?_) (a' := ?_) bb2_28 rfl rfl (any_of HT_.out (by kernel_rfl)) (fun _ _ _ h => h) (Or.inl ⟨by rfl, ?_⟩) ?_ ?_
              rotate_left
              · intro w'; go_simp; with_reducible rfl
              rotate_left
              · simp only [qa_, qb_, qc_, qd_, i64_w, i32_w]; rfl
              refine pure_ (i := 28) (N := some 45) (v := ?_) (a' := ?_) bb2_29 rfl rfl (any_of HT_.out (by kernel_rfl)) (fun _ _ _ h => h) (Or.inl ⟨by rfl, ?_⟩) ?_ ?_
              rotate_left
              · intro w'; go_simp; with_reducible rfl
              rotate_left
              · simp only [qa_, qb_, qc_, qd_, i64_w, i32_w]; rfl
              refine pure_ (i := 29) (N := some 46) (v := ?_) (a' := ?_) bb2_30 rfl rfl (any_of HT_.out (by kernel_rfl)) (fun _ _ _ h => h) (Or.inl ⟨by rfl, ?_⟩) ?_ ?_
              rotate_left
              · intro w'; go_simp; with_reducible rfl
              rotate_left
              · simp only [qa_, qb_, qc_, qd_, i64_w, i32_w]; rfl
              refine pure_ (i := 30) (N := some 47) (v := ?_) (a' := ?_) bb2_31 rfl rfl (any_of HT_.out (by kernel_rfl)) (fun _ _ _ h => h) (Or.inl ⟨by rfl, ?_⟩) ?_ ?_
              rotate_left
              · intro w'; go_simp; with_reducible rfl
              rotate_left
              · simp only [qa_, qb_, qc_, qd_, i64_w, i32_w]; rfl
              refine pure_ (i := 31) (N := some 48) (v := ?_) (a' := ?_) bb2_32 rfl rfl (any_of HT_.out (by kernel_rfl)) (fun _ _ _ h => h) (Or.inl ⟨by rfl, ?_⟩) ?_ ?_
              rotate_left
              · intro w'; go_simp; with_reducible rfl
              rotate_left
              · simp only [qa_, qb_, qc_, qd_, i64_w, i32_w]; rfl
              refine pure_ (i := 32) (N := some 49) (v := ?_) (a' := ?_) bb2_33 rfl rfl (any_of HT_.out (by kernel_rfl)) (fun _ _ _ h => h) (Or.inl ⟨by rfl, ?_⟩) ?_ ?_
              rotate_left
              · intro w'; go_simp; with_reducible rfl
              rotate_left
              · simp only [qa_, qb_, qc_, qd_, i64_w, i32_w]; rfl
              refine take_ (i := 33) (N := some 50) (v := ?_) (a' := ?_) bb2_34 rfl rfl (take_ofW HT_.out HW_.out (by kernel_rfl)) (fun _ _ _ h => h) (Or.inl ⟨by rfl, ?_⟩) hHeld ?_ ?_
              rotate_left
              · rintro w' ⟨s0, s1, s2, s3, s4, s5, s6, s7, s8, s9, s10, s11, s12, s13, s14, s15, s16, s17, s18, s19, s20, s21, s22, s23, s24, s25, s26, s27, s28, s29, s30, s31, s32, s33, s34, s35, s36, s37, s38, s39, s40, s41, s42, s43, s44, s45, s46, s47, s48, s49, s50, s51, s52, s53, s54, s55, s56, s57, s58, s59, s60, s61, s62, s63, s64, s65, s66, s67, s68, s69⟩; go_simp; with_reducible rfl
              rotate_left
              · simp only [qa_, qb_, qc_, qd_, i64_w, i32_w]; rfl
              refine pure_ (i := 34) (N := some 51) (v := ?_) (a' := ?_) bb2_35 rfl rfl (any_of HT_.out (by kernel_rfl)) (fun _ _ _ h => h) (Or.inl ⟨by rfl, ?_⟩) ?_ ?_
              rotate_left
              · intro w'; go_simp; with_reducible rfl
              rotate_left
              · simp only [qa_, qb_, qc_, qd_, i64_w, i32_w]; rfl
              refine pure_ (i := 35) (N := some 52) (v := ?_) (a' := ?_) bb2_36 rfl rfl (any_of HT_.out (by kernel_rfl)) (fun _ _ _ h => h) (Or.inl ⟨by rfl, ?_⟩) ?_ ?_
              rotate_left
              · intro w'; go_simp; with_reducible rfl
              rotate_left
              · simp only [qa_, qb_, qc_, qd_, i64_w, i32_w]; rfl
              refine pure_ (i := 36) (N := some 53) (v := ?_) (a' := ?_) bb2_37 rfl rfl (any_of HT_.out (by kernel_rfl)) (fun _ _ _ h => h) (Or.inl ⟨by rfl, ?_⟩) ?_ ?_
              rotate_left
              · intro w'; go_simp; with_reducible rfl
              rotate_left
              · simp only [qa_, qb_, qc_, qd_, i64_w, i32_w]; rfl
              refine pure_ (i := 37) (N := some 54) (v := ?_) (a' := ?_) bb2_38 rfl rfl (any_of HT_.out (by kernel_rfl)) (fun _ _ _ h => h) (Or.inl ⟨by rfl, ?_⟩) ?_ ?_
              rotate_left
              · intro w'; go_simp; with_reducible rfl
              rotate_left
              · simp only [qa_, qb_, qc_, qd_, i64_w, i32_w]; rfl
              refine pure_ (i := 38) (N := some 55) (v := ?_) (a' := ?_) bb2_39 rfl rfl (any_of HT_.out (by kernel_rfl)) (fun _ _ _ h => h) (Or.inl ⟨by rfl, ?_⟩) ?_ ?_
              rotate_left
              · intro w'; go_simp; with_reducible rfl
              rotate_left
              · simp only [qa_, qb_, qc_, qd_, i64_w, i32_w]; rfl
              refine pure_ (i := 39) (N := some 56) (v := ?_) (a' := ?_) bb2_40 rfl rfl (any_of HT_.out (by kernel_rfl)) (fun _ _ _ h => h) (Or.inl ⟨by rfl, ?_⟩) ?_ ?_
              rotate_left
              · intro w'; go_simp; with_reducible rfl
              rotate_left
              · simp only [qa_, qb_, qc_, qd_, i64_w, i32_w]; rfl
              refine take_ (i := 40) (N := some 57) (v := ?_) (a' := ?_) bb2_41 rfl rfl (take_ofW HT_.out HW_.out (by kernel_rfl)) (fun _ _ _ h => h) (Or.inl ⟨by rfl, ?_⟩) hHeld ?_ ?_
              rotate_left
              · rintro w' ⟨s0, s1, s2, s3, s4, s5, s6, s7, s8, s9, s10, s11, s12, s13, s14, s15, s16, s17, s18, s19, s20, s21, s22, s23, s24, s25, s26, s27, s28, s29, s30, s31, s32, s33, s34, s35, s36, s37, s38, s39, s40, s41, s42, s43, s44, s45, s46, s47, s48, s49, s50, s51, s52, s53, s54, s55, s56, s57, s58, s59, s60, s61, s62, s63, s64, s65, s66, s67, s68, s69⟩; go_simp; with_reducible rfl
              rotate_left
              · simp only [qa_, qb_, qc_, qd_, i64_w, i32_w]; rfl
              refine pure_ (i := 41) (N := some 58) (v := ?_) (a' := ?_) bb2_42 rfl rfl (any_of HT_.out (by kernel_rfl)) (fun _ _ _ h => h) (Or.inl ⟨by rfl, ?_⟩) ?_ ?_
              rotate_left
              · intro w'; go_simp; with_reducible rfl
              rotate_left
              · simp only [qa_, qb_, qc_, qd_, i64_w, i32_w]; rfl
              refine pure_ (i := 42) (N := some 59) (v := ?_) (a' := ?_) bb2_43 rfl rfl (any_of HT_.out (by kernel_rfl)) (fun _ _ _ h => h) (Or.inl ⟨by rfl, ?_⟩) ?_ ?_
              rotate_left
              · intro w'; go_simp; with_reducible rfl
              rotate_left
              · simp only [qa_, qb_, qc_, qd_, i64_w, i32_w]; rfl
              refine pure_ (i := 43) (N := some 60) (v := ?_) (a' := ?_) bb2_44 rfl rfl (any_of HT_.out (by kernel_rfl)) (fun _ _ _ h => h) (Or.inl ⟨by rfl, ?_⟩) ?_ ?_
              rotate_left
              · intro w'; go_simp; with_reducible rfl
              rotate_left
              · simp only [qa_, qb_, qc_, qd_, i64_w, i32_w]; rfl
              refine pure_ (i := 44) (N := some 61) (v := ?_) (a' := ?_) bb2_45 rfl rfl (any_of HT_.out (by kernel_rfl)) (fun _ _ _ h => h) (Or.inl ⟨by rfl, ?_⟩) ?_ ?_
              rotate_left
              · intro w'; go_simp; with_reducible rfl
              rotate_left
              · simp only [qa_, qb_, qc_, qd_, i64_w, i32_w]; rfl
              refine pure_ (i := 45) (N := some 62) (v := ?_) (a' := ?_) bb2_46 rfl rfl (any_of HT_.out (by kernel_rfl)) (fun _ _ _ h => h) (Or.inl ⟨by rfl, ?_⟩) ?_ ?_
              rotate_left
              · intro w'; go_simp; with_reducible rfl
              rotate_left
              · simp only [qa_, qb_, qc_, qd_, i64_w, i32_w]; rfl
              refine pure_ (i := 46) (N := some 63) (v := ?_) (a' := ?_) bb2_47 rfl rfl (any_of HT_.out (by kernel_rfl)) (fun _ _ _ h => h) (Or.inl ⟨by rfl, ?_⟩) ?_ ?_
              rotate_left
              · intro w'; go_simp; with_reducible rfl
              rotate_left
              · simp only [qa_, qb_, qc_, qd_, i64_w, i32_w]; rfl
              refine pure_ (i := 47) (N := some 64) (v := ?_) (a' := ?_) bb2_48 rfl rfl (any_of HT_.out (by kernel_rfl)) (fun _ _ _ h => h) (Or.inl ⟨by rfl, ?_⟩) ?_ ?_
              rotate_left
              · intro w'; go_simp; with_reducible rfl
              rotate_left
              · simp only [qa_, qb_, qc_, qd_, i64_w, i32_w]; rfl
              refine pure_ (i := 49) (N := some 66) (v := ?_) (a' := ?_) #[true, true, true, true, true, true, true, true, true, true, true, true, true, true, true, true, true, true, true, true, true, true, true, true, true, true, true, true, true, true, true, true, true, true, true, true, true, true, true, true, true, true, true, true, true, true, true, true, false, true, false, false, false, false, false, false, false, false, false] rfl rfl (any_of HT_.out (by kernel_rfl)) (fun _ _ _ h => h) (Or.inl ⟨by rfl, ?_⟩) ?_ ?_
              rotate_left
              · intro w'; go_simp; with_reducible rfl
              rotate_left
              · simp only [qa_, qb_, qc_, qd_, i64_w, i32_w]; rfl
              refine pure_ (i := 50) (N := some 67) (v := ?_) (a' := ?_) #[true, true, true, true, true, true, true, true, true, true, true, true, true, true, true, true, true, true, true, true, true, true, true, true, true, true, true, true, true, true, true, true, true, true, true, true, true, true, true, true, true, true, true, true, true, true, true, true, false, true, true, false, false, false, false, false, false, false, false] rfl rfl (any_of HT_.out (by kernel_rfl)) (fun _ _ _ h => h) (Or.inl ⟨by rfl, ?_⟩) ?_ ?_
              rotate_left
              · intro w'; go_simp; with_reducible rfl
              rotate_left
              · simp only [qa_, qb_, qc_, qd_, i64_w, i32_w]; rfl
              refine pure_ (i := 51) (N := some 68) (v := ?_) (a' := ?_) #[true, true, true, true, true, true, true, true, true, true, true, true, true, true, true, true, true, true, true, true, true, true, true, true, true, true, true, true, true, true, true, true, true, true, true, true, true, true, true, true, true, true, true, true, true, true, true, true, false, true, true, true, false, false, false, false, false, false, false] rfl rfl (any_of HT_.out (by kernel_rfl)) (fun _ _ _ h => h) (Or.inl ⟨by rfl, ?_⟩) ?_ ?_
              rotate_left
              · intro w'; go_simp; with_reducible rfl
              rotate_left
              · simp only [qa_, qb_, qc_, qd_, i64_w, i32_w]; rfl
              refine pure_ (i := 52) (N := some 69) (v := ?_) (a' := ?_) #[true, true, true, true, true, true, true, true, true, true, true, true, true, true, true, true, true, true, true, true, true, true, true, true, true, true, true, true, true, true, true, true, true, true, true, true, true, true, true, true, true, true, true, true, true, true, true, true, false, true, true, true, true, false, false, false, false, false, false] rfl rfl (any_of HT_.out (by kernel_rfl)) (fun _ _ _ h => h) (Or.inl ⟨by rfl, ?_⟩) ?_ ?_
              rotate_left
              · intro w'; go_simp; with_reducible rfl
              rotate_left
              · simp only [qa_, qb_, qc_, qd_, i64_w, i32_w]; rfl
              refine pure_ (i := 53) (N := some 70) (v := ?_) (a' := ?_) #[true, true, true, true, true, true, true, true, true, true, true, true, true, true, true, true, true, true, true, true, true, true, true, true, true, true, true, true, true, true, true, true, true, true, true, true, true, true, true, true, true, true, true, true, true, true, true, true, false, true, true, true, true, true, false, false, false, false, false] rfl rfl (any_of HT_.out (by kernel_rfl)) (fun _ _ _ h => h) (Or.inl ⟨by rfl, ?_⟩) ?_ ?_
              rotate_left
              · intro w'; go_simp; with_reducible rfl
              rotate_left
              · simp only [qa_, qb_, qc_, qd_, i64_w, i32_w]; rfl
              refine take_ (i := 48) (N := some 65) (v := ?_) (a' := ?_) bb2_54 rfl rfl (take_ofW HT_.out HW_.out (by kernel_rfl)) (fun _ _ _ h => h) (Or.inl ⟨by rfl, ?_⟩) hHeld ?_ ?_
              rotate_left
              · rintro w' ⟨s0, s1, s2, s3, s4, s5, s6, s7, s8, s9, s10, s11, s12, s13, s14, s15, s16, s17, s18, s19, s20, s21, s22, s23, s24, s25, s26, s27, s28, s29, s30, s31, s32, s33, s34, s35, s36, s37, s38, s39, s40, s41, s42, s43, s44, s45, s46, s47, s48, s49, s50, s51, s52, s53, s54, s55, s56, s57, s58, s59, s60, s61, s62, s63, s64, s65, s66, s67, s68, s69⟩; go_simp; with_reducible rfl
              rotate_left
              · simp only [qa_, qb_, qc_, qd_, i64_w, i32_w]; rfl
              refine take_ (i := 54) (N := some 71) (v := ?_) (a' := ?_) bb2_55 rfl rfl (take_ofW HT_.out HW_.out (by kernel_rfl)) (fun _ _ _ h => h) (Or.inl ⟨by rfl, ?_⟩) hHeld ?_ ?_
              rotate_left
              · rintro w' ⟨s0, s1, s2, s3, s4, s5, s6, s7, s8, s9, s10, s11, s12, s13, s14, s15, s16, s17, s18, s19, s20, s21, s22, s23, s24, s25, s26, s27, s28, s29, s30, s31, s32, s33, s34, s35, s36, s37, s38, s39, s40, s41, s42, s43, s44, s45, s46, s47, s48, s49, s50, s51, s52, s53, s54, s55, s56, s57, s58, s59, s60, s61, s62, s63, s64, s65, s66, s67, s68, s69⟩; go_simp; with_reducible rfl
              rotate_left
              · simp only [qa_, qb_, qc_, qd_, i64_w, i32_w]; rfl
              refine pure_ (i := 55) (N := some 72) (v := ?_) (a' := ?_) bb2_56 rfl rfl (any_of HT_.out (by kernel_rfl)) (fun _ _ _ h => h) (Or.inl ⟨by rfl, ?_⟩) ?_ ?_
              rotate_left
              · intro w'; go_simp; with_reducible rfl
              rotate_left
              · simp only [qa_, qb_, qc_, qd_, i64_w, i32_w]; rfl
              refine pure_ (i := 56) (N := some 73) (v := ?_) (a' := ?_) bb2_57 rfl rfl (any_of HT_.out (by kernel_rfl)) (fun _ _ _ h => h) (Or.inl ⟨by rfl, ?_⟩) ?_ ?_
              rotate_left
              · intro w'; go_simp; with_reducible rfl
              rotate_left
              · simp only [qa_, qb_, qc_, qd_, i64_w, i32_w]; rfl
              refine pure_ (i := 57) (N := some 74) (v := ?_) (a' := ?_) bb2_58 rfl rfl (any_of HT_.out (by kernel_rfl)) (fun _ _ _ h => h) (Or.inl ⟨by rfl, ?_⟩) ?_ ?_
              rotate_left
              · intro w'; go_simp; with_reducible rfl
              rotate_left
              · simp only [qa_, qb_, qc_, qd_, i64_w, i32_w]; rfl
              refine pure_ (i := 58) (N := some 75) (v := ?_) (a' := ?_) bb2_59 rfl rfl (any_of HT_.out (by kernel_rfl)) (fun _ _ _ h => h) (Or.inl ⟨by rfl, ?_⟩) ?_ ?_
              rotate_left
              · intro w'; go_simp; with_reducible rfl
              rotate_left
              · simp only [qa_, qb_, qc_, qd_, i64_w, i32_w]; rfl
              refine done_ (done_of HT_.out (by kernel_rfl)) ?_
              try go_wp2
              go_meet
              case rel => exact ⟨_, (decide (((rd_T25 t332 x6_1).f8) ≤ ((rd_T25 t332 (ji21)).f8))), (by first | rfl | (simp; done) | (simp only [← hji21] <;> (first | rfl | simp)) | (simp [*]; done)), H', ⟨by have := HK1.out; first | omega | exact Nat.le_refl _⟩, ⟨by (with_reducible repeat (first | apply Kd.R_alloc | apply Kd.R_drewN | apply Kd.R_drew)); exact HO_5.out⟩, ⟨by (with_reducible repeat (first | refine blk_drewN ?_ _ | refine blk_drew ?_ | refine blk_alloc ?_ _)); exact BK331.out⟩, ⟨by repeat (first | (with_reducible first | exact HB.out | apply below_alloc | apply pw_below_drewN | apply below_drew1 | refine below_set ?_ GE331.out) | exact HB.out)⟩⟩
             ·
              rw [if_neg c23] at H
              exact absurd H (by simp)
            ·
             rw [if_neg c22] at H
             exact absurd H (by simp)
          ·
           rw [if_neg c17] at H
           have c17b0 : (((rd_T25 t332 x6_1).f0) == 3) = false := beq_eq_false_iff_ne.mpr c17
           have c17b1 : (((rd_T25 t332 x6_1).f0) != 3) = true := bne_iff_ne.mpr c17
           have H' := Aside0.mk H
           clear H
           try go_wp2
           have n0_ := Aside0.mk (Kd.R_drew HO_5.out)
           have n1_ := Aside0.mk (blk_drew BK331.out)
           have n2_ := Aside0.mk (below_drew1 HB.out)
           clear HO_5
           clear BK331
           clear HB
           have HO_5 := n0_
           have BK331 := n1_
           have HB := n2_
           clear n0_ n1_ n2_
           have p335 : 0 ≤ (x6_1 : Int) := of_decide_eq_true (by first | (with_reducible assumption) | assumption)
           have q335 : x6_1 < (t332.length : Int) := of_decide_eq_true (by first | (with_reducible assumption) | assumption)
           obtain ⟨ad335, e335, hx335_0, hx335_1, hx335_2, hx335_3, hx335_4, hx335_5, hx335_6, hx335_7, hx335_8, hx335_9⟩ := at_T25 (Kd.R_reads' HO_5.out).2.2 x6_1 p335 q335
           cases e335
           replace p335 := eq_true p335
           replace q335 := eq_true q335
           have p337 : 0 ≤ (x6_1 : Int) := of_decide_eq_true (by first | (with_reducible assumption) | assumption)
           have q337 : x6_1 < (t332.length : Int) := of_decide_eq_true (by first | (with_reducible assumption) | assumption)
           obtain ⟨ad337, e337, hx337_0, hx337_1, hx337_2, hx337_3, hx337_4, hx337_5, hx337_6, hx337_7, hx337_8, hx337_9⟩ := at_T25 (Kd.R_reads' HO_5.out).2.2 x6_1 p337 q337
           obtain rfl : ad335 = ad337 := (by injection e337)
           replace p337 := eq_true p337
           replace q337 := eq_true q337
           have p338 : 0 ≤ (x6_1 : Int) := of_decide_eq_true (by first | (with_reducible assumption) | assumption)
           have q338 : x6_1 < (t332.length : Int) := of_decide_eq_true (by first | (with_reducible assumption) | assumption)
           obtain ⟨ad338, e338, hx338_0, hx338_1, hx338_2, hx338_3, hx338_4, hx338_5, hx338_6, hx338_7, hx338_8, hx338_9⟩ := at_T25 (Kd.R_reads' HO_5.out).2.2 x6_1 p338 q338
           obtain rfl : ad335 = ad338 := (by injection e338)
           replace p338 := eq_true p338
           replace q338 := eq_true q338
           have p339 : 0 ≤ (x6_1 : Int) := of_decide_eq_true (by first | (with_reducible assumption) | assumption)
           have q339 : x6_1 < (t332.length : Int) := of_decide_eq_true (by first | (with_reducible assumption) | assumption)
           obtain ⟨ad339, e339, hx339_0, hx339_1, hx339_2, hx339_3, hx339_4, hx339_5, hx339_6, hx339_7, hx339_8, hx339_9⟩ := at_T25 (Kd.R_reads' HO_5.out).2.2 x6_1 p339 q339
           obtain rfl : ad335 = ad339 := (by injection e339)
           replace p339 := eq_true p339
           replace q339 := eq_true q339
           refine start_ (n := 59) (S := fun w' => w'.cell? (ad335.add ((x6_1).toNat * 10)) = some (.int .i64 ((rd_T25 t332 x6_1).f0)) ∧ w'.cell? ⟨(ad335.add ((x6_1).toNat * 10)).block, (ad335.add ((x6_1).toNat * 10)).off + 1, none⟩ = some (.int .i64 ((rd_T25 t332 x6_1).f1)) ∧ w'.cell? ⟨(ad335.add ((x6_1).toNat * 10)).block, (ad335.add ((x6_1).toNat * 10)).off + 2, none⟩ = some (.int .i64 ((rd_T25 t332 x6_1).f2)) ∧ w'.cell? ⟨(ad335.add ((x6_1).toNat * 10)).block, (ad335.add ((x6_1).toNat * 10)).off + 3, none⟩ = some (.int .i64 ((rd_T25 t332 x6_1).f3)) ∧ w'.cell? ⟨(ad335.add ((x6_1).toNat * 10)).block, (ad335.add ((x6_1).toNat * 10)).off + 4, none⟩ = some (.int .i64 ((rd_T25 t332 x6_1).f4)) ∧ w'.cell? ⟨(ad335.add ((x6_1).toNat * 10)).block, (ad335.add ((x6_1).toNat * 10)).off + 5, none⟩ = some (.int .i64 ((rd_T25 t332 x6_1).f5)) ∧ w'.cell? ⟨(ad335.add ((x6_1).toNat * 10)).block, (ad335.add ((x6_1).toNat * 10)).off + 6, none⟩ = some (.int .u64 ((rd_T25 t332 x6_1).f6)) ∧ w'.cell? ⟨(ad335.add ((x6_1).toNat * 10)).block, (ad335.add ((x6_1).toNat * 10)).off + 7, none⟩ = some (.int .i64 ((rd_T25 t332 x6_1).f7)) ∧ w'.cell? ⟨(ad335.add ((x6_1).toNat * 10)).block, (ad335.add ((x6_1).toNat * 10)).off + 8, none⟩ = some (.int .i64 ((rd_T25 t332 x6_1).f8)) ∧ w'.cell? ⟨(ad335.add ((x6_1).toNat * 10)).block, (ad335.add ((x6_1).toNat * 10)).off + 9, none⟩ = some (.int .i64 ((rd_T25 t332 x6_1).f9)) ∧ w'.cell? (ad335.add ((x6_1).toNat * 10)) = some (.int .i64 ((rd_T25 t332 x6_1).f0)) ∧ w'.cell? ⟨(ad335.add ((x6_1).toNat * 10)).block, (ad335.add ((x6_1).toNat * 10)).off + 1, none⟩ = some (.int .i64 ((rd_T25 t332 x6_1).f1)) ∧ w'.cell? ⟨(ad335.add ((x6_1).toNat * 10)).block, (ad335.add ((x6_1).toNat * 10)).off + 2, none⟩ = some (.int .i64 ((rd_T25 t332 x6_1).f2)) ∧ w'.cell? ⟨(ad335.add ((x6_1).toNat * 10)).block, (ad335.add ((x6_1).toNat * 10)).off + 3, none⟩ = some (.int .i64 ((rd_T25 t332 x6_1).f3)) ∧ w'.cell? ⟨(ad335.add ((x6_1).toNat * 10)).block, (ad335.add ((x6_1).toNat * 10)).off + 4, none⟩ = some (.int .i64 ((rd_T25 t332 x6_1).f4)) ∧ w'.cell? ⟨(ad335.add ((x6_1).toNat * 10)).block, (ad335.add ((x6_1).toNat * 10)).off + 5, none⟩ = some (.int .i64 ((rd_T25 t332 x6_1).f5)) ∧ w'.cell? ⟨(ad335.add ((x6_1).toNat * 10)).block, (ad335.add ((x6_1).toNat * 10)).off + 6, none⟩ = some (.int .u64 ((rd_T25 t332 x6_1).f6)) ∧ w'.cell? ⟨(ad335.add ((x6_1).toNat * 10)).block, (ad335.add ((x6_1).toNat * 10)).off + 7, none⟩ = some (.int .i64 ((rd_T25 t332 x6_1).f7)) ∧ w'.cell? ⟨(ad335.add ((x6_1).toNat * 10)).block, (ad335.add ((x6_1).toNat * 10)).off + 8, none⟩ = some (.int .i64 ((rd_T25 t332 x6_1).f8)) ∧ w'.cell? ⟨(ad335.add ((x6_1).toNat * 10)).block, (ad335.add ((x6_1).toNat * 10)).off + 9, none⟩ = some (.int .i64 ((rd_T25 t332 x6_1).f9)) ∧ w'.cell? (ad335.add ((x6_1).toNat * 10)) = some (.int .i64 ((rd_T25 t332 x6_1).f0)) ∧ w'.cell? ⟨(ad335.add ((x6_1).toNat * 10)).block, (ad335.add ((x6_1).toNat * 10)).off + 1, none⟩ = some (.int .i64 ((rd_T25 t332 x6_1).f1)) ∧ w'.cell? ⟨(ad335.add ((x6_1).toNat * 10)).block, (ad335.add ((x6_1).toNat * 10)).off + 2, none⟩ = some (.int .i64 ((rd_T25 t332 x6_1).f2)) ∧ w'.cell? ⟨(ad335.add ((x6_1).toNat * 10)).block, (ad335.add ((x6_1).toNat * 10)).off + 3, none⟩ = some (.int .i64 ((rd_T25 t332 x6_1).f3)) ∧ w'.cell? ⟨(ad335.add ((x6_1).toNat * 10)).block, (ad335.add ((x6_1).toNat * 10)).off + 4, none⟩ = some (.int .i64 ((rd_T25 t332 x6_1).f4)) ∧ w'.cell? ⟨(ad335.add ((x6_1).toNat * 10)).block, (ad335.add ((x6_1).toNat * 10)).off + 5, none⟩ = some (.int .i64 ((rd_T25 t332 x6_1).f5)) ∧ w'.cell? ⟨(ad335.add ((x6_1).toNat * 10)).block, (ad335.add ((x6_1).toNat * 10)).off + 6, none⟩ = some (.int .u64 ((rd_T25 t332 x6_1).f6)) ∧ w'.cell? ⟨(ad335.add ((x6_1).toNat * 10)).block, (ad335.add ((x6_1).toNat * 10)).off + 7, none⟩ = some (.int .i64 ((rd_T25 t332 x6_1).f7)) ∧ w'.cell? ⟨(ad335.add ((x6_1).toNat * 10)).block, (ad335.add ((x6_1).toNat * 10)).off + 8, none⟩ = some (.int .i64 ((rd_T25 t332 x6_1).f8)) ∧ w'.cell? ⟨(ad335.add ((x6_1).toNat * 10)).block, (ad335.add ((x6_1).toNat * 10)).off + 9, none⟩ = some (.int .i64 ((rd_T25 t332 x6_1).f9)) ∧ w'.cell? (ad335.add ((x6_1).toNat * 10)) = some (.int .i64 ((rd_T25 t332 x6_1).f0)) ∧ w'.cell? ⟨(ad335.add ((x6_1).toNat * 10)).block, (ad335.add ((x6_1).toNat * 10)).off + 1, none⟩ = some (.int .i64 ((rd_T25 t332 x6_1).f1)) ∧ w'.cell? ⟨(ad335.add ((x6_1).toNat * 10)).block, (ad335.add ((x6_1).toNat * 10)).off + 2, none⟩ = some (.int .i64 ((rd_T25 t332 x6_1).f2)) ∧ w'.cell? ⟨(ad335.add ((x6_1).toNat * 10)).block, (ad335.add ((x6_1).toNat * 10)).off + 3, none⟩ = some (.int .i64 ((rd_T25 t332 x6_1).f3)) ∧ w'.cell? ⟨(ad335.add ((x6_1).toNat * 10)).block, (ad335.add ((x6_1).toNat * 10)).off + 4, none⟩ = some (.int .i64 ((rd_T25 t332 x6_1).f4)) ∧ w'.cell? ⟨(ad335.add ((x6_1).toNat * 10)).block, (ad335.add ((x6_1).toNat * 10)).off + 5, none⟩ = some (.int .i64 ((rd_T25 t332 x6_1).f5)) ∧ w'.cell? ⟨(ad335.add ((x6_1).toNat * 10)).block, (ad335.add ((x6_1).toNat * 10)).off + 6, none⟩ = some (.int .u64 ((rd_T25 t332 x6_1).f6)) ∧ w'.cell? ⟨(ad335.add ((x6_1).toNat * 10)).block, (ad335.add ((x6_1).toNat * 10)).off + 7, none⟩ = some (.int .i64 ((rd_T25 t332 x6_1).f7)) ∧ w'.cell? ⟨(ad335.add ((x6_1).toNat * 10)).block, (ad335.add ((x6_1).toNat * 10)).off + 8, none⟩ = some (.int .i64 ((rd_T25 t332 x6_1).f8)) ∧ w'.cell? ⟨(ad335.add ((x6_1).toNat * 10)).block, (ad335.add ((x6_1).toNat * 10)).off + 9, none⟩ = some (.int .i64 ((rd_T25 t332 x6_1).f9))) (ds := []) bb2_0 (by kernel_rfl) rfl rfl ⟨hx335_0, hx335_1, hx335_2, hx335_3, hx335_4, hx335_5, hx335_6, hx335_7, hx335_8, hx335_9, hx337_0, hx337_1, hx337_2, hx337_3, hx337_4, hx337_5, hx337_6, hx337_7, hx337_8, hx337_9, hx338_0, hx338_1, hx338_2, hx338_3, hx338_4, hx338_5, hx338_6, hx338_7, hx338_8, hx338_9, hx339_0, hx339_1, hx339_2, hx339_3, hx339_4, hx339_5, hx339_6, hx339_7, hx339_8, hx339_9⟩ (fun hHeld => ?_); refine with_tabW cleatlaw06_AluLoads.tab5 cleatlaw06_AluLoads.bits5 (fun HT_ HW_ => ?_)
           generalize wr.drew = w26 at HO_5 BK331 HB hx335_0 hx335_1 hx335_2 hx335_3 hx335_4 hx335_5 hx335_6 hx335_7 hx335_8 hx335_9 hx337_0 hx337_1 hx337_2 hx337_3 hx337_4 hx337_5 hx337_6 hx337_7 hx337_8 hx337_9 hx338_0 hx338_1 hx338_2 hx338_3 hx338_4 hx338_5 hx338_6 hx338_7 hx338_8 hx338_9 hx339_0 hx339_1 hx339_2 hx339_3 hx339_4 hx339_5 hx339_6 hx339_7 hx339_8 hx339_9 hHeld ⊢
           refine pure_ (i := 0) (N := some 17) (v := ?_) (a' := ?_) bb2_1 rfl rfl (any_of HT_.out (by kernel_rfl)) (fun _ _ _ h => h) (Or.inl ⟨by rfl, ?_⟩) ?_ ?_
           rotate_left
           · intro w'; go_simp; with_reducible rfl
           rotate_left
           · simp only [qa_, qb_, qc_, qd_, i64_w, i32_w]; rfl
           refine pure_ (i := 1) (N := some 18) (v := ?_) (a' := ?_) bb2_2 rfl rfl (any_of HT_.out (by kernel_rfl)) (fun _ _ _ h => h) (Or.inl ⟨by rfl, ?_⟩) ?_ ?_
           rotate_left
           · intro w'; go_simp; with_reducible rfl
           rotate_left
           · simp only [qa_, qb_, qc_, qd_, i64_w, i32_w]; rfl
           refine pure_ (i := 2) (N := some 19) (v := ?_) (a' := ?_) bb2_3 rfl rfl (any_of HT_.out (by kernel_rfl)) (fun _ _ _ h => h) (Or.inl ⟨by rfl, ?_⟩) ?_ ?_
           rotate_left
           · intro w'; go_simp; with_reducible rfl
           rotate_left
           · simp only [qa_, qb_, qc_, qd_, i64_w, i32_w]; rfl
           refine take_ (i := 3) (N := some 20) (v := ?_) (a' := ?_) bb2_4 rfl rfl (take_ofW HT_.out HW_.out (by kernel_rfl)) (fun _ _ _ h => h) (Or.inl ⟨by rfl, ?_⟩) hHeld ?_ ?_
           rotate_left
           · rintro w' ⟨s0, s1, s2, s3, s4, s5, s6, s7, s8, s9, s10, s11, s12, s13, s14, s15, s16, s17, s18, s19, s20, s21, s22, s23, s24, s25, s26, s27, s28, s29, s30, s31, s32, s33, s34, s35, s36, s37, s38, s39⟩; go_simp; with_reducible rfl
           rotate_left
           · simp only [qa_, qb_, qc_, qd_, i64_w, i32_w]; rfl
           refine one_ (i := 4) (N := some 21) bb2_5 rfl rfl (one_of HT_.out (by kernel_rfl)) (by decide) (fun K hK => ?_)
           refine goes_ Tryd.func16 (by kernel_rfl) rfl #[.agg #[.int .i64 ((rd_T25 t332 x6_1).f0), .int .i64 ((rd_T25 t332 x6_1).f1), .int .i64 ((rd_T25 t332 x6_1).f2), .int .i64 ((rd_T25 t332 x6_1).f3), .int .i64 ((rd_T25 t332 x6_1).f4), .int .i64 ((rd_T25 t332 x6_1).f5), .int .u64 ((rd_T25 t332 x6_1).f6), .int .i64 ((rd_T25 t332 x6_1).f7), .int .i64 ((rd_T25 t332 x6_1).f8), .int .i64 ((rd_T25 t332 x6_1).f9)]] (by rfl) rfl rfl (by (try simp only [List.map_toArray, List.map_cons, List.map_nil]); first | done | rfl | (simp only [List.length_drop, List.length_take]; rfl)) ?_
           with_reducible refine (inst_Is.calls k1 ((rd_T25 t332 x6_1).f0) ((rd_T25 t332 x6_1).f1) ((rd_T25 t332 x6_1).f2) ((rd_T25 t332 x6_1).f3) ((rd_T25 t332 x6_1).f4) ((rd_T25 t332 x6_1).f5) ((rd_T25 t332 x6_1).f6) ((rd_T25 t332 x6_1).f7) ((rd_T25 t332 x6_1).f8) ((rd_T25 t332 x6_1).f9) true _ A10.out).mono ?_
           rintro e w27 ⟨rfl, hb⟩
           have HS0_ := pw_cell_below hb hHeld.1
           have HS1_ := pw_cell_below hb hHeld.2.1
           have HS2_ := pw_cell_below hb hHeld.2.2.1
           have HS3_ := pw_cell_below hb hHeld.2.2.2.1
           have HS4_ := pw_cell_below hb hHeld.2.2.2.2.1
           have HS5_ := pw_cell_below hb hHeld.2.2.2.2.2.1
           have HS6_ := pw_cell_below hb hHeld.2.2.2.2.2.2.1
           have HS7_ := pw_cell_below hb hHeld.2.2.2.2.2.2.2.1
           have HS8_ := pw_cell_below hb hHeld.2.2.2.2.2.2.2.2.1
           have HS9_ := pw_cell_below hb hHeld.2.2.2.2.2.2.2.2.2.1
           have HS10_ := pw_cell_below hb hHeld.2.2.2.2.2.2.2.2.2.2.1
           have HS11_ := pw_cell_below hb hHeld.2.2.2.2.2.2.2.2.2.2.2.1
           have HS12_ := pw_cell_below hb hHeld.2.2.2.2.2.2.2.2.2.2.2.2.1
           have HS13_ := pw_cell_below hb hHeld.2.2.2.2.2.2.2.2.2.2.2.2.2.1
           have HS14_ := pw_cell_below hb hHeld.2.2.2.2.2.2.2.2.2.2.2.2.2.2.1
           have HS15_ := pw_cell_below hb hHeld.2.2.2.2.2.2.2.2.2.2.2.2.2.2.2.1
           have HS16_ := pw_cell_below hb hHeld.2.2.2.2.2.2.2.2.2.2.2.2.2.2.2.2.1
           have HS17_ := pw_cell_below hb hHeld.2.2.2.2.2.2.2.2.2.2.2.2.2.2.2.2.2.1
           have HS18_ := pw_cell_below hb hHeld.2.2.2.2.2.2.2.2.2.2.2.2.2.2.2.2.2.2.1
           have HS19_ := pw_cell_below hb hHeld.2.2.2.2.2.2.2.2.2.2.2.2.2.2.2.2.2.2.2.1
           have HS20_ := pw_cell_below hb hHeld.2.2.2.2.2.2.2.2.2.2.2.2.2.2.2.2.2.2.2.2.1
           have HS21_ := pw_cell_below hb hHeld.2.2.2.2.2.2.2.2.2.2.2.2.2.2.2.2.2.2.2.2.2.1
           have HS22_ := pw_cell_below hb hHeld.2.2.2.2.2.2.2.2.2.2.2.2.2.2.2.2.2.2.2.2.2.2.1
           have HS23_ := pw_cell_below hb hHeld.2.2.2.2.2.2.2.2.2.2.2.2.2.2.2.2.2.2.2.2.2.2.2.1
           have HS24_ := pw_cell_below hb hHeld.2.2.2.2.2.2.2.2.2.2.2.2.2.2.2.2.2.2.2.2.2.2.2.2.1
           have HS25_ := pw_cell_below hb hHeld.2.2.2.2.2.2.2.2.2.2.2.2.2.2.2.2.2.2.2.2.2.2.2.2.2.1
           have HS26_ := pw_cell_below hb hHeld.2.2.2.2.2.2.2.2.2.2.2.2.2.2.2.2.2.2.2.2.2.2.2.2.2.2.1
           have HS27_ := pw_cell_below hb hHeld.2.2.2.2.2.2.2.2.2.2.2.2.2.2.2.2.2.2.2.2.2.2.2.2.2.2.2.1
           have HS28_ := pw_cell_below hb hHeld.2.2.2.2.2.2.2.2.2.2.2.2.2.2.2.2.2.2.2.2.2.2.2.2.2.2.2.2.1
           have HS29_ := pw_cell_below hb hHeld.2.2.2.2.2.2.2.2.2.2.2.2.2.2.2.2.2.2.2.2.2.2.2.2.2.2.2.2.2.1
           have HS30_ := pw_cell_below hb hHeld.2.2.2.2.2.2.2.2.2.2.2.2.2.2.2.2.2.2.2.2.2.2.2.2.2.2.2.2.2.2.1
           have HS31_ := pw_cell_below hb hHeld.2.2.2.2.2.2.2.2.2.2.2.2.2.2.2.2.2.2.2.2.2.2.2.2.2.2.2.2.2.2.2.1
           have HS32_ := pw_cell_below hb hHeld.2.2.2.2.2.2.2.2.2.2.2.2.2.2.2.2.2.2.2.2.2.2.2.2.2.2.2.2.2.2.2.2.1
           have HS33_ := pw_cell_below hb hHeld.2.2.2.2.2.2.2.2.2.2.2.2.2.2.2.2.2.2.2.2.2.2.2.2.2.2.2.2.2.2.2.2.2.1
           have HS34_ := pw_cell_below hb hHeld.2.2.2.2.2.2.2.2.2.2.2.2.2.2.2.2.2.2.2.2.2.2.2.2.2.2.2.2.2.2.2.2.2.2.1
           have HS35_ := pw_cell_below hb hHeld.2.2.2.2.2.2.2.2.2.2.2.2.2.2.2.2.2.2.2.2.2.2.2.2.2.2.2.2.2.2.2.2.2.2.2.1
           have HS36_ := pw_cell_below hb hHeld.2.2.2.2.2.2.2.2.2.2.2.2.2.2.2.2.2.2.2.2.2.2.2.2.2.2.2.2.2.2.2.2.2.2.2.2.1
           have HS37_ := pw_cell_below hb hHeld.2.2.2.2.2.2.2.2.2.2.2.2.2.2.2.2.2.2.2.2.2.2.2.2.2.2.2.2.2.2.2.2.2.2.2.2.2.1
           have HS38_ := pw_cell_below hb hHeld.2.2.2.2.2.2.2.2.2.2.2.2.2.2.2.2.2.2.2.2.2.2.2.2.2.2.2.2.2.2.2.2.2.2.2.2.2.2.1
           have HS39_ := pw_cell_below hb hHeld.2.2.2.2.2.2.2.2.2.2.2.2.2.2.2.2.2.2.2.2.2.2.2.2.2.2.2.2.2.2.2.2.2.2.2.2.2.2.2
           refine ⟨_, rfl, ?_⟩
           have n0_ := Aside0.mk (Kd.R_below (by (with_reducible repeat (first | apply Kd.R_alloc | apply Kd.R_drewN | apply Kd.R_drew)); exact HO_5.out) hb)
           have n1_ := Aside0.mk (blk_below (g := gb331) (o := .cells #[.int .u64 a1_0, .int .u64 a1_1, .int .u64 a1_2, .int .u64 a1_3] 29 (0, 0)) (by (with_reducible repeat (first | refine blk_drewN ?_ _ | refine blk_drew ?_ | refine blk_alloc ?_ _)); exact BK331.out) hb)
           have n2_ := Aside0.mk (below_step (by repeat (first | (with_reducible first | exact HB.out | apply below_alloc | apply pw_below_drewN | apply below_drew1 | refine below_set ?_ GE331.out) | exact HB.out)) hb)
           clear HO_5
           clear BK331
           clear HB
           have HO_5 := n0_
           have BK331 := n1_
           have HB := n2_
           clear n0_ n1_ n2_
           (try clear hb)
           (try clear hb2)
           (try clear hk)
           (try clear hi)
           refine hK.out _ _ ⟨HS0_, HS1_, HS2_, HS3_, HS4_, HS5_, HS6_, HS7_, HS8_, HS9_, HS10_, HS11_, HS12_, HS13_, HS14_, HS15_, HS16_, HS17_, HS18_, HS19_, HS20_, HS21_, HS22_, HS23_, HS24_, HS25_, HS26_, HS27_, HS28_, HS29_, HS30_, HS31_, HS32_, HS33_, HS34_, HS35_, HS36_, HS37_, HS38_, HS39_⟩ (fun hHeld => ?_)
           clear hK K
           refine norm_ (a' := ?_) ?_ ?_
           rotate_left
           ·
            show Act.put _ (some 21) _ = _
            simp only [qa_, qb_, qc_, qd_, i64_w, i32_w]
            rfl
           refine pure_ (i := 5) (N := some 22) (v := ?_) (a' := ?_) bb2_6 rfl rfl (any_of HT_.out (by kernel_rfl)) (fun _ _ _ h => h) (Or.inl ⟨by rfl, ?_⟩) ?_ ?_
           rotate_left
           · intro w'; go_simp; with_reducible rfl
           rotate_left
           · simp only [qa_, qb_, qc_, qd_, i64_w, i32_w]; rfl
           refine pure_ (i := 6) (N := some 23) (v := ?_) (a' := ?_) bb2_7 rfl rfl (any_of HT_.out (by kernel_rfl)) (fun _ _ _ h => h) (Or.inl ⟨by rfl, ?_⟩) ?_ ?_
           rotate_left
           · intro w'; go_simp; with_reducible rfl
           rotate_left
           · simp only [qa_, qb_, qc_, qd_, i64_w, i32_w]; rfl
           refine pure_ (i := 7) (N := some 24) (v := ?_) (a' := ?_) bb2_8 rfl rfl (any_of HT_.out (by kernel_rfl)) (fun _ _ _ h => h) (Or.inl ⟨by rfl, ?_⟩) ?_ ?_
           rotate_left
           · intro w'; go_simp; with_reducible rfl
           rotate_left
           · simp only [qa_, qb_, qc_, qd_, i64_w, i32_w]; rfl
           refine pure_ (i := 8) (N := some 25) (v := ?_) (a' := ?_) bb2_9 rfl rfl (any_of HT_.out (by kernel_rfl)) (fun _ _ _ h => h) (Or.inl ⟨by rfl, ?_⟩) ?_ ?_
           rotate_left
           · intro w'; go_simp; with_reducible rfl
           rotate_left
           · simp only [qa_, qb_, qc_, qd_, i64_w, i32_w]; rfl
           refine pure_ (i := 9) (N := some 26) (v := ?_) (a' := ?_) bb2_10 rfl rfl (any_of HT_.out (by kernel_rfl)) (fun _ _ _ h => h) (Or.inl ⟨by rfl, ?_⟩) ?_ ?_
           rotate_left
           · intro w'; go_simp; with_reducible rfl
           rotate_left
           · simp only [qa_, qb_, qc_, qd_, i64_w, i32_w]; rfl
           refine pure_ (i := 10) (N := some 27) (v := ?_) (a' := ?_) bb2_11 rfl rfl (any_of HT_.out (by kernel_rfl)) (fun _ _ _ h => h) (Or.inl ⟨by rfl, ?_⟩) ?_ ?_
           rotate_left
           · intro w'; go_simp; with_reducible rfl
           rotate_left
           · simp only [qa_, qb_, qc_, qd_, i64_w, i32_w]; rfl
           refine take_ (i := 11) (N := some 28) (v := ?_) (a' := ?_) bb2_12 rfl rfl (take_ofW HT_.out HW_.out (by kernel_rfl)) (fun _ _ _ h => h) (Or.inl ⟨by rfl, ?_⟩) hHeld ?_ ?_
           rotate_left
           · rintro w' ⟨s0, s1, s2, s3, s4, s5, s6, s7, s8, s9, s10, s11, s12, s13, s14, s15, s16, s17, s18, s19, s20, s21, s22, s23, s24, s25, s26, s27, s28, s29, s30, s31, s32, s33, s34, s35, s36, s37, s38, s39⟩; go_simp; with_reducible rfl
           rotate_left
           · simp only [qa_, qb_, qc_, qd_, i64_w, i32_w]; rfl
           refine pure_ (i := 12) (N := some 29) (v := ?_) (a' := ?_) bb2_13 rfl rfl (any_of HT_.out (by kernel_rfl)) (fun _ _ _ h => h) (Or.inl ⟨by rfl, ?_⟩) ?_ ?_
           rotate_left
           · intro w'; go_simp; with_reducible rfl
           rotate_left
           · simp only [qa_, qb_, qc_, qd_, i64_w, i32_w]; rfl
           refine pure_ (i := 13) (N := some 30) (v := ?_) (a' := ?_) bb2_14 rfl rfl (any_of HT_.out (by kernel_rfl)) (fun _ _ _ h => h) (Or.inl ⟨by rfl, ?_⟩) ?_ ?_
           rotate_left
           · intro w'; go_simp; with_reducible rfl
           rotate_left
           · simp only [qa_, qb_, qc_, qd_, i64_w, i32_w]; rfl
           refine pure_ (i := 14) (N := some 31) (v := ?_) (a' := ?_) bb2_15 rfl rfl (any_of HT_.out (by kernel_rfl)) (fun _ _ _ h => h) (Or.inl ⟨by rfl, ?_⟩) ?_ ?_
           rotate_left
           · intro w'; go_simp; with_reducible rfl
           rotate_left
           · simp only [qa_, qb_, qc_, qd_, i64_w, i32_w]; rfl
           refine pure_ (i := 15) (N := some 32) (v := ?_) (a' := ?_) bb2_16 rfl rfl (any_of HT_.out (by kernel_rfl)) (fun _ _ _ h => h) (Or.inl ⟨by rfl, ?_⟩) ?_ ?_
           rotate_left
           · intro w'; go_simp; with_reducible rfl
           rotate_left
           · simp only [qa_, qb_, qc_, qd_, i64_w, i32_w]; rfl
           refine pure_ (i := 16) (N := some 33) (v := ?_) (a' := ?_) bb2_17 rfl rfl (any_of HT_.out (by kernel_rfl)) (fun _ _ _ h => h) (Or.inl ⟨by rfl, ?_⟩) ?_ ?_
           rotate_left
           · intro w'; go_simp; with_reducible rfl
           rotate_left
           · simp only [qa_, qb_, qc_, qd_, i64_w, i32_w]; rfl
           refine pure_ (i := 17) (N := some 34) (v := ?_) (a' := ?_) bb2_18 rfl rfl (any_of HT_.out (by kernel_rfl)) (fun _ _ _ h => h) (Or.inl ⟨by rfl, ?_⟩) ?_ ?_
           rotate_left
           · intro w'; go_simp; with_reducible rfl
           rotate_left
           · simp only [qa_, qb_, qc_, qd_, i64_w, i32_w]; rfl
           refine pure_ (i := 18) (N := some 35) (v := ?_) (a' := ?_) bb2_19 rfl rfl (any_of HT_.out (by kernel_rfl)) (fun _ _ _ h => h) (Or.inl ⟨by rfl, ?_⟩) ?_ ?_
           rotate_left
           · intro w'; go_simp; with_reducible rfl
           rotate_left
           · simp only [qa_, qb_, qc_, qd_, i64_w, i32_w]; rfl
           refine pure_ (i := 21) (N := some 38) (v := ?_) (a' := ?_) bb2_20 rfl rfl (any_of HT_.out (by kernel_rfl)) (fun _ _ _ h => h) (Or.inl ⟨by rfl, ?_⟩) ?_ ?_
           rotate_left
           · intro w'; go_simp; with_reducible rfl
           rotate_left
           · simp only [qa_, qb_, qc_, qd_, i64_w, i32_w]; rfl
           refine pure_ (i := 22) (N := some 39) (v := ?_) (a' := ?_) bb2_21 rfl rfl (any_of HT_.out (by kernel_rfl)) (fun _ _ _ h => h) (Or.inl ⟨by rfl, ?_⟩) ?_ ?_
           rotate_left
           · intro w'; go_simp; with_reducible rfl
           rotate_left
           · simp only [qa_, qb_, qc_, qd_, i64_w, i32_w]; rfl
           refine take_ (i := 19) (N := some 36) (v := ?_) (a' := ?_) bb2_22 rfl rfl (take_ofW HT_.out HW_.out (by kernel_rfl)) (fun _ _ _ h => h) (Or.inl ⟨by rfl, ?_⟩) hHeld ?_ ?_
           rotate_left
           · rintro w' ⟨s0, s1, s2, s3, s4, s5, s6, s7, s8, s9, s10, s11, s12, s13, s14, s15, s16, s17, s18, s19, s20, s21, s22, s23, s24, s25, s26, s27, s28, s29, s30, s31, s32, s33, s34, s35, s36, s37, s38, s39⟩; go_simp; with_reducible rfl
           rotate_left
           · simp only [qa_, qb_, qc_, qd_, i64_w, i32_w]; rfl
           refine pure_ (i := 20) (N := some 37) (v := ?_) (a' := ?_) bb2_23 rfl rfl (any_of HT_.out (by kernel_rfl)) (fun _ _ _ h => h) (Or.inl ⟨by rfl, ?_⟩) ?_ ?_
           rotate_left
           · intro w'; go_simp; with_reducible rfl
           rotate_left
           · simp only [qa_, qb_, qc_, qd_, i64_w, i32_w]; rfl
           refine pure_ (i := 23) (N := some 40) (v := ?_) (a' := ?_) bb2_24 rfl rfl (any_of HT_.out (by kernel_rfl)) (fun _ _ _ h => h) (Or.inl ⟨by rfl, ?_⟩) ?_ ?_
           rotate_left
           · intro w'; go_simp; with_reducible rfl
           rotate_left
           · simp only [qa_, qb_, qc_, qd_, i64_w, i32_w]; rfl
           refine pure_ (i := 24) (N := some 41) (v := ?_) (a' := ?_) bb2_25 rfl rfl (any_of HT_.out (by kernel_rfl)) (fun _ _ _ h => h) (Or.inl ⟨by rfl, ?_⟩) ?_ ?_
           rotate_left
           · intro w'; go_simp; with_reducible rfl
           rotate_left
           · simp only [qa_, qb_, qc_, qd_, i64_w, i32_w]; rfl
           refine pure_ (i := 25) (N := some 42) (v := ?_) (a' := ?_) bb2_26 rfl rfl (any_of HT_.out (by kernel_rfl)) (fun _ _ _ h => h) (Or.inl ⟨by rfl, ?_⟩) ?_ ?_
           rotate_left
           · intro w'; go_simp; with_reducible rfl
           rotate_left
           · simp only [qa_, qb_, qc_, qd_, i64_w, i32_w]; rfl
           refine pure_ (i := 26) (N := some 43) (v := ?_) (a' := ?_) bb2_27 rfl rfl (any_of HT_.out (by kernel_rfl)) (fun _ _ _ h => h) (Or.inl ⟨by rfl, ?_⟩) ?_ ?_
           rotate_left
           · intro w'; go_simp; with_reducible rfl
           rotate_left
           · simp only [qa_, qb_, qc_, qd_, i64_w, i32_w]; rfl
           refine pure_ (i := 27) (N := some 44) (v := ?_) (a' := ?_) bb2_28 rfl rfl (any_of HT_.out (by kernel_rfl)) (fun _ _ _ h => h) (Or.inl ⟨by rfl, ?_⟩) ?_ ?_
           rotate_left
           · intro w'; go_simp; with_reducible rfl
           rotate_left
           · simp only [qa_, qb_, qc_, qd_, i64_w, i32_w]; rfl
           refine pure_ (i := 28) (N := some 45) (v := ?_) (a' := ?_) bb2_29 rfl rfl (any_of HT_.out (by kernel_rfl)) (fun _ _ _ h => h) (Or.inl ⟨by rfl, ?_⟩) ?_ ?_
           rotate_left
           · intro w'; go_simp; with_reducible rfl
           rotate_left
           · simp only [qa_, qb_, qc_, qd_, i64_w, i32_w]; rfl
           refine pure_ (i := 29) (N := some 46) (v := ?_) (a' := ?_) bb2_30 rfl rfl (any_of HT_.out (by kernel_rfl)) (fun _ _ _ h => h) (Or.inl ⟨by rfl, ?_⟩) ?_ ?_
           rotate_left
           · intro w'; go_simp; with_reducible rfl
           rotate_left
           · simp only [qa_, qb_, qc_, qd_, i64_w, i32_w]; rfl
           refine pure_ (i := 30) (N := some 47) (v := ?_) (a' := ?_) bb2_31 rfl rfl (any_of HT_.out (by kernel_rfl)) (fun _ _ _ h => h) (Or.inl ⟨by rfl, ?_⟩) ?_ ?_
           rotate_left
           · intro w'; go_simp; with_reducible rfl
           rotate_left
           · simp only [qa_, qb_, qc_, qd_, i64_w, i32_w]; rfl
           refine pure_ (i := 31) (N := some 48) (v := ?_) (a' := ?_) bb2_32 rfl rfl (any_of HT_.out (by kernel_rfl)) (fun _ _ _ h => h) (Or.inl ⟨by rfl, ?_⟩) ?_ ?_
           rotate_left
           · intro w'; go_simp; with_reducible rfl
           rotate_left
           · simp only [qa_, qb_, qc_, qd_, i64_w, i32_w]; rfl
           refine pure_ (i := 32) (N := some 49) (v := ?_) (a' := ?_) bb2_33 rfl rfl (any_of HT_.out (by kernel_rfl)) (fun _ _ _ h => h) (Or.inl ⟨by rfl, ?_⟩) ?_ ?_
           rotate_left
           · intro w'; go_simp; with_reducible rfl
           rotate_left
           · simp only [qa_, qb_, qc_, qd_, i64_w, i32_w]; rfl
           refine take_ (i := 33) (N := some 50) (v := ?_) (a' := ?_) bb2_34 rfl rfl (take_ofW HT_.out HW_.out (by kernel_rfl)) (fun _ _ _ h => h) (Or.inl ⟨by rfl, ?_⟩) hHeld ?_ ?_
           rotate_left
           · rintro w' ⟨s0, s1, s2, s3, s4, s5, s6, s7, s8, s9, s10, s11, s12, s13, s14, s15, s16, s17, s18, s19, s20, s21, s22, s23, s24, s25, s26, s27, s28, s29, s30, s31, s32, s33, s34, s35, s36, s37, s38, s39⟩; go_simp; with_reducible rfl
           rotate_left
           · simp only [qa_, qb_, qc_, qd_, i64_w, i32_w]; rfl
           refine pure_ (i := 34) (N := some 51) (v := ?_) (a' := ?_) bb2_35 rfl rfl (any_of HT_.out (by kernel_rfl)) (fun _ _ _ h => h) (Or.inl ⟨by rfl, ?_⟩) ?_ ?_
           rotate_left
           · intro w'; go_simp; with_reducible rfl
           rotate_left
           · simp only [qa_, qb_, qc_, qd_, i64_w, i32_w]; rfl
           refine pure_ (i := 35) (N := some 52) (v := ?_) (a' := ?_) bb2_36 rfl rfl (any_of HT_.out (by kernel_rfl)) (fun _ _ _ h => h) (Or.inl ⟨by rfl, ?_⟩) ?_ ?_
           rotate_left
           · intro w'; go_simp; with_reducible rfl
           rotate_left
           · simp only [qa_, qb_, qc_, qd_, i64_w, i32_w]; rfl
           refine pure_ (i := 36) (N := some 53) (v := undef) (a' := ?_) bb2_37 rfl rfl (any_of HT_.out (by kernel_rfl)) (fun _ _ _ h => h) (Or.inr ⟨by rfl, rfl⟩) ?_ ?_
           rotate_left
           · simp only [qa_, qb_, qc_, qd_, i64_w, i32_w]; rfl
           refine pure_ (i := 37) (N := some 54) (v := undef) (a' := ?_) bb2_38 rfl rfl (any_of HT_.out (by kernel_rfl)) (fun _ _ _ h => h) (Or.inr ⟨by rfl, rfl⟩) ?_ ?_
           rotate_left
           · simp only [qa_, qb_, qc_, qd_, i64_w, i32_w]; rfl
           refine pure_ (i := 38) (N := some 55) (v := undef) (a' := ?_) bb2_39 rfl rfl (any_of HT_.out (by kernel_rfl)) (fun _ _ _ h => h) (Or.inr ⟨by rfl, rfl⟩) ?_ ?_
           rotate_left
           · simp only [qa_, qb_, qc_, qd_, i64_w, i32_w]; rfl
           refine pure_ (i := 39) (N := some 56) (v := undef) (a' := ?_) bb2_40 rfl rfl (any_of HT_.out (by kernel_rfl)) (fun _ _ _ h => h) (Or.inr ⟨by rfl, rfl⟩) ?_ ?_
           rotate_left
           · simp only [qa_, qb_, qc_, qd_, i64_w, i32_w]; rfl
           refine pure_ (i := 40) (N := some 57) (v := undef) (a' := ?_) bb2_41 rfl rfl (any_of HT_.out (by kernel_rfl)) (fun _ _ _ h => h) (Or.inr ⟨by rfl, rfl⟩) ?_ ?_
           rotate_left
           · simp only [qa_, qb_, qc_, qd_, i64_w, i32_w]; rfl
           refine pure_ (i := 41) (N := some 58) (v := undef) (a' := ?_) bb2_42 rfl rfl (any_of HT_.out (by kernel_rfl)) (fun _ _ _ h => h) (Or.inr ⟨by rfl, rfl⟩) ?_ ?_
           rotate_left
           · simp only [qa_, qb_, qc_, qd_, i64_w, i32_w]; rfl
           refine pure_ (i := 42) (N := some 59) (v := ?_) (a' := ?_) bb2_43 rfl rfl (any_of HT_.out (by kernel_rfl)) (fun _ _ _ h => h) (Or.inl ⟨by rfl, ?_⟩) ?_ ?_
           rotate_left
           · intro w'; go_simp; with_reducible rfl
           rotate_left
           · simp only [qa_, qb_, qc_, qd_, i64_w, i32_w]; rfl
           refine pure_ (i := 43) (N := some 60) (v := ?_) (a' := ?_) bb2_44 rfl rfl (any_of HT_.out (by kernel_rfl)) (fun _ _ _ h => h) (Or.inl ⟨by rfl, ?_⟩) ?_ ?_
           rotate_left
           · intro w'; go_simp; with_reducible rfl
           rotate_left
           · simp only [qa_, qb_, qc_, qd_, i64_w, i32_w]; rfl
           refine pure_ (i := 44) (N := some 61) (v := undef) (a' := ?_) bb2_45 rfl rfl (any_of HT_.out (by kernel_rfl)) (fun _ _ _ h => h) (Or.inr ⟨by rfl, rfl⟩) ?_ ?_
           rotate_left
           · simp only [qa_, qb_, qc_, qd_, i64_w, i32_w]; rfl
           refine pure_ (i := 45) (N := some 62) (v := undef) (a' := ?_) bb2_46 rfl rfl (any_of HT_.out (by kernel_rfl)) (fun _ _ _ h => h) (Or.inr ⟨by rfl, rfl⟩) ?_ ?_
           rotate_left
           · simp only [qa_, qb_, qc_, qd_, i64_w, i32_w]; rfl
           refine pure_ (i := 46) (N := some 63) (v := undef) (a' := ?_) bb2_47 rfl rfl (any_of HT_.out (by kernel_rfl)) (fun _ _ _ h => h) (Or.inr ⟨by rfl, rfl⟩) ?_ ?_
           rotate_left
           · simp only [qa_, qb_, qc_, qd_, i64_w, i32_w]; rfl
           refine pure_ (i := 47) (N := some 64) (v := undef) (a' := ?_) bb2_48 rfl rfl (any_of HT_.out (by kernel_rfl)) (fun _ _ _ h => h) (Or.inr ⟨by rfl, rfl⟩) ?_ ?_
           rotate_left
           · simp only [qa_, qb_, qc_, qd_, i64_w, i32_w]; rfl
           refine pure_ (i := 48) (N := some 65) (v := undef) (a' := ?_) bb2_49 rfl rfl (any_of HT_.out (by kernel_rfl)) (fun _ _ _ h => h) (Or.inr ⟨by rfl, rfl⟩) ?_ ?_
           rotate_left
           · simp only [qa_, qb_, qc_, qd_, i64_w, i32_w]; rfl
           refine pure_ (i := 49) (N := some 66) (v := undef) (a' := ?_) bb2_50 rfl rfl (any_of HT_.out (by kernel_rfl)) (fun _ _ _ h => h) (Or.inr ⟨by rfl, rfl⟩) ?_ ?_
           rotate_left
           · simp only [qa_, qb_, qc_, qd_, i64_w, i32_w]; rfl
           refine pure_ (i := 50) (N := some 67) (v := undef) (a' := ?_) bb2_51 rfl rfl (any_of HT_.out (by kernel_rfl)) (fun _ _ _ h => h) (Or.inr ⟨by rfl, rfl⟩) ?_ ?_
           rotate_left
           · simp only [qa_, qb_, qc_, qd_, i64_w, i32_w]; rfl
           refine pure_ (i := 51) (N := some 68) (v := undef) (a' := ?_) bb2_52 rfl rfl (any_of HT_.out (by kernel_rfl)) (fun _ _ _ h => h) (Or.inr ⟨by rfl, rfl⟩) ?_ ?_
           rotate_left
           · simp only [qa_, qb_, qc_, qd_, i64_w, i32_w]; rfl
           refine pure_ (i := 52) (N := some 69) (v := undef) (a' := ?_) bb2_53 rfl rfl (any_of HT_.out (by kernel_rfl)) (fun _ _ _ h => h) (Or.inr ⟨by rfl, rfl⟩) ?_ ?_
           rotate_left
           · simp only [qa_, qb_, qc_, qd_, i64_w, i32_w]; rfl
           refine pure_ (i := 53) (N := some 70) (v := undef) (a' := ?_) bb2_54 rfl rfl (any_of HT_.out (by kernel_rfl)) (fun _ _ _ h => h) (Or.inr ⟨by rfl, rfl⟩) ?_ ?_
           rotate_left
           · simp only [qa_, qb_, qc_, qd_, i64_w, i32_w]; rfl
           refine pure_ (i := 54) (N := some 71) (v := undef) (a' := ?_) bb2_55 rfl rfl (any_of HT_.out (by kernel_rfl)) (fun _ _ _ h => h) (Or.inr ⟨by rfl, rfl⟩) ?_ ?_
           rotate_left
           · simp only [qa_, qb_, qc_, qd_, i64_w, i32_w]; rfl
           refine pure_ (i := 55) (N := some 72) (v := undef) (a' := ?_) bb2_56 rfl rfl (any_of HT_.out (by kernel_rfl)) (fun _ _ _ h => h) (Or.inr ⟨by rfl, rfl⟩) ?_ ?_
           rotate_left
           · simp only [qa_, qb_, qc_, qd_, i64_w, i32_w]; rfl
           refine pure_ (i := 56) (N := some 73) (v := ?_) (a' := ?_) bb2_57 rfl rfl (any_of HT_.out (by kernel_rfl)) (fun _ _ _ h => h) (Or.inl ⟨by rfl, ?_⟩) ?_ ?_
           rotate_left
           · intro w'; go_simp; with_reducible rfl
           rotate_left
           · simp only [qa_, qb_, qc_, qd_, i64_w, i32_w]; rfl
           refine pure_ (i := 57) (N := some 74) (v := ?_) (a' := ?_) bb2_58 rfl rfl (any_of HT_.out (by kernel_rfl)) (fun _ _ _ h => h) (Or.inl ⟨by rfl, ?_⟩) ?_ ?_
           rotate_left
           · intro w'; go_simp; with_reducible rfl
           rotate_left
           · simp only [qa_, qb_, qc_, qd_, i64_w, i32_w]; rfl
           refine pure_ (i := 58) (N := some 75) (v := ?_) (a' := ?_) bb2_59 rfl rfl (any_of HT_.out (by kernel_rfl)) (fun _ _ _ h => h) (Or.inl ⟨by rfl, ?_⟩) ?_ ?_
           rotate_left
           · intro w'; go_simp; with_reducible rfl
           rotate_left
           · simp only [qa_, qb_, qc_, qd_, i64_w, i32_w]; rfl
           refine done_ (done_of HT_.out (by kernel_rfl)) ?_
           try go_wp2
           go_meet
           case rel => exact ⟨_, (true), (by first | rfl | (simp; done) | (simp [*]; done)), H', ⟨by have := HK1.out; first | omega | exact Nat.le_refl _⟩, ⟨by (with_reducible repeat (first | apply Kd.R_alloc | apply Kd.R_drewN | apply Kd.R_drew)); exact HO_5.out⟩, ⟨by (with_reducible repeat (first | refine blk_drewN ?_ _ | refine blk_drew ?_ | refine blk_alloc ?_ _)); exact BK331.out⟩, ⟨by repeat (first | (with_reducible first | exact HB.out | apply below_alloc | apply pw_below_drewN | apply below_drew1 | refine below_set ?_ GE331.out) | exact HB.out)⟩⟩
         ·
          rw [if_neg c16] at H
          have c16b0 : decide (0 < x6_1) = false := decide_eq_false c16
          clear c16
          have H' := Aside0.mk H
          clear H
          try go_wp2
          have n0_ := Aside0.mk (Kd.R_drew HO_5.out)
          have n1_ := Aside0.mk (blk_drew BK331.out)
          have n2_ := Aside0.mk (below_drew1 HB.out)
          clear HO_5
          clear BK331
          clear HB
          have HO_5 := n0_
          have BK331 := n1_
          have HB := n2_
          clear n0_ n1_ n2_
          have p335 : 0 ≤ (x6_1 : Int) := of_decide_eq_true (by first | (with_reducible assumption) | assumption)
          have q335 : x6_1 < (t332.length : Int) := of_decide_eq_true (by first | (with_reducible assumption) | assumption)
          obtain ⟨ad335, e335, hx335_0, hx335_1, hx335_2, hx335_3, hx335_4, hx335_5, hx335_6, hx335_7, hx335_8, hx335_9⟩ := at_T25 (Kd.R_reads' HO_5.out).2.2 x6_1 p335 q335
          cases e335
          replace p335 := eq_true p335
          replace q335 := eq_true q335
          have p337 : 0 ≤ (x6_1 : Int) := of_decide_eq_true (by first | (with_reducible assumption) | assumption)
          have q337 : x6_1 < (t332.length : Int) := of_decide_eq_true (by first | (with_reducible assumption) | assumption)
          obtain ⟨ad337, e337, hx337_0, hx337_1, hx337_2, hx337_3, hx337_4, hx337_5, hx337_6, hx337_7, hx337_8, hx337_9⟩ := at_T25 (Kd.R_reads' HO_5.out).2.2 x6_1 p337 q337
          obtain rfl : ad335 = ad337 := (by injection e337)
          replace p337 := eq_true p337
          replace q337 := eq_true q337
          have p338 : 0 ≤ (x6_1 : Int) := of_decide_eq_true (by first | (with_reducible assumption) | assumption)
          have q338 : x6_1 < (t332.length : Int) := of_decide_eq_true (by first | (with_reducible assumption) | assumption)
          obtain ⟨ad338, e338, hx338_0, hx338_1, hx338_2, hx338_3, hx338_4, hx338_5, hx338_6, hx338_7, hx338_8, hx338_9⟩ := at_T25 (Kd.R_reads' HO_5.out).2.2 x6_1 p338 q338
          obtain rfl : ad335 = ad338 := (by injection e338)
          replace p338 := eq_true p338
          replace q338 := eq_true q338
          refine start_ (n := 59) (S := fun w' => w'.cell? (ad335.add ((x6_1).toNat * 10)) = some (.int .i64 ((rd_T25 t332 x6_1).f0)) ∧ w'.cell? ⟨(ad335.add ((x6_1).toNat * 10)).block, (ad335.add ((x6_1).toNat * 10)).off + 1, none⟩ = some (.int .i64 ((rd_T25 t332 x6_1).f1)) ∧ w'.cell? ⟨(ad335.add ((x6_1).toNat * 10)).block, (ad335.add ((x6_1).toNat * 10)).off + 2, none⟩ = some (.int .i64 ((rd_T25 t332 x6_1).f2)) ∧ w'.cell? ⟨(ad335.add ((x6_1).toNat * 10)).block, (ad335.add ((x6_1).toNat * 10)).off + 3, none⟩ = some (.int .i64 ((rd_T25 t332 x6_1).f3)) ∧ w'.cell? ⟨(ad335.add ((x6_1).toNat * 10)).block, (ad335.add ((x6_1).toNat * 10)).off + 4, none⟩ = some (.int .i64 ((rd_T25 t332 x6_1).f4)) ∧ w'.cell? ⟨(ad335.add ((x6_1).toNat * 10)).block, (ad335.add ((x6_1).toNat * 10)).off + 5, none⟩ = some (.int .i64 ((rd_T25 t332 x6_1).f5)) ∧ w'.cell? ⟨(ad335.add ((x6_1).toNat * 10)).block, (ad335.add ((x6_1).toNat * 10)).off + 6, none⟩ = some (.int .u64 ((rd_T25 t332 x6_1).f6)) ∧ w'.cell? ⟨(ad335.add ((x6_1).toNat * 10)).block, (ad335.add ((x6_1).toNat * 10)).off + 7, none⟩ = some (.int .i64 ((rd_T25 t332 x6_1).f7)) ∧ w'.cell? ⟨(ad335.add ((x6_1).toNat * 10)).block, (ad335.add ((x6_1).toNat * 10)).off + 8, none⟩ = some (.int .i64 ((rd_T25 t332 x6_1).f8)) ∧ w'.cell? ⟨(ad335.add ((x6_1).toNat * 10)).block, (ad335.add ((x6_1).toNat * 10)).off + 9, none⟩ = some (.int .i64 ((rd_T25 t332 x6_1).f9)) ∧ w'.cell? (ad335.add ((x6_1).toNat * 10)) = some (.int .i64 ((rd_T25 t332 x6_1).f0)) ∧ w'.cell? ⟨(ad335.add ((x6_1).toNat * 10)).block, (ad335.add ((x6_1).toNat * 10)).off + 1, none⟩ = some (.int .i64 ((rd_T25 t332 x6_1).f1)) ∧ w'.cell? ⟨(ad335.add ((x6_1).toNat * 10)).block, (ad335.add ((x6_1).toNat * 10)).off + 2, none⟩ = some (.int .i64 ((rd_T25 t332 x6_1).f2)) ∧ w'.cell? ⟨(ad335.add ((x6_1).toNat * 10)).block, (ad335.add ((x6_1).toNat * 10)).off + 3, none⟩ = some (.int .i64 ((rd_T25 t332 x6_1).f3)) ∧ w'.cell? ⟨(ad335.add ((x6_1).toNat * 10)).block, (ad335.add ((x6_1).toNat * 10)).off + 4, none⟩ = some (.int .i64 ((rd_T25 t332 x6_1).f4)) ∧ w'.cell? ⟨(ad335.add ((x6_1).toNat * 10)).block, (ad335.add ((x6_1).toNat * 10)).off + 5, none⟩ = some (.int .i64 ((rd_T25 t332 x6_1).f5)) ∧ w'.cell? ⟨(ad335.add ((x6_1).toNat * 10)).block, (ad335.add ((x6_1).toNat * 10)).off + 6, none⟩ = some (.int .u64 ((rd_T25 t332 x6_1).f6)) ∧ w'.cell? ⟨(ad335.add ((x6_1).toNat * 10)).block, (ad335.add ((x6_1).toNat * 10)).off + 7, none⟩ = some (.int .i64 ((rd_T25 t332 x6_1).f7)) ∧ w'.cell? ⟨(ad335.add ((x6_1).toNat * 10)).block, (ad335.add ((x6_1).toNat * 10)).off + 8, none⟩ = some (.int .i64 ((rd_T25 t332 x6_1).f8)) ∧ w'.cell? ⟨(ad335.add ((x6_1).toNat * 10)).block, (ad335.add ((x6_1).toNat * 10)).off + 9, none⟩ = some (.int .i64 ((rd_T25 t332 x6_1).f9)) ∧ w'.cell? (ad335.add ((x6_1).toNat * 10)) = some (.int .i64 ((rd_T25 t332 x6_1).f0)) ∧ w'.cell? ⟨(ad335.add ((x6_1).toNat * 10)).block, (ad335.add ((x6_1).toNat * 10)).off + 1, none⟩ = some (.int .i64 ((rd_T25 t332 x6_1).f1)) ∧ w'.cell? ⟨(ad335.add ((x6_1).toNat * 10)).block, (ad335.add ((x6_1).toNat * 10)).off + 2, none⟩ = some (.int .i64 ((rd_T25 t332 x6_1).f2)) ∧ w'.cell? ⟨(ad335.add ((x6_1).toNat * 10)).block, (ad335.add ((x6_1).toNat * 10)).off + 3, none⟩ = some (.int .i64 ((rd_T25 t332 x6_1).f3)) ∧ w'.cell? ⟨(ad335.add ((x6_1).toNat * 10)).block, (ad335.add ((x6_1).toNat * 10)).off + 4, none⟩ = some (.int .i64 ((rd_T25 t332 x6_1).f4)) ∧ w'.cell? ⟨(ad335.add ((x6_1).toNat * 10)).block, (ad335.add ((x6_1).toNat * 10)).off + 5, none⟩ = some (.int .i64 ((rd_T25 t332 x6_1).f5)) ∧ w'.cell? ⟨(ad335.add ((x6_1).toNat * 10)).block, (ad335.add ((x6_1).toNat * 10)).off + 6, none⟩ = some (.int .u64 ((rd_T25 t332 x6_1).f6)) ∧ w'.cell? ⟨(ad335.add ((x6_1).toNat * 10)).block, (ad335.add ((x6_1).toNat * 10)).off + 7, none⟩ = some (.int .i64 ((rd_T25 t332 x6_1).f7)) ∧ w'.cell? ⟨(ad335.add ((x6_1).toNat * 10)).block, (ad335.add ((x6_1).toNat * 10)).off + 8, none⟩ = some (.int .i64 ((rd_T25 t332 x6_1).f8)) ∧ w'.cell? ⟨(ad335.add ((x6_1).toNat * 10)).block, (ad335.add ((x6_1).toNat * 10)).off + 9, none⟩ = some (.int .i64 ((rd_T25 t332 x6_1).f9))) (ds := []) bb2_0 (by kernel_rfl) rfl rfl ⟨hx335_0, hx335_1, hx335_2, hx335_3, hx335_4, hx335_5, hx335_6, hx335_7, hx335_8, hx335_9, hx337_0, hx337_1, hx337_2, hx337_3, hx337_4, hx337_5, hx337_6, hx337_7, hx337_8, hx337_9, hx338_0, hx338_1, hx338_2, hx338_3, hx338_4, hx338_5, hx338_6, hx338_7, hx338_8, hx338_9⟩ (fun hHeld => ?_); refine with_tabW cleatlaw06_AluLoads.tab5 cleatlaw06_AluLoads.bits5 (fun HT_ HW_ => ?_)
          generalize wr.drew = w28 at HO_5 BK331 HB hx335_0 hx335_1 hx335_2 hx335_3 hx335_4 hx335_5 hx335_6 hx335_7 hx335_8 hx335_9 hx337_0 hx337_1 hx337_2 hx337_3 hx337_4 hx337_5 hx337_6 hx337_7 hx337_8 hx337_9 hx338_0 hx338_1 hx338_2 hx338_3 hx338_4 hx338_5 hx338_6 hx338_7 hx338_8 hx338_9 hHeld ⊢
          refine pure_ (i := 0) (N := some 17) (v := ?_) (a' := ?_) bb2_1 rfl rfl (any_of HT_.out (by kernel_rfl)) (fun _ _ _ h => h) (Or.inl ⟨by rfl, ?_⟩) ?_ ?_
          rotate_left
          · intro w'; go_simp; with_reducible rfl
          rotate_left
          · simp only [qa_, qb_, qc_, qd_, i64_w, i32_w]; rfl
          refine pure_ (i := 1) (N := some 18) (v := ?_) (a' := ?_) bb2_2 rfl rfl (any_of HT_.out (by kernel_rfl)) (fun _ _ _ h => h) (Or.inl ⟨by rfl, ?_⟩) ?_ ?_
          rotate_left
          · intro w'; go_simp; with_reducible rfl
          rotate_left
          · simp only [qa_, qb_, qc_, qd_, i64_w, i32_w]; rfl
          refine pure_ (i := 2) (N := some 19) (v := ?_) (a' := ?_) bb2_3 rfl rfl (any_of HT_.out (by kernel_rfl)) (fun _ _ _ h => h) (Or.inl ⟨by rfl, ?_⟩) ?_ ?_
          rotate_left
          · intro w'; go_simp; with_reducible rfl
          rotate_left
          · simp only [qa_, qb_, qc_, qd_, i64_w, i32_w]; rfl
          refine take_ (i := 3) (N := some 20) (v := ?_) (a' := ?_) bb2_4 rfl rfl (take_ofW HT_.out HW_.out (by kernel_rfl)) (fun _ _ _ h => h) (Or.inl ⟨by rfl, ?_⟩) hHeld ?_ ?_
          rotate_left
          · rintro w' ⟨s0, s1, s2, s3, s4, s5, s6, s7, s8, s9, s10, s11, s12, s13, s14, s15, s16, s17, s18, s19, s20, s21, s22, s23, s24, s25, s26, s27, s28, s29⟩; go_simp; with_reducible rfl
          rotate_left
          · simp only [qa_, qb_, qc_, qd_, i64_w, i32_w]; rfl
          refine one_ (i := 4) (N := some 21) bb2_5 rfl rfl (one_of HT_.out (by kernel_rfl)) (by decide) (fun K hK => ?_)
          refine goes_ Tryd.func16 (by kernel_rfl) rfl #[.agg #[.int .i64 ((rd_T25 t332 x6_1).f0), .int .i64 ((rd_T25 t332 x6_1).f1), .int .i64 ((rd_T25 t332 x6_1).f2), .int .i64 ((rd_T25 t332 x6_1).f3), .int .i64 ((rd_T25 t332 x6_1).f4), .int .i64 ((rd_T25 t332 x6_1).f5), .int .u64 ((rd_T25 t332 x6_1).f6), .int .i64 ((rd_T25 t332 x6_1).f7), .int .i64 ((rd_T25 t332 x6_1).f8), .int .i64 ((rd_T25 t332 x6_1).f9)]] (by rfl) rfl rfl (by (try simp only [List.map_toArray, List.map_cons, List.map_nil]); first | done | rfl | (simp only [List.length_drop, List.length_take]; rfl)) ?_
          with_reducible refine (inst_Is.calls k1 ((rd_T25 t332 x6_1).f0) ((rd_T25 t332 x6_1).f1) ((rd_T25 t332 x6_1).f2) ((rd_T25 t332 x6_1).f3) ((rd_T25 t332 x6_1).f4) ((rd_T25 t332 x6_1).f5) ((rd_T25 t332 x6_1).f6) ((rd_T25 t332 x6_1).f7) ((rd_T25 t332 x6_1).f8) ((rd_T25 t332 x6_1).f9) true _ A10.out).mono ?_
          rintro e w29 ⟨rfl, hb⟩
          have HS0_ := pw_cell_below hb hHeld.1
          have HS1_ := pw_cell_below hb hHeld.2.1
          have HS2_ := pw_cell_below hb hHeld.2.2.1
          have HS3_ := pw_cell_below hb hHeld.2.2.2.1
          have HS4_ := pw_cell_below hb hHeld.2.2.2.2.1
          have HS5_ := pw_cell_below hb hHeld.2.2.2.2.2.1
          have HS6_ := pw_cell_below hb hHeld.2.2.2.2.2.2.1
          have HS7_ := pw_cell_below hb hHeld.2.2.2.2.2.2.2.1
          have HS8_ := pw_cell_below hb hHeld.2.2.2.2.2.2.2.2.1
          have HS9_ := pw_cell_below hb hHeld.2.2.2.2.2.2.2.2.2.1
          have HS10_ := pw_cell_below hb hHeld.2.2.2.2.2.2.2.2.2.2.1
          have HS11_ := pw_cell_below hb hHeld.2.2.2.2.2.2.2.2.2.2.2.1
          have HS12_ := pw_cell_below hb hHeld.2.2.2.2.2.2.2.2.2.2.2.2.1
          have HS13_ := pw_cell_below hb hHeld.2.2.2.2.2.2.2.2.2.2.2.2.2.1
          have HS14_ := pw_cell_below hb hHeld.2.2.2.2.2.2.2.2.2.2.2.2.2.2.1
          have HS15_ := pw_cell_below hb hHeld.2.2.2.2.2.2.2.2.2.2.2.2.2.2.2.1
          have HS16_ := pw_cell_below hb hHeld.2.2.2.2.2.2.2.2.2.2.2.2.2.2.2.2.1
          have HS17_ := pw_cell_below hb hHeld.2.2.2.2.2.2.2.2.2.2.2.2.2.2.2.2.2.1
          have HS18_ := pw_cell_below hb hHeld.2.2.2.2.2.2.2.2.2.2.2.2.2.2.2.2.2.2.1
          have HS19_ := pw_cell_below hb hHeld.2.2.2.2.2.2.2.2.2.2.2.2.2.2.2.2.2.2.2.1
          have HS20_ := pw_cell_below hb hHeld.2.2.2.2.2.2.2.2.2.2.2.2.2.2.2.2.2.2.2.2.1
          have HS21_ := pw_cell_below hb hHeld.2.2.2.2.2.2.2.2.2.2.2.2.2.2.2.2.2.2.2.2.2.1
          have HS22_ := pw_cell_below hb hHeld.2.2.2.2.2.2.2.2.2.2.2.2.2.2.2.2.2.2.2.2.2.2.1
          have HS23_ := pw_cell_below hb hHeld.2.2.2.2.2.2.2.2.2.2.2.2.2.2.2.2.2.2.2.2.2.2.2.1
          have HS24_ := pw_cell_below hb hHeld.2.2.2.2.2.2.2.2.2.2.2.2.2.2.2.2.2.2.2.2.2.2.2.2.1
          have HS25_ := pw_cell_below hb hHeld.2.2.2.2.2.2.2.2.2.2.2.2.2.2.2.2.2.2.2.2.2.2.2.2.2.1
          have HS26_ := pw_cell_below hb hHeld.2.2.2.2.2.2.2.2.2.2.2.2.2.2.2.2.2.2.2.2.2.2.2.2.2.2.1
          have HS27_ := pw_cell_below hb hHeld.2.2.2.2.2.2.2.2.2.2.2.2.2.2.2.2.2.2.2.2.2.2.2.2.2.2.2.1
          have HS28_ := pw_cell_below hb hHeld.2.2.2.2.2.2.2.2.2.2.2.2.2.2.2.2.2.2.2.2.2.2.2.2.2.2.2.2.1
          have HS29_ := pw_cell_below hb hHeld.2.2.2.2.2.2.2.2.2.2.2.2.2.2.2.2.2.2.2.2.2.2.2.2.2.2.2.2.2
          refine ⟨_, rfl, ?_⟩
          have n0_ := Aside0.mk (Kd.R_below (by (with_reducible repeat (first | apply Kd.R_alloc | apply Kd.R_drewN | apply Kd.R_drew)); exact HO_5.out) hb)
          have n1_ := Aside0.mk (blk_below (g := gb331) (o := .cells #[.int .u64 a1_0, .int .u64 a1_1, .int .u64 a1_2, .int .u64 a1_3] 29 (0, 0)) (by (with_reducible repeat (first | refine blk_drewN ?_ _ | refine blk_drew ?_ | refine blk_alloc ?_ _)); exact BK331.out) hb)
          have n2_ := Aside0.mk (below_step (by repeat (first | (with_reducible first | exact HB.out | apply below_alloc | apply pw_below_drewN | apply below_drew1 | refine below_set ?_ GE331.out) | exact HB.out)) hb)
          clear HO_5
          clear BK331
          clear HB
          have HO_5 := n0_
          have BK331 := n1_
          have HB := n2_
          clear n0_ n1_ n2_
          (try clear hb)
          (try clear hb2)
          (try clear hk)
          (try clear hi)
          refine hK.out _ _ ⟨HS0_, HS1_, HS2_, HS3_, HS4_, HS5_, HS6_, HS7_, HS8_, HS9_, HS10_, HS11_, HS12_, HS13_, HS14_, HS15_, HS16_, HS17_, HS18_, HS19_, HS20_, HS21_, HS22_, HS23_, HS24_, HS25_, HS26_, HS27_, HS28_, HS29_⟩ (fun hHeld => ?_)
          clear hK K
          refine norm_ (a' := ?_) ?_ ?_
          rotate_left
          ·
           show Act.put _ (some 21) _ = _
           simp only [qa_, qb_, qc_, qd_, i64_w, i32_w]
           rfl
          refine pure_ (i := 5) (N := some 22) (v := ?_) (a' := ?_) bb2_6 rfl rfl (any_of HT_.out (by kernel_rfl)) (fun _ _ _ h => h) (Or.inl ⟨by rfl, ?_⟩) ?_ ?_
          rotate_left
          · intro w'; go_simp; with_reducible rfl
          rotate_left
          · simp only [qa_, qb_, qc_, qd_, i64_w, i32_w]; rfl
          refine pure_ (i := 6) (N := some 23) (v := ?_) (a' := ?_) bb2_7 rfl rfl (any_of HT_.out (by kernel_rfl)) (fun _ _ _ h => h) (Or.inl ⟨by rfl, ?_⟩) ?_ ?_
          rotate_left
          · intro w'; go_simp; with_reducible rfl
          rotate_left
          · simp only [qa_, qb_, qc_, qd_, i64_w, i32_w]; rfl
          refine pure_ (i := 7) (N := some 24) (v := ?_) (a' := ?_) bb2_8 rfl rfl (any_of HT_.out (by kernel_rfl)) (fun _ _ _ h => h) (Or.inl ⟨by rfl, ?_⟩) ?_ ?_
          rotate_left
          · intro w'; go_simp; with_reducible rfl
          rotate_left
          · simp only [qa_, qb_, qc_, qd_, i64_w, i32_w]; rfl
          refine pure_ (i := 8) (N := some 25) (v := ?_) (a' := ?_) bb2_9 rfl rfl (any_of HT_.out (by kernel_rfl)) (fun _ _ _ h => h) (Or.inl ⟨by rfl, ?_⟩) ?_ ?_
          rotate_left
          · intro w'; go_simp; with_reducible rfl
          rotate_left
          · simp only [qa_, qb_, qc_, qd_, i64_w, i32_w]; rfl
          refine pure_ (i := 9) (N := some 26) (v := ?_) (a' := ?_) bb2_10 rfl rfl (any_of HT_.out (by kernel_rfl)) (fun _ _ _ h => h) (Or.inl ⟨by rfl, ?_⟩) ?_ ?_
          rotate_left
          · intro w'; go_simp; with_reducible rfl
          rotate_left
          · simp only [qa_, qb_, qc_, qd_, i64_w, i32_w]; rfl
          refine pure_ (i := 10) (N := some 27) (v := ?_) (a' := ?_) bb2_11 rfl rfl (any_of HT_.out (by kernel_rfl)) (fun _ _ _ h => h) (Or.inl ⟨by rfl, ?_⟩) ?_ ?_
          rotate_left
          · intro w'; go_simp; with_reducible rfl
          rotate_left
          · simp only [qa_, qb_, qc_, qd_, i64_w, i32_w]; rfl
          refine take_ (i := 11) (N := some 28) (v := ?_) (a' := ?_) bb2_12 rfl rfl (take_ofW HT_.out HW_.out (by kernel_rfl)) (fun _ _ _ h => h) (Or.inl ⟨by rfl, ?_⟩) hHeld ?_ ?_
          rotate_left
          · rintro w' ⟨s0, s1, s2, s3, s4, s5, s6, s7, s8, s9, s10, s11, s12, s13, s14, s15, s16, s17, s18, s19, s20, s21, s22, s23, s24, s25, s26, s27, s28, s29⟩; go_simp; with_reducible rfl
          rotate_left
          · simp only [qa_, qb_, qc_, qd_, i64_w, i32_w]; rfl
          refine pure_ (i := 12) (N := some 29) (v := ?_) (a' := ?_) bb2_13 rfl rfl (any_of HT_.out (by kernel_rfl)) (fun _ _ _ h => h) (Or.inl ⟨by rfl, ?_⟩) ?_ ?_
          rotate_left
          · intro w'; go_simp; with_reducible rfl
          rotate_left
          · simp only [qa_, qb_, qc_, qd_, i64_w, i32_w]; rfl
          refine pure_ (i := 13) (N := some 30) (v := ?_) (a' := ?_) bb2_14 rfl rfl (any_of HT_.out (by kernel_rfl)) (fun _ _ _ h => h) (Or.inl ⟨by rfl, ?_⟩) ?_ ?_
          rotate_left
          · intro w'; go_simp; with_reducible rfl
          rotate_left
          · simp only [qa_, qb_, qc_, qd_, i64_w, i32_w]; rfl
          refine pure_ (i := 14) (N := some 31) (v := ?_) (a' := ?_) bb2_15 rfl rfl (any_of HT_.out (by kernel_rfl)) (fun _ _ _ h => h) (Or.inl ⟨by rfl, ?_⟩) ?_ ?_
          rotate_left
          · intro w'; go_simp; with_reducible rfl
          rotate_left
          · simp only [qa_, qb_, qc_, qd_, i64_w, i32_w]; rfl
          refine pure_ (i := 15) (N := some 32) (v := ?_) (a' := ?_) bb2_16 rfl rfl (any_of HT_.out (by kernel_rfl)) (fun _ _ _ h => h) (Or.inl ⟨by rfl, ?_⟩) ?_ ?_
          rotate_left
          · intro w'; go_simp; with_reducible rfl
          rotate_left
          · simp only [qa_, qb_, qc_, qd_, i64_w, i32_w]; rfl
          refine pure_ (i := 16) (N := some 33) (v := ?_) (a' := ?_) bb2_17 rfl rfl (any_of HT_.out (by kernel_rfl)) (fun _ _ _ h => h) (Or.inl ⟨by rfl, ?_⟩) ?_ ?_
          rotate_left
          · intro w'; go_simp; with_reducible rfl
          rotate_left
          · simp only [qa_, qb_, qc_, qd_, i64_w, i32_w]; rfl
          refine pure_ (i := 17) (N := some 34) (v := ?_) (a' := ?_) bb2_18 rfl rfl (any_of HT_.out (by kernel_rfl)) (fun _ _ _ h => h) (Or.inl ⟨by rfl, ?_⟩) ?_ ?_
          rotate_left
          · intro w'; go_simp; with_reducible rfl
          rotate_left
          · simp only [qa_, qb_, qc_, qd_, i64_w, i32_w]; rfl
          refine pure_ (i := 18) (N := some 35) (v := ?_) (a' := ?_) bb2_19 rfl rfl (any_of HT_.out (by kernel_rfl)) (fun _ _ _ h => h) (Or.inl ⟨by rfl, ?_⟩) ?_ ?_
          rotate_left
          · intro w'; go_simp; with_reducible rfl
          rotate_left
          · simp only [qa_, qb_, qc_, qd_, i64_w, i32_w]; rfl
          refine pure_ (i := 21) (N := some 38) (v := ?_) (a' := ?_) bb2_20 rfl rfl (any_of HT_.out (by kernel_rfl)) (fun _ _ _ h => h) (Or.inl ⟨by rfl, ?_⟩) ?_ ?_
          rotate_left
          · intro w'; go_simp; with_reducible rfl
          rotate_left
          · simp only [qa_, qb_, qc_, qd_, i64_w, i32_w]; rfl
          refine pure_ (i := 22) (N := some 39) (v := ?_) (a' := ?_) bb2_21 rfl rfl (any_of HT_.out (by kernel_rfl)) (fun _ _ _ h => h) (Or.inl ⟨by rfl, ?_⟩) ?_ ?_
          rotate_left
          · intro w'; go_simp; with_reducible rfl
          rotate_left
          · simp only [qa_, qb_, qc_, qd_, i64_w, i32_w]; rfl
          refine take_ (i := 19) (N := some 36) (v := ?_) (a' := ?_) bb2_22 rfl rfl (take_ofW HT_.out HW_.out (by kernel_rfl)) (fun _ _ _ h => h) (Or.inl ⟨by rfl, ?_⟩) hHeld ?_ ?_
          rotate_left
          · rintro w' ⟨s0, s1, s2, s3, s4, s5, s6, s7, s8, s9, s10, s11, s12, s13, s14, s15, s16, s17, s18, s19, s20, s21, s22, s23, s24, s25, s26, s27, s28, s29⟩; go_simp; with_reducible rfl
          rotate_left
          · simp only [qa_, qb_, qc_, qd_, i64_w, i32_w]; rfl
          refine pure_ (i := 20) (N := some 37) (v := ?_) (a' := ?_) bb2_23 rfl rfl (any_of HT_.out (by kernel_rfl)) (fun _ _ _ h => h) (Or.inl ⟨by rfl, ?_⟩) ?_ ?_
          rotate_left
          · intro w'; go_simp; with_reducible rfl
          rotate_left
          · simp only [qa_, qb_, qc_, qd_, i64_w, i32_w]; rfl
          refine pure_ (i := 23) (N := some 40) (v := ?_) (a' := ?_) bb2_24 rfl rfl (any_of HT_.out (by kernel_rfl)) (fun _ _ _ h => h) (Or.inl ⟨by rfl, ?_⟩) ?_ ?_
          rotate_left
          · intro w'; go_simp; with_reducible rfl
          rotate_left
          · simp only [qa_, qb_, qc_, qd_, i64_w, i32_w]; rfl
          refine pure_ (i := 24) (N := some 41) (v := ?_) (a' := ?_) bb2_25 rfl rfl (any_of HT_.out (by kernel_rfl)) (fun _ _ _ h => h) (Or.inl ⟨by rfl, ?_⟩) ?_ ?_
          rotate_left
          · intro w'; go_simp; with_reducible rfl
          rotate_left
          · simp only [qa_, qb_, qc_, qd_, i64_w, i32_w]; rfl
          refine pure_ (i := 25) (N := some 42) (v := ?_) (a' := ?_) bb2_26 rfl rfl (any_of HT_.out (by kernel_rfl)) (fun _ _ _ h => h) (Or.inl ⟨by rfl, ?_⟩) ?_ ?_
          rotate_left
          · intro w'; go_simp; with_reducible rfl
          rotate_left
          · simp only [qa_, qb_, qc_, qd_, i64_w, i32_w]; rfl
          refine pure_ (i := 26) (N := some 43) (v := ?_) (a' := ?_) bb2_27 rfl rfl (any_of HT_.out (by kernel_rfl)) (fun _ _ _ h => h) (Or.inl ⟨by rfl, ?_⟩) ?_ ?_
          rotate_left
          · intro w'; go_simp; with_reducible rfl
          rotate_left
          · simp only [qa_, qb_, qc_, qd_, i64_w, i32_w]; rfl
          refine pure_ (i := 27) (N := some 44) (v := ?_) (a' := ?_) bb2_28 rfl rfl (any_of HT_.out (by kernel_rfl)) (fun _ _ _ h => h) (Or.inl ⟨by rfl, ?_⟩) ?_ ?_
          rotate_left
          · intro w'; go_simp; with_reducible rfl
          rotate_left
          · simp only [qa_, qb_, qc_, qd_, i64_w, i32_w]; rfl
          refine pure_ (i := 28) (N := some 45) (v := ?_) (a' := ?_) bb2_29 rfl rfl (any_of HT_.out (by kernel_rfl)) (fun _ _ _ h => h) (Or.inl ⟨by rfl, ?_⟩) ?_ ?_
          rotate_left
          · intro w'; go_simp; with_reducible rfl
          rotate_left
          · simp only [qa_, qb_, qc_, qd_, i64_w, i32_w]; rfl
          refine pure_ (i := 29) (N := some 46) (v := undef) (a' := ?_) bb2_30 rfl rfl (any_of HT_.out (by kernel_rfl)) (fun _ _ _ h => h) (Or.inr ⟨by rfl, rfl⟩) ?_ ?_
          rotate_left
          · simp only [qa_, qb_, qc_, qd_, i64_w, i32_w]; rfl
          refine pure_ (i := 30) (N := some 47) (v := undef) (a' := ?_) bb2_31 rfl rfl (any_of HT_.out (by kernel_rfl)) (fun _ _ _ h => h) (Or.inr ⟨by rfl, rfl⟩) ?_ ?_
          rotate_left
          · simp only [qa_, qb_, qc_, qd_, i64_w, i32_w]; rfl
          refine pure_ (i := 31) (N := some 48) (v := undef) (a' := ?_) bb2_32 rfl rfl (any_of HT_.out (by kernel_rfl)) (fun _ _ _ h => h) (Or.inr ⟨by rfl, rfl⟩) ?_ ?_
          rotate_left
          · simp only [qa_, qb_, qc_, qd_, i64_w, i32_w]; rfl
          refine pure_ (i := 32) (N := some 49) (v := undef) (a' := ?_) bb2_33 rfl rfl (any_of HT_.out (by kernel_rfl)) (fun _ _ _ h => h) (Or.inr ⟨by rfl, rfl⟩) ?_ ?_
          rotate_left
          · simp only [qa_, qb_, qc_, qd_, i64_w, i32_w]; rfl
          refine pure_ (i := 33) (N := some 50) (v := undef) (a' := ?_) bb2_34 rfl rfl (any_of HT_.out (by kernel_rfl)) (fun _ _ _ h => h) (Or.inr ⟨by rfl, rfl⟩) ?_ ?_
          rotate_left
          · simp only [qa_, qb_, qc_, qd_, i64_w, i32_w]; rfl
          refine pure_ (i := 34) (N := some 51) (v := undef) (a' := ?_) bb2_35 rfl rfl (any_of HT_.out (by kernel_rfl)) (fun _ _ _ h => h) (Or.inr ⟨by rfl, rfl⟩) ?_ ?_
          rotate_left
          · simp only [qa_, qb_, qc_, qd_, i64_w, i32_w]; rfl
          refine pure_ (i := 35) (N := some 52) (v := undef) (a' := ?_) bb2_36 rfl rfl (any_of HT_.out (by kernel_rfl)) (fun _ _ _ h => h) (Or.inr ⟨by rfl, rfl⟩) ?_ ?_
          rotate_left
          · simp only [qa_, qb_, qc_, qd_, i64_w, i32_w]; rfl
          refine pure_ (i := 36) (N := some 53) (v := undef) (a' := ?_) bb2_37 rfl rfl (any_of HT_.out (by kernel_rfl)) (fun _ _ _ h => h) (Or.inr ⟨by rfl, rfl⟩) ?_ ?_
          rotate_left
          · simp only [qa_, qb_, qc_, qd_, i64_w, i32_w]; rfl
          refine pure_ (i := 37) (N := some 54) (v := undef) (a' := ?_) bb2_38 rfl rfl (any_of HT_.out (by kernel_rfl)) (fun _ _ _ h => h) (Or.inr ⟨by rfl, rfl⟩) ?_ ?_
          rotate_left
          · simp only [qa_, qb_, qc_, qd_, i64_w, i32_w]; rfl
          refine pure_ (i := 38) (N := some 55) (v := undef) (a' := ?_) bb2_39 rfl rfl (any_of HT_.out (by kernel_rfl)) (fun _ _ _ h => h) (Or.inr ⟨by rfl, rfl⟩) ?_ ?_
          rotate_left
          · simp only [qa_, qb_, qc_, qd_, i64_w, i32_w]; rfl
          refine pure_ (i := 39) (N := some 56) (v := undef) (a' := ?_) bb2_40 rfl rfl (any_of HT_.out (by kernel_rfl)) (fun _ _ _ h => h) (Or.inr ⟨by rfl, rfl⟩) ?_ ?_
          rotate_left
          · simp only [qa_, qb_, qc_, qd_, i64_w, i32_w]; rfl
          refine pure_ (i := 40) (N := some 57) (v := undef) (a' := ?_) bb2_41 rfl rfl (any_of HT_.out (by kernel_rfl)) (fun _ _ _ h => h) (Or.inr ⟨by rfl, rfl⟩) ?_ ?_
          rotate_left
          · simp only [qa_, qb_, qc_, qd_, i64_w, i32_w]; rfl
          refine pure_ (i := 41) (N := some 58) (v := undef) (a' := ?_) bb2_42 rfl rfl (any_of HT_.out (by kernel_rfl)) (fun _ _ _ h => h) (Or.inr ⟨by rfl, rfl⟩) ?_ ?_
          rotate_left
          · simp only [qa_, qb_, qc_, qd_, i64_w, i32_w]; rfl
          refine pure_ (i := 42) (N := some 59) (v := undef) (a' := ?_) bb2_43 rfl rfl (any_of HT_.out (by kernel_rfl)) (fun _ _ _ h => h) (Or.inr ⟨by rfl, rfl⟩) ?_ ?_
          rotate_left
          · simp only [qa_, qb_, qc_, qd_, i64_w, i32_w]; rfl
          refine pure_ (i := 43) (N := some 60) (v := undef) (a' := ?_) bb2_44 rfl rfl (any_of HT_.out (by kernel_rfl)) (fun _ _ _ h => h) (Or.inr ⟨by rfl, rfl⟩) ?_ ?_
          rotate_left
          · simp only [qa_, qb_, qc_, qd_, i64_w, i32_w]; rfl
          refine pure_ (i := 44) (N := some 61) (v := undef) (a' := ?_) bb2_45 rfl rfl (any_of HT_.out (by kernel_rfl)) (fun _ _ _ h => h) (Or.inr ⟨by rfl, rfl⟩) ?_ ?_
          rotate_left
          · simp only [qa_, qb_, qc_, qd_, i64_w, i32_w]; rfl
          refine pure_ (i := 45) (N := some 62) (v := undef) (a' := ?_) bb2_46 rfl rfl (any_of HT_.out (by kernel_rfl)) (fun _ _ _ h => h) (Or.inr ⟨by rfl, rfl⟩) ?_ ?_
          rotate_left
          · simp only [qa_, qb_, qc_, qd_, i64_w, i32_w]; rfl
          refine pure_ (i := 46) (N := some 63) (v := undef) (a' := ?_) bb2_47 rfl rfl (any_of HT_.out (by kernel_rfl)) (fun _ _ _ h => h) (Or.inr ⟨by rfl, rfl⟩) ?_ ?_
          rotate_left
          · simp only [qa_, qb_, qc_, qd_, i64_w, i32_w]; rfl
          refine pure_ (i := 47) (N := some 64) (v := undef) (a' := ?_) bb2_48 rfl rfl (any_of HT_.out (by kernel_rfl)) (fun _ _ _ h => h) (Or.inr ⟨by rfl, rfl⟩) ?_ ?_
          rotate_left
          · simp only [qa_, qb_, qc_, qd_, i64_w, i32_w]; rfl
          refine pure_ (i := 48) (N := some 65) (v := undef) (a' := ?_) bb2_49 rfl rfl (any_of HT_.out (by kernel_rfl)) (fun _ _ _ h => h) (Or.inr ⟨by rfl, rfl⟩) ?_ ?_
          rotate_left
          · simp only [qa_, qb_, qc_, qd_, i64_w, i32_w]; rfl
          refine pure_ (i := 49) (N := some 66) (v := undef) (a' := ?_) bb2_50 rfl rfl (any_of HT_.out (by kernel_rfl)) (fun _ _ _ h => h) (Or.inr ⟨by rfl, rfl⟩) ?_ ?_
          rotate_left
          · simp only [qa_, qb_, qc_, qd_, i64_w, i32_w]; rfl
          refine pure_ (i := 50) (N := some 67) (v := undef) (a' := ?_) bb2_51 rfl rfl (any_of HT_.out (by kernel_rfl)) (fun _ _ _ h => h) (Or.inr ⟨by rfl, rfl⟩) ?_ ?_
          rotate_left
          · simp only [qa_, qb_, qc_, qd_, i64_w, i32_w]; rfl
          refine pure_ (i := 51) (N := some 68) (v := undef) (a' := ?_) bb2_52 rfl rfl (any_of HT_.out (by kernel_rfl)) (fun _ _ _ h => h) (Or.inr ⟨by rfl, rfl⟩) ?_ ?_
          rotate_left
          · simp only [qa_, qb_, qc_, qd_, i64_w, i32_w]; rfl
          refine pure_ (i := 52) (N := some 69) (v := undef) (a' := ?_) bb2_53 rfl rfl (any_of HT_.out (by kernel_rfl)) (fun _ _ _ h => h) (Or.inr ⟨by rfl, rfl⟩) ?_ ?_
          rotate_left
          · simp only [qa_, qb_, qc_, qd_, i64_w, i32_w]; rfl
          refine pure_ (i := 53) (N := some 70) (v := undef) (a' := ?_) bb2_54 rfl rfl (any_of HT_.out (by kernel_rfl)) (fun _ _ _ h => h) (Or.inr ⟨by rfl, rfl⟩) ?_ ?_
          rotate_left
          · simp only [qa_, qb_, qc_, qd_, i64_w, i32_w]; rfl
          refine pure_ (i := 54) (N := some 71) (v := undef) (a' := ?_) bb2_55 rfl rfl (any_of HT_.out (by kernel_rfl)) (fun _ _ _ h => h) (Or.inr ⟨by rfl, rfl⟩) ?_ ?_
          rotate_left
          · simp only [qa_, qb_, qc_, qd_, i64_w, i32_w]; rfl
          refine pure_ (i := 55) (N := some 72) (v := undef) (a' := ?_) bb2_56 rfl rfl (any_of HT_.out (by kernel_rfl)) (fun _ _ _ h => h) (Or.inr ⟨by rfl, rfl⟩) ?_ ?_
          rotate_left
          · simp only [qa_, qb_, qc_, qd_, i64_w, i32_w]; rfl
          refine pure_ (i := 56) (N := some 73) (v := undef) (a' := ?_) bb2_57 rfl rfl (any_of HT_.out (by kernel_rfl)) (fun _ _ _ h => h) (Or.inr ⟨by rfl, rfl⟩) ?_ ?_
          rotate_left
          · simp only [qa_, qb_, qc_, qd_, i64_w, i32_w]; rfl
          refine pure_ (i := 57) (N := some 74) (v := ?_) (a' := ?_) bb2_58 rfl rfl (any_of HT_.out (by kernel_rfl)) (fun _ _ _ h => h) (Or.inl ⟨by rfl, ?_⟩) ?_ ?_
          rotate_left
          · intro w'; go_simp; with_reducible rfl
          rotate_left
          · simp only [qa_, qb_, qc_, qd_, i64_w, i32_w]; rfl
          refine pure_ (i := 58) (N := some 75) (v := ?_) (a' := ?_) bb2_59 rfl rfl (any_of HT_.out (by kernel_rfl)) (fun _ _ _ h => h) (Or.inl ⟨by rfl, ?_⟩) ?_ ?_
          rotate_left
          · intro w'; go_simp; with_reducible rfl
          rotate_left
          · simp only [qa_, qb_, qc_, qd_, i64_w, i32_w]; rfl
          refine done_ (done_of HT_.out (by kernel_rfl)) ?_
          try go_wp2
          go_meet
          case rel => exact ⟨_, (false), (by first | rfl | (simp; done) | (simp [*]; done)), H', ⟨by have := HK1.out; first | omega | exact Nat.le_refl _⟩, ⟨by (with_reducible repeat (first | apply Kd.R_alloc | apply Kd.R_drewN | apply Kd.R_drew)); exact HO_5.out⟩, ⟨by (with_reducible repeat (first | refine blk_drewN ?_ _ | refine blk_drew ?_ | refine blk_alloc ?_ _)); exact BK331.out⟩, ⟨by repeat (first | (with_reducible first | exact HB.out | apply below_alloc | apply pw_below_drewN | apply below_drew1 | refine below_set ?_ GE331.out) | exact HB.out)⟩⟩
       ·
        rw [if_neg c12] at H
        have c12b0 : (((rd_T25 t332 x6_1).f1) == 0) = false := beq_eq_false_iff_ne.mpr c12
        have c12b1 : (((rd_T25 t332 x6_1).f1) != 0) = true := bne_iff_ne.mpr c12
        have H' := Aside0.mk H
        clear H
        try go_wp2
        have n0_ := Aside0.mk (Kd.R_drew HO_5.out)
        have n1_ := Aside0.mk (blk_drew BK331.out)
        have n2_ := Aside0.mk (below_drew1 HB.out)
        clear HO_5
        clear BK331
        clear HB
        have HO_5 := n0_
        have BK331 := n1_
        have HB := n2_
        clear n0_ n1_ n2_
        have p335 : 0 ≤ (x6_1 : Int) := of_decide_eq_true (by first | (with_reducible assumption) | assumption)
        have q335 : x6_1 < (t332.length : Int) := of_decide_eq_true (by first | (with_reducible assumption) | assumption)
        obtain ⟨ad335, e335, hx335_0, hx335_1, hx335_2, hx335_3, hx335_4, hx335_5, hx335_6, hx335_7, hx335_8, hx335_9⟩ := at_T25 (Kd.R_reads' HO_5.out).2.2 x6_1 p335 q335
        cases e335
        replace p335 := eq_true p335
        replace q335 := eq_true q335
        have p337 : 0 ≤ (x6_1 : Int) := of_decide_eq_true (by first | (with_reducible assumption) | assumption)
        have q337 : x6_1 < (t332.length : Int) := of_decide_eq_true (by first | (with_reducible assumption) | assumption)
        obtain ⟨ad337, e337, hx337_0, hx337_1, hx337_2, hx337_3, hx337_4, hx337_5, hx337_6, hx337_7, hx337_8, hx337_9⟩ := at_T25 (Kd.R_reads' HO_5.out).2.2 x6_1 p337 q337
        obtain rfl : ad335 = ad337 := (by injection e337)
        replace p337 := eq_true p337
        replace q337 := eq_true q337
        refine start_ (n := 59) (S := fun w' => w'.cell? (ad335.add ((x6_1).toNat * 10)) = some (.int .i64 ((rd_T25 t332 x6_1).f0)) ∧ w'.cell? ⟨(ad335.add ((x6_1).toNat * 10)).block, (ad335.add ((x6_1).toNat * 10)).off + 1, none⟩ = some (.int .i64 ((rd_T25 t332 x6_1).f1)) ∧ w'.cell? ⟨(ad335.add ((x6_1).toNat * 10)).block, (ad335.add ((x6_1).toNat * 10)).off + 2, none⟩ = some (.int .i64 ((rd_T25 t332 x6_1).f2)) ∧ w'.cell? ⟨(ad335.add ((x6_1).toNat * 10)).block, (ad335.add ((x6_1).toNat * 10)).off + 3, none⟩ = some (.int .i64 ((rd_T25 t332 x6_1).f3)) ∧ w'.cell? ⟨(ad335.add ((x6_1).toNat * 10)).block, (ad335.add ((x6_1).toNat * 10)).off + 4, none⟩ = some (.int .i64 ((rd_T25 t332 x6_1).f4)) ∧ w'.cell? ⟨(ad335.add ((x6_1).toNat * 10)).block, (ad335.add ((x6_1).toNat * 10)).off + 5, none⟩ = some (.int .i64 ((rd_T25 t332 x6_1).f5)) ∧ w'.cell? ⟨(ad335.add ((x6_1).toNat * 10)).block, (ad335.add ((x6_1).toNat * 10)).off + 6, none⟩ = some (.int .u64 ((rd_T25 t332 x6_1).f6)) ∧ w'.cell? ⟨(ad335.add ((x6_1).toNat * 10)).block, (ad335.add ((x6_1).toNat * 10)).off + 7, none⟩ = some (.int .i64 ((rd_T25 t332 x6_1).f7)) ∧ w'.cell? ⟨(ad335.add ((x6_1).toNat * 10)).block, (ad335.add ((x6_1).toNat * 10)).off + 8, none⟩ = some (.int .i64 ((rd_T25 t332 x6_1).f8)) ∧ w'.cell? ⟨(ad335.add ((x6_1).toNat * 10)).block, (ad335.add ((x6_1).toNat * 10)).off + 9, none⟩ = some (.int .i64 ((rd_T25 t332 x6_1).f9)) ∧ w'.cell? (ad335.add ((x6_1).toNat * 10)) = some (.int .i64 ((rd_T25 t332 x6_1).f0)) ∧ w'.cell? ⟨(ad335.add ((x6_1).toNat * 10)).block, (ad335.add ((x6_1).toNat * 10)).off + 1, none⟩ = some (.int .i64 ((rd_T25 t332 x6_1).f1)) ∧ w'.cell? ⟨(ad335.add ((x6_1).toNat * 10)).block, (ad335.add ((x6_1).toNat * 10)).off + 2, none⟩ = some (.int .i64 ((rd_T25 t332 x6_1).f2)) ∧ w'.cell? ⟨(ad335.add ((x6_1).toNat * 10)).block, (ad335.add ((x6_1).toNat * 10)).off + 3, none⟩ = some (.int .i64 ((rd_T25 t332 x6_1).f3)) ∧ w'.cell? ⟨(ad335.add ((x6_1).toNat * 10)).block, (ad335.add ((x6_1).toNat * 10)).off + 4, none⟩ = some (.int .i64 ((rd_T25 t332 x6_1).f4)) ∧ w'.cell? ⟨(ad335.add ((x6_1).toNat * 10)).block, (ad335.add ((x6_1).toNat * 10)).off + 5, none⟩ = some (.int .i64 ((rd_T25 t332 x6_1).f5)) ∧ w'.cell? ⟨(ad335.add ((x6_1).toNat * 10)).block, (ad335.add ((x6_1).toNat * 10)).off + 6, none⟩ = some (.int .u64 ((rd_T25 t332 x6_1).f6)) ∧ w'.cell? ⟨(ad335.add ((x6_1).toNat * 10)).block, (ad335.add ((x6_1).toNat * 10)).off + 7, none⟩ = some (.int .i64 ((rd_T25 t332 x6_1).f7)) ∧ w'.cell? ⟨(ad335.add ((x6_1).toNat * 10)).block, (ad335.add ((x6_1).toNat * 10)).off + 8, none⟩ = some (.int .i64 ((rd_T25 t332 x6_1).f8)) ∧ w'.cell? ⟨(ad335.add ((x6_1).toNat * 10)).block, (ad335.add ((x6_1).toNat * 10)).off + 9, none⟩ = some (.int .i64 ((rd_T25 t332 x6_1).f9))) (ds := []) bb2_0 (by kernel_rfl) rfl rfl ⟨hx335_0, hx335_1, hx335_2, hx335_3, hx335_4, hx335_5, hx335_6, hx335_7, hx335_8, hx335_9, hx337_0, hx337_1, hx337_2, hx337_3, hx337_4, hx337_5, hx337_6, hx337_7, hx337_8, hx337_9⟩ (fun hHeld => ?_); refine with_tabW cleatlaw06_AluLoads.tab5 cleatlaw06_AluLoads.bits5 (fun HT_ HW_ => ?_)
        generalize wr.drew = w30 at HO_5 BK331 HB hx335_0 hx335_1 hx335_2 hx335_3 hx335_4 hx335_5 hx335_6 hx335_7 hx335_8 hx335_9 hx337_0 hx337_1 hx337_2 hx337_3 hx337_4 hx337_5 hx337_6 hx337_7 hx337_8 hx337_9 hHeld ⊢
        refine pure_ (i := 0) (N := some 17) (v := ?_) (a' := ?_) bb2_1 rfl rfl (any_of HT_.out (by kernel_rfl)) (fun _ _ _ h => h) (Or.inl ⟨by rfl, ?_⟩) ?_ ?_
        rotate_left
        · intro w'; go_simp; with_reducible rfl
        rotate_left
        · simp only [qa_, qb_, qc_, qd_, i64_w, i32_w]; rfl
        refine pure_ (i := 1) (N := some 18) (v := ?_) (a' := ?_) bb2_2 rfl rfl (any_of HT_.out (by kernel_rfl)) (fun _ _ _ h => h) (Or.inl ⟨by rfl, ?_⟩) ?_ ?_
        rotate_left
        · intro w'; go_simp; with_reducible rfl
        rotate_left
        · simp only [qa_, qb_, qc_, qd_, i64_w, i32_w]; rfl
        refine pure_ (i := 2) (N := some 19) (v := ?_) (a' := ?_) bb2_3 rfl rfl (any_of HT_.out (by kernel_rfl)) (fun _ _ _ h => h) (Or.inl ⟨by rfl, ?_⟩) ?_ ?_
        rotate_left
        · intro w'; go_simp; with_reducible rfl
        rotate_left
        · simp only [qa_, qb_, qc_, qd_, i64_w, i32_w]; rfl
        refine take_ (i := 3) (N := some 20) (v := ?_) (a' := ?_) bb2_4 rfl rfl (take_ofW HT_.out HW_.out (by kernel_rfl)) (fun _ _ _ h => h) (Or.inl ⟨by rfl, ?_⟩) hHeld ?_ ?_
        rotate_left
        · rintro w' ⟨s0, s1, s2, s3, s4, s5, s6, s7, s8, s9, s10, s11, s12, s13, s14, s15, s16, s17, s18, s19⟩; go_simp; with_reducible rfl
        rotate_left
        · simp only [qa_, qb_, qc_, qd_, i64_w, i32_w]; rfl
        refine one_ (i := 4) (N := some 21) bb2_5 rfl rfl (one_of HT_.out (by kernel_rfl)) (by decide) (fun K hK => ?_)
        refine goes_ Tryd.func16 (by kernel_rfl) rfl #[.agg #[.int .i64 ((rd_T25 t332 x6_1).f0), .int .i64 ((rd_T25 t332 x6_1).f1), .int .i64 ((rd_T25 t332 x6_1).f2), .int .i64 ((rd_T25 t332 x6_1).f3), .int .i64 ((rd_T25 t332 x6_1).f4), .int .i64 ((rd_T25 t332 x6_1).f5), .int .u64 ((rd_T25 t332 x6_1).f6), .int .i64 ((rd_T25 t332 x6_1).f7), .int .i64 ((rd_T25 t332 x6_1).f8), .int .i64 ((rd_T25 t332 x6_1).f9)]] (by rfl) rfl rfl (by (try simp only [List.map_toArray, List.map_cons, List.map_nil]); first | done | rfl | (simp only [List.length_drop, List.length_take]; rfl)) ?_
        with_reducible refine (inst_Is.calls k1 ((rd_T25 t332 x6_1).f0) ((rd_T25 t332 x6_1).f1) ((rd_T25 t332 x6_1).f2) ((rd_T25 t332 x6_1).f3) ((rd_T25 t332 x6_1).f4) ((rd_T25 t332 x6_1).f5) ((rd_T25 t332 x6_1).f6) ((rd_T25 t332 x6_1).f7) ((rd_T25 t332 x6_1).f8) ((rd_T25 t332 x6_1).f9) true _ A10.out).mono ?_
        rintro e w31 ⟨rfl, hb⟩
        have HS0_ := pw_cell_below hb hHeld.1
        have HS1_ := pw_cell_below hb hHeld.2.1
        have HS2_ := pw_cell_below hb hHeld.2.2.1
        have HS3_ := pw_cell_below hb hHeld.2.2.2.1
        have HS4_ := pw_cell_below hb hHeld.2.2.2.2.1
        have HS5_ := pw_cell_below hb hHeld.2.2.2.2.2.1
        have HS6_ := pw_cell_below hb hHeld.2.2.2.2.2.2.1
        have HS7_ := pw_cell_below hb hHeld.2.2.2.2.2.2.2.1
        have HS8_ := pw_cell_below hb hHeld.2.2.2.2.2.2.2.2.1
        have HS9_ := pw_cell_below hb hHeld.2.2.2.2.2.2.2.2.2.1
        have HS10_ := pw_cell_below hb hHeld.2.2.2.2.2.2.2.2.2.2.1
        have HS11_ := pw_cell_below hb hHeld.2.2.2.2.2.2.2.2.2.2.2.1
        have HS12_ := pw_cell_below hb hHeld.2.2.2.2.2.2.2.2.2.2.2.2.1
        have HS13_ := pw_cell_below hb hHeld.2.2.2.2.2.2.2.2.2.2.2.2.2.1
        have HS14_ := pw_cell_below hb hHeld.2.2.2.2.2.2.2.2.2.2.2.2.2.2.1
        have HS15_ := pw_cell_below hb hHeld.2.2.2.2.2.2.2.2.2.2.2.2.2.2.2.1
        have HS16_ := pw_cell_below hb hHeld.2.2.2.2.2.2.2.2.2.2.2.2.2.2.2.2.1
        have HS17_ := pw_cell_below hb hHeld.2.2.2.2.2.2.2.2.2.2.2.2.2.2.2.2.2.1
        have HS18_ := pw_cell_below hb hHeld.2.2.2.2.2.2.2.2.2.2.2.2.2.2.2.2.2.2.1
        have HS19_ := pw_cell_below hb hHeld.2.2.2.2.2.2.2.2.2.2.2.2.2.2.2.2.2.2.2
        refine ⟨_, rfl, ?_⟩
        have n0_ := Aside0.mk (Kd.R_below (by (with_reducible repeat (first | apply Kd.R_alloc | apply Kd.R_drewN | apply Kd.R_drew)); exact HO_5.out) hb)
        have n1_ := Aside0.mk (blk_below (g := gb331) (o := .cells #[.int .u64 a1_0, .int .u64 a1_1, .int .u64 a1_2, .int .u64 a1_3] 29 (0, 0)) (by (with_reducible repeat (first | refine blk_drewN ?_ _ | refine blk_drew ?_ | refine blk_alloc ?_ _)); exact BK331.out) hb)
        have n2_ := Aside0.mk (below_step (by repeat (first | (with_reducible first | exact HB.out | apply below_alloc | apply pw_below_drewN | apply below_drew1 | refine below_set ?_ GE331.out) | exact HB.out)) hb)
        clear HO_5
        clear BK331
        clear HB
        have HO_5 := n0_
        have BK331 := n1_
        have HB := n2_
        clear n0_ n1_ n2_
        (try clear hb)
        (try clear hb2)
        (try clear hk)
        (try clear hi)
        refine hK.out _ _ ⟨HS0_, HS1_, HS2_, HS3_, HS4_, HS5_, HS6_, HS7_, HS8_, HS9_, HS10_, HS11_, HS12_, HS13_, HS14_, HS15_, HS16_, HS17_, HS18_, HS19_⟩ (fun hHeld => ?_)
        clear hK K
        refine norm_ (a' := ?_) ?_ ?_
        rotate_left
        ·
         show Act.put _ (some 21) _ = _
         simp only [qa_, qb_, qc_, qd_, i64_w, i32_w]
         rfl
        refine pure_ (i := 5) (N := some 22) (v := ?_) (a' := ?_) bb2_6 rfl rfl (any_of HT_.out (by kernel_rfl)) (fun _ _ _ h => h) (Or.inl ⟨by rfl, ?_⟩) ?_ ?_
        rotate_left
        · intro w'; go_simp; with_reducible rfl
        rotate_left
        · simp only [qa_, qb_, qc_, qd_, i64_w, i32_w]; rfl
        refine pure_ (i := 6) (N := some 23) (v := ?_) (a' := ?_) bb2_7 rfl rfl (any_of HT_.out (by kernel_rfl)) (fun _ _ _ h => h) (Or.inl ⟨by rfl, ?_⟩) ?_ ?_
        rotate_left
        · intro w'; go_simp; with_reducible rfl
        rotate_left
        · simp only [qa_, qb_, qc_, qd_, i64_w, i32_w]; rfl
        refine pure_ (i := 7) (N := some 24) (v := ?_) (a' := ?_) bb2_8 rfl rfl (any_of HT_.out (by kernel_rfl)) (fun _ _ _ h => h) (Or.inl ⟨by rfl, ?_⟩) ?_ ?_
        rotate_left
        · intro w'; go_simp; with_reducible rfl
        rotate_left
        · simp only [qa_, qb_, qc_, qd_, i64_w, i32_w]; rfl
        refine pure_ (i := 8) (N := some 25) (v := ?_) (a' := ?_) bb2_9 rfl rfl (any_of HT_.out (by kernel_rfl)) (fun _ _ _ h => h) (Or.inl ⟨by rfl, ?_⟩) ?_ ?_
        rotate_left
        · intro w'; go_simp; with_reducible rfl
        rotate_left
        · simp only [qa_, qb_, qc_, qd_, i64_w, i32_w]; rfl
        refine pure_ (i := 9) (N := some 26) (v := ?_) (a' := ?_) bb2_10 rfl rfl (any_of HT_.out (by kernel_rfl)) (fun _ _ _ h => h) (Or.inl ⟨by rfl, ?_⟩) ?_ ?_
        rotate_left
        · intro w'; go_simp; with_reducible rfl
        rotate_left
        · simp only [qa_, qb_, qc_, qd_, i64_w, i32_w]; rfl
        refine pure_ (i := 10) (N := some 27) (v := ?_) (a' := ?_) bb2_11 rfl rfl (any_of HT_.out (by kernel_rfl)) (fun _ _ _ h => h) (Or.inl ⟨by rfl, ?_⟩) ?_ ?_
        rotate_left
        · intro w'; go_simp; with_reducible rfl
        rotate_left
        · simp only [qa_, qb_, qc_, qd_, i64_w, i32_w]; rfl
        refine take_ (i := 11) (N := some 28) (v := ?_) (a' := ?_) bb2_12 rfl rfl (take_ofW HT_.out HW_.out (by kernel_rfl)) (fun _ _ _ h => h) (Or.inl ⟨by rfl, ?_⟩) hHeld ?_ ?_
        rotate_left
        · rintro w' ⟨s0, s1, s2, s3, s4, s5, s6, s7, s8, s9, s10, s11, s12, s13, s14, s15, s16, s17, s18, s19⟩; go_simp; with_reducible rfl
        rotate_left
        · simp only [qa_, qb_, qc_, qd_, i64_w, i32_w]; rfl
        refine pure_ (i := 12) (N := some 29) (v := ?_) (a' := ?_) bb2_13 rfl rfl (any_of HT_.out (by kernel_rfl)) (fun _ _ _ h => h) (Or.inl ⟨by rfl, ?_⟩) ?_ ?_
        rotate_left
        · intro w'; go_simp; with_reducible rfl
        rotate_left
        · simp only [qa_, qb_, qc_, qd_, i64_w, i32_w]; rfl
        refine pure_ (i := 13) (N := some 30) (v := ?_) (a' := ?_) bb2_14 rfl rfl (any_of HT_.out (by kernel_rfl)) (fun _ _ _ h => h) (Or.inl ⟨by rfl, ?_⟩) ?_ ?_
        rotate_left
        · intro w'; go_simp; with_reducible rfl
        rotate_left
        · simp only [qa_, qb_, qc_, qd_, i64_w, i32_w]; rfl
        refine pure_ (i := 14) (N := some 31) (v := ?_) (a' := ?_) bb2_15 rfl rfl (any_of HT_.out (by kernel_rfl)) (fun _ _ _ h => h) (Or.inl ⟨by rfl, ?_⟩) ?_ ?_
        rotate_left
        · intro w'; go_simp; with_reducible rfl
        rotate_left
        · simp only [qa_, qb_, qc_, qd_, i64_w, i32_w]; rfl
        refine pure_ (i := 15) (N := some 32) (v := undef) (a' := ?_) bb2_16 rfl rfl (any_of HT_.out (by kernel_rfl)) (fun _ _ _ h => h) (Or.inr ⟨by rfl, rfl⟩) ?_ ?_
        rotate_left
        · simp only [qa_, qb_, qc_, qd_, i64_w, i32_w]; rfl
        refine pure_ (i := 16) (N := some 33) (v := undef) (a' := ?_) bb2_17 rfl rfl (any_of HT_.out (by kernel_rfl)) (fun _ _ _ h => h) (Or.inr ⟨by rfl, rfl⟩) ?_ ?_
        rotate_left
        · simp only [qa_, qb_, qc_, qd_, i64_w, i32_w]; rfl
        refine pure_ (i := 17) (N := some 34) (v := undef) (a' := ?_) bb2_18 rfl rfl (any_of HT_.out (by kernel_rfl)) (fun _ _ _ h => h) (Or.inr ⟨by rfl, rfl⟩) ?_ ?_
        rotate_left
        · simp only [qa_, qb_, qc_, qd_, i64_w, i32_w]; rfl
        refine pure_ (i := 18) (N := some 35) (v := undef) (a' := ?_) bb2_19 rfl rfl (any_of HT_.out (by kernel_rfl)) (fun _ _ _ h => h) (Or.inr ⟨by rfl, rfl⟩) ?_ ?_
        rotate_left
        · simp only [qa_, qb_, qc_, qd_, i64_w, i32_w]; rfl
        refine pure_ (i := 19) (N := some 36) (v := undef) (a' := ?_) bb2_60 rfl rfl (any_of HT_.out (by kernel_rfl)) (fun _ _ _ h => h) (Or.inr ⟨by rfl, rfl⟩) ?_ ?_
        rotate_left
        · simp only [qa_, qb_, qc_, qd_, i64_w, i32_w]; rfl
        refine pure_ (i := 20) (N := some 37) (v := undef) (a' := ?_) bb2_61 rfl rfl (any_of HT_.out (by kernel_rfl)) (fun _ _ _ h => h) (Or.inr ⟨by rfl, rfl⟩) ?_ ?_
        rotate_left
        · simp only [qa_, qb_, qc_, qd_, i64_w, i32_w]; rfl
        refine pure_ (i := 21) (N := some 38) (v := undef) (a' := ?_) bb2_62 rfl rfl (any_of HT_.out (by kernel_rfl)) (fun _ _ _ h => h) (Or.inr ⟨by rfl, rfl⟩) ?_ ?_
        rotate_left
        · simp only [qa_, qb_, qc_, qd_, i64_w, i32_w]; rfl
        refine pure_ (i := 22) (N := some 39) (v := undef) (a' := ?_) bb2_23 rfl rfl (any_of HT_.out (by kernel_rfl)) (fun _ _ _ h => h) (Or.inr ⟨by rfl, rfl⟩) ?_ ?_
        rotate_left
        · simp only [qa_, qb_, qc_, qd_, i64_w, i32_w]; rfl
        refine pure_ (i := 23) (N := some 40) (v := undef) (a' := ?_) bb2_24 rfl rfl (any_of HT_.out (by kernel_rfl)) (fun _ _ _ h => h) (Or.inr ⟨by rfl, rfl⟩) ?_ ?_
        rotate_left
        · simp only [qa_, qb_, qc_, qd_, i64_w, i32_w]; rfl
        refine pure_ (i := 24) (N := some 41) (v := ?_) (a' := ?_) bb2_25 rfl rfl (any_of HT_.out (by kernel_rfl)) (fun _ _ _ h => h) (Or.inl ⟨by rfl, ?_⟩) ?_ ?_
        rotate_left
        · intro w'; go_simp; with_reducible rfl
        rotate_left
        · simp only [qa_, qb_, qc_, qd_, i64_w, i32_w]; rfl
        refine pure_ (i := 25) (N := some 42) (v := ?_) (a' := ?_) bb2_26 rfl rfl (any_of HT_.out (by kernel_rfl)) (fun _ _ _ h => h) (Or.inl ⟨by rfl, ?_⟩) ?_ ?_
        rotate_left
        · intro w'; go_simp; with_reducible rfl
        rotate_left
        · simp only [qa_, qb_, qc_, qd_, i64_w, i32_w]; rfl
        refine pure_ (i := 26) (N := some 43) (v := undef) (a' := ?_) bb2_27 rfl rfl (any_of HT_.out (by kernel_rfl)) (fun _ _ _ h => h) (Or.inr ⟨by rfl, rfl⟩) ?_ ?_
        rotate_left
        · simp only [qa_, qb_, qc_, qd_, i64_w, i32_w]; rfl
        refine pure_ (i := 27) (N := some 44) (v := undef) (a' := ?_) bb2_28 rfl rfl (any_of HT_.out (by kernel_rfl)) (fun _ _ _ h => h) (Or.inr ⟨by rfl, rfl⟩) ?_ ?_
        rotate_left
        · simp only [qa_, qb_, qc_, qd_, i64_w, i32_w]; rfl
        refine pure_ (i := 28) (N := some 45) (v := undef) (a' := ?_) bb2_29 rfl rfl (any_of HT_.out (by kernel_rfl)) (fun _ _ _ h => h) (Or.inr ⟨by rfl, rfl⟩) ?_ ?_
        rotate_left
        · simp only [qa_, qb_, qc_, qd_, i64_w, i32_w]; rfl
        refine pure_ (i := 29) (N := some 46) (v := undef) (a' := ?_) bb2_30 rfl rfl (any_of HT_.out (by kernel_rfl)) (fun _ _ _ h => h) (Or.inr ⟨by rfl, rfl⟩) ?_ ?_
        rotate_left
        · simp only [qa_, qb_, qc_, qd_, i64_w, i32_w]; rfl
        refine pure_ (i := 30) (N := some 47) (v := undef) (a' := ?_) bb2_31 rfl rfl (any_of HT_.out (by kernel_rfl)) (fun _ _ _ h => h) (Or.inr ⟨by rfl, rfl⟩) ?_ ?_
        rotate_left
        · simp only [qa_, qb_, qc_, qd_, i64_w, i32_w]; rfl
        refine pure_ (i := 31) (N := some 48) (v := undef) (a' := ?_) bb2_32 rfl rfl (any_of HT_.out (by kernel_rfl)) (fun _ _ _ h => h) (Or.inr ⟨by rfl, rfl⟩) ?_ ?_
        rotate_left
        · simp only [qa_, qb_, qc_, qd_, i64_w, i32_w]; rfl
        refine pure_ (i := 32) (N := some 49) (v := undef) (a' := ?_) bb2_33 rfl rfl (any_of HT_.out (by kernel_rfl)) (fun _ _ _ h => h) (Or.inr ⟨by rfl, rfl⟩) ?_ ?_
        rotate_left
        · simp only [qa_, qb_, qc_, qd_, i64_w, i32_w]; rfl
        refine pure_ (i := 33) (N := some 50) (v := undef) (a' := ?_) bb2_34 rfl rfl (any_of HT_.out (by kernel_rfl)) (fun _ _ _ h => h) (Or.inr ⟨by rfl, rfl⟩) ?_ ?_
        rotate_left
        · simp only [qa_, qb_, qc_, qd_, i64_w, i32_w]; rfl
        refine pure_ (i := 34) (N := some 51) (v := undef) (a' := ?_) bb2_35 rfl rfl (any_of HT_.out (by kernel_rfl)) (fun _ _ _ h => h) (Or.inr ⟨by rfl, rfl⟩) ?_ ?_
        rotate_left
        · simp only [qa_, qb_, qc_, qd_, i64_w, i32_w]; rfl
        refine pure_ (i := 35) (N := some 52) (v := undef) (a' := ?_) bb2_36 rfl rfl (any_of HT_.out (by kernel_rfl)) (fun _ _ _ h => h) (Or.inr ⟨by rfl, rfl⟩) ?_ ?_
        rotate_left
        · simp only [qa_, qb_, qc_, qd_, i64_w, i32_w]; rfl
        refine pure_ (i := 36) (N := some 53) (v := undef) (a' := ?_) bb2_37 rfl rfl (any_of HT_.out (by kernel_rfl)) (fun _ _ _ h => h) (Or.inr ⟨by rfl, rfl⟩) ?_ ?_
        rotate_left
        · simp only [qa_, qb_, qc_, qd_, i64_w, i32_w]; rfl
        refine pure_ (i := 37) (N := some 54) (v := undef) (a' := ?_) bb2_38 rfl rfl (any_of HT_.out (by kernel_rfl)) (fun _ _ _ h => h) (Or.inr ⟨by rfl, rfl⟩) ?_ ?_
        rotate_left
        · simp only [qa_, qb_, qc_, qd_, i64_w, i32_w]; rfl
        refine pure_ (i := 38) (N := some 55) (v := undef) (a' := ?_) bb2_39 rfl rfl (any_of HT_.out (by kernel_rfl)) (fun _ _ _ h => h) (Or.inr ⟨by rfl, rfl⟩) ?_ ?_
        rotate_left
        · simp only [qa_, qb_, qc_, qd_, i64_w, i32_w]; rfl
        refine pure_ (i := 39) (N := some 56) (v := undef) (a' := ?_) bb2_40 rfl rfl (any_of HT_.out (by kernel_rfl)) (fun _ _ _ h => h) (Or.inr ⟨by rfl, rfl⟩) ?_ ?_
        rotate_left
        · simp only [qa_, qb_, qc_, qd_, i64_w, i32_w]; rfl
        refine pure_ (i := 40) (N := some 57) (v := undef) (a' := ?_) bb2_41 rfl rfl (any_of HT_.out (by kernel_rfl)) (fun _ _ _ h => h) (Or.inr ⟨by rfl, rfl⟩) ?_ ?_
        rotate_left
        · simp only [qa_, qb_, qc_, qd_, i64_w, i32_w]; rfl
        refine pure_ (i := 41) (N := some 58) (v := undef) (a' := ?_) bb2_42 rfl rfl (any_of HT_.out (by kernel_rfl)) (fun _ _ _ h => h) (Or.inr ⟨by rfl, rfl⟩) ?_ ?_
        rotate_left
        · simp only [qa_, qb_, qc_, qd_, i64_w, i32_w]; rfl
        refine pure_ (i := 42) (N := some 59) (v := undef) (a' := ?_) bb2_43 rfl rfl (any_of HT_.out (by kernel_rfl)) (fun _ _ _ h => h) (Or.inr ⟨by rfl, rfl⟩) ?_ ?_
        rotate_left
        · simp only [qa_, qb_, qc_, qd_, i64_w, i32_w]; rfl
        refine pure_ (i := 43) (N := some 60) (v := undef) (a' := ?_) bb2_44 rfl rfl (any_of HT_.out (by kernel_rfl)) (fun _ _ _ h => h) (Or.inr ⟨by rfl, rfl⟩) ?_ ?_
        rotate_left
        · simp only [qa_, qb_, qc_, qd_, i64_w, i32_w]; rfl
        refine pure_ (i := 44) (N := some 61) (v := undef) (a' := ?_) bb2_45 rfl rfl (any_of HT_.out (by kernel_rfl)) (fun _ _ _ h => h) (Or.inr ⟨by rfl, rfl⟩) ?_ ?_
        rotate_left
        · simp only [qa_, qb_, qc_, qd_, i64_w, i32_w]; rfl
        refine pure_ (i := 45) (N := some 62) (v := undef) (a' := ?_) bb2_46 rfl rfl (any_of HT_.out (by kernel_rfl)) (fun _ _ _ h => h) (Or.inr ⟨by rfl, rfl⟩) ?_ ?_
        rotate_left
        · simp only [qa_, qb_, qc_, qd_, i64_w, i32_w]; rfl
        refine pure_ (i := 46) (N := some 63) (v := undef) (a' := ?_) bb2_47 rfl rfl (any_of HT_.out (by kernel_rfl)) (fun _ _ _ h => h) (Or.inr ⟨by rfl, rfl⟩) ?_ ?_
        rotate_left
        · simp only [qa_, qb_, qc_, qd_, i64_w, i32_w]; rfl
        refine pure_ (i := 47) (N := some 64) (v := undef) (a' := ?_) bb2_48 rfl rfl (any_of HT_.out (by kernel_rfl)) (fun _ _ _ h => h) (Or.inr ⟨by rfl, rfl⟩) ?_ ?_
        rotate_left
        · simp only [qa_, qb_, qc_, qd_, i64_w, i32_w]; rfl
        refine pure_ (i := 48) (N := some 65) (v := undef) (a' := ?_) bb2_49 rfl rfl (any_of HT_.out (by kernel_rfl)) (fun _ _ _ h => h) (Or.inr ⟨by rfl, rfl⟩) ?_ ?_
        rotate_left
        · simp only [qa_, qb_, qc_, qd_, i64_w, i32_w]; rfl
        refine pure_ (i := 49) (N := some 66) (v := undef) (a' := ?_) bb2_50 rfl rfl (any_of HT_.out (by kernel_rfl)) (fun _ _ _ h => h) (Or.inr ⟨by rfl, rfl⟩) ?_ ?_
        rotate_left
        · simp only [qa_, qb_, qc_, qd_, i64_w, i32_w]; rfl
        refine pure_ (i := 50) (N := some 67) (v := undef) (a' := ?_) bb2_51 rfl rfl (any_of HT_.out (by kernel_rfl)) (fun _ _ _ h => h) (Or.inr ⟨by rfl, rfl⟩) ?_ ?_
        rotate_left
        · simp only [qa_, qb_, qc_, qd_, i64_w, i32_w]; rfl
        refine pure_ (i := 51) (N := some 68) (v := undef) (a' := ?_) bb2_52 rfl rfl (any_of HT_.out (by kernel_rfl)) (fun _ _ _ h => h) (Or.inr ⟨by rfl, rfl⟩) ?_ ?_
        rotate_left
        · simp only [qa_, qb_, qc_, qd_, i64_w, i32_w]; rfl
        refine pure_ (i := 52) (N := some 69) (v := undef) (a' := ?_) bb2_53 rfl rfl (any_of HT_.out (by kernel_rfl)) (fun _ _ _ h => h) (Or.inr ⟨by rfl, rfl⟩) ?_ ?_
        rotate_left
        · simp only [qa_, qb_, qc_, qd_, i64_w, i32_w]; rfl
        refine pure_ (i := 53) (N := some 70) (v := undef) (a' := ?_) bb2_54 rfl rfl (any_of HT_.out (by kernel_rfl)) (fun _ _ _ h => h) (Or.inr ⟨by rfl, rfl⟩) ?_ ?_
        rotate_left
        · simp only [qa_, qb_, qc_, qd_, i64_w, i32_w]; rfl
        refine pure_ (i := 54) (N := some 71) (v := undef) (a' := ?_) bb2_55 rfl rfl (any_of HT_.out (by kernel_rfl)) (fun _ _ _ h => h) (Or.inr ⟨by rfl, rfl⟩) ?_ ?_
        rotate_left
        · simp only [qa_, qb_, qc_, qd_, i64_w, i32_w]; rfl
        refine pure_ (i := 55) (N := some 72) (v := undef) (a' := ?_) bb2_56 rfl rfl (any_of HT_.out (by kernel_rfl)) (fun _ _ _ h => h) (Or.inr ⟨by rfl, rfl⟩) ?_ ?_
        rotate_left
        · simp only [qa_, qb_, qc_, qd_, i64_w, i32_w]; rfl
        refine pure_ (i := 56) (N := some 73) (v := undef) (a' := ?_) bb2_57 rfl rfl (any_of HT_.out (by kernel_rfl)) (fun _ _ _ h => h) (Or.inr ⟨by rfl, rfl⟩) ?_ ?_
        rotate_left
        · simp only [qa_, qb_, qc_, qd_, i64_w, i32_w]; rfl
        refine pure_ (i := 57) (N := some 74) (v := undef) (a' := ?_) bb2_58 rfl rfl (any_of HT_.out (by kernel_rfl)) (fun _ _ _ h => h) (Or.inr ⟨by rfl, rfl⟩) ?_ ?_
        rotate_left
        · simp only [qa_, qb_, qc_, qd_, i64_w, i32_w]; rfl
        refine pure_ (i := 58) (N := some 75) (v := ?_) (a' := ?_) bb2_59 rfl rfl (any_of HT_.out (by kernel_rfl)) (fun _ _ _ h => h) (Or.inl ⟨by rfl, ?_⟩) ?_ ?_
        rotate_left
        · intro w'; go_simp; with_reducible rfl
        rotate_left
        · simp only [qa_, qb_, qc_, qd_, i64_w, i32_w]; rfl
        refine done_ (done_of HT_.out (by kernel_rfl)) ?_
        try go_wp2
        go_meet
        case rel => exact ⟨_, (true), (by first | rfl | (simp; done) | (simp [*]; done)), H', ⟨by have := HK1.out; first | omega | exact Nat.le_refl _⟩, ⟨by (with_reducible repeat (first | apply Kd.R_alloc | apply Kd.R_drewN | apply Kd.R_drew)); exact HO_5.out⟩, ⟨by (with_reducible repeat (first | refine blk_drewN ?_ _ | refine blk_drew ?_ | refine blk_alloc ?_ _)); exact BK331.out⟩, ⟨by repeat (first | (with_reducible first | exact HB.out | apply below_alloc | apply pw_below_drewN | apply below_drew1 | refine below_set ?_ GE331.out) | exact HB.out)⟩⟩
      ·
       replace c11 := Bool.eq_false_iff.mpr c11
       subst c11
       have H1 : (cleatlaw06_AluLoads.j1 k1 a0 t332 x6_1 true a1_0 a1_1 a1_2 a1_3) = some r := by rw [if_neg (show ¬ (false = true) by decide)] at H; exact H
       clear H
       have H := H1
       clear H1
       have H' := Aside0.mk H
       clear H
       try go_wp2
       have n0_ := Aside0.mk (Kd.R_drew HO_5.out)
       have n1_ := Aside0.mk (blk_drew BK331.out)
       have n2_ := Aside0.mk (below_drew1 HB.out)
       clear HO_5
       clear BK331
       clear HB
       have HO_5 := n0_
       have BK331 := n1_
       have HB := n2_
       clear n0_ n1_ n2_
       have p335 : 0 ≤ (x6_1 : Int) := of_decide_eq_true (by first | (with_reducible assumption) | assumption)
       have q335 : x6_1 < (t332.length : Int) := of_decide_eq_true (by first | (with_reducible assumption) | assumption)
       obtain ⟨ad335, e335, hx335_0, hx335_1, hx335_2, hx335_3, hx335_4, hx335_5, hx335_6, hx335_7, hx335_8, hx335_9⟩ := at_T25 (Kd.R_reads' HO_5.out).2.2 x6_1 p335 q335
       cases e335
       replace p335 := eq_true p335
       replace q335 := eq_true q335
       refine start_ (n := 59) (S := fun w' => w'.cell? (ad335.add ((x6_1).toNat * 10)) = some (.int .i64 ((rd_T25 t332 x6_1).f0)) ∧ w'.cell? ⟨(ad335.add ((x6_1).toNat * 10)).block, (ad335.add ((x6_1).toNat * 10)).off + 1, none⟩ = some (.int .i64 ((rd_T25 t332 x6_1).f1)) ∧ w'.cell? ⟨(ad335.add ((x6_1).toNat * 10)).block, (ad335.add ((x6_1).toNat * 10)).off + 2, none⟩ = some (.int .i64 ((rd_T25 t332 x6_1).f2)) ∧ w'.cell? ⟨(ad335.add ((x6_1).toNat * 10)).block, (ad335.add ((x6_1).toNat * 10)).off + 3, none⟩ = some (.int .i64 ((rd_T25 t332 x6_1).f3)) ∧ w'.cell? ⟨(ad335.add ((x6_1).toNat * 10)).block, (ad335.add ((x6_1).toNat * 10)).off + 4, none⟩ = some (.int .i64 ((rd_T25 t332 x6_1).f4)) ∧ w'.cell? ⟨(ad335.add ((x6_1).toNat * 10)).block, (ad335.add ((x6_1).toNat * 10)).off + 5, none⟩ = some (.int .i64 ((rd_T25 t332 x6_1).f5)) ∧ w'.cell? ⟨(ad335.add ((x6_1).toNat * 10)).block, (ad335.add ((x6_1).toNat * 10)).off + 6, none⟩ = some (.int .u64 ((rd_T25 t332 x6_1).f6)) ∧ w'.cell? ⟨(ad335.add ((x6_1).toNat * 10)).block, (ad335.add ((x6_1).toNat * 10)).off + 7, none⟩ = some (.int .i64 ((rd_T25 t332 x6_1).f7)) ∧ w'.cell? ⟨(ad335.add ((x6_1).toNat * 10)).block, (ad335.add ((x6_1).toNat * 10)).off + 8, none⟩ = some (.int .i64 ((rd_T25 t332 x6_1).f8)) ∧ w'.cell? ⟨(ad335.add ((x6_1).toNat * 10)).block, (ad335.add ((x6_1).toNat * 10)).off + 9, none⟩ = some (.int .i64 ((rd_T25 t332 x6_1).f9))) (ds := []) bb2_0 (by kernel_rfl) rfl rfl ⟨hx335_0, hx335_1, hx335_2, hx335_3, hx335_4, hx335_5, hx335_6, hx335_7, hx335_8, hx335_9⟩ (fun hHeld => ?_); refine with_tabW cleatlaw06_AluLoads.tab5 cleatlaw06_AluLoads.bits5 (fun HT_ HW_ => ?_)
       generalize wr.drew = w32 at HO_5 BK331 HB hx335_0 hx335_1 hx335_2 hx335_3 hx335_4 hx335_5 hx335_6 hx335_7 hx335_8 hx335_9 hHeld ⊢
       refine pure_ (i := 0) (N := some 17) (v := ?_) (a' := ?_) bb2_1 rfl rfl (any_of HT_.out (by kernel_rfl)) (fun _ _ _ h => h) (Or.inl ⟨by rfl, ?_⟩) ?_ ?_
       rotate_left
       · intro w'; go_simp; with_reducible rfl
       rotate_left
       · simp only [qa_, qb_, qc_, qd_, i64_w, i32_w]; rfl
       refine pure_ (i := 1) (N := some 18) (v := ?_) (a' := ?_) bb2_2 rfl rfl (any_of HT_.out (by kernel_rfl)) (fun _ _ _ h => h) (Or.inl ⟨by rfl, ?_⟩) ?_ ?_
       rotate_left
       · intro w'; go_simp; with_reducible rfl
       rotate_left
       · simp only [qa_, qb_, qc_, qd_, i64_w, i32_w]; rfl
       refine pure_ (i := 2) (N := some 19) (v := ?_) (a' := ?_) bb2_3 rfl rfl (any_of HT_.out (by kernel_rfl)) (fun _ _ _ h => h) (Or.inl ⟨by rfl, ?_⟩) ?_ ?_
       rotate_left
       · intro w'; go_simp; with_reducible rfl
       rotate_left
       · simp only [qa_, qb_, qc_, qd_, i64_w, i32_w]; rfl
       refine take_ (i := 3) (N := some 20) (v := ?_) (a' := ?_) bb2_4 rfl rfl (take_ofW HT_.out HW_.out (by kernel_rfl)) (fun _ _ _ h => h) (Or.inl ⟨by rfl, ?_⟩) hHeld ?_ ?_
       rotate_left
       · rintro w' ⟨s0, s1, s2, s3, s4, s5, s6, s7, s8, s9⟩; go_simp; with_reducible rfl
       rotate_left
       · simp only [qa_, qb_, qc_, qd_, i64_w, i32_w]; rfl
       refine one_ (i := 4) (N := some 21) bb2_5 rfl rfl (one_of HT_.out (by kernel_rfl)) (by decide) (fun K hK => ?_)
       refine goes_ Tryd.func16 (by kernel_rfl) rfl #[.agg #[.int .i64 ((rd_T25 t332 x6_1).f0), .int .i64 ((rd_T25 t332 x6_1).f1), .int .i64 ((rd_T25 t332 x6_1).f2), .int .i64 ((rd_T25 t332 x6_1).f3), .int .i64 ((rd_T25 t332 x6_1).f4), .int .i64 ((rd_T25 t332 x6_1).f5), .int .u64 ((rd_T25 t332 x6_1).f6), .int .i64 ((rd_T25 t332 x6_1).f7), .int .i64 ((rd_T25 t332 x6_1).f8), .int .i64 ((rd_T25 t332 x6_1).f9)]] (by rfl) rfl rfl (by (try simp only [List.map_toArray, List.map_cons, List.map_nil]); first | done | rfl | (simp only [List.length_drop, List.length_take]; rfl)) ?_
       with_reducible refine (inst_Is.calls k1 ((rd_T25 t332 x6_1).f0) ((rd_T25 t332 x6_1).f1) ((rd_T25 t332 x6_1).f2) ((rd_T25 t332 x6_1).f3) ((rd_T25 t332 x6_1).f4) ((rd_T25 t332 x6_1).f5) ((rd_T25 t332 x6_1).f6) ((rd_T25 t332 x6_1).f7) ((rd_T25 t332 x6_1).f8) ((rd_T25 t332 x6_1).f9) false _ A10.out).mono ?_
       rintro e w33 ⟨rfl, hb⟩
       have HS0_ := pw_cell_below hb hHeld.1
       have HS1_ := pw_cell_below hb hHeld.2.1
       have HS2_ := pw_cell_below hb hHeld.2.2.1
       have HS3_ := pw_cell_below hb hHeld.2.2.2.1
       have HS4_ := pw_cell_below hb hHeld.2.2.2.2.1
       have HS5_ := pw_cell_below hb hHeld.2.2.2.2.2.1
       have HS6_ := pw_cell_below hb hHeld.2.2.2.2.2.2.1
       have HS7_ := pw_cell_below hb hHeld.2.2.2.2.2.2.2.1
       have HS8_ := pw_cell_below hb hHeld.2.2.2.2.2.2.2.2.1
       have HS9_ := pw_cell_below hb hHeld.2.2.2.2.2.2.2.2.2
       refine ⟨_, rfl, ?_⟩
       have n0_ := Aside0.mk (Kd.R_below (by (with_reducible repeat (first | apply Kd.R_alloc | apply Kd.R_drewN | apply Kd.R_drew)); exact HO_5.out) hb)
       have n1_ := Aside0.mk (blk_below (g := gb331) (o := .cells #[.int .u64 a1_0, .int .u64 a1_1, .int .u64 a1_2, .int .u64 a1_3] 29 (0, 0)) (by (with_reducible repeat (first | refine blk_drewN ?_ _ | refine blk_drew ?_ | refine blk_alloc ?_ _)); exact BK331.out) hb)
       have n2_ := Aside0.mk (below_step (by repeat (first | (with_reducible first | exact HB.out | apply below_alloc | apply pw_below_drewN | apply below_drew1 | refine below_set ?_ GE331.out) | exact HB.out)) hb)
       clear HO_5
       clear BK331
       clear HB
       have HO_5 := n0_
       have BK331 := n1_
       have HB := n2_
       clear n0_ n1_ n2_
       (try clear hb)
       (try clear hb2)
       (try clear hk)
       (try clear hi)
       refine hK.out _ _ ⟨HS0_, HS1_, HS2_, HS3_, HS4_, HS5_, HS6_, HS7_, HS8_, HS9_⟩ (fun hHeld => ?_)
       clear hK K
       refine norm_ (a' := ?_) ?_ ?_
       rotate_left
       ·
        show Act.put _ (some 21) _ = _
        simp only [qa_, qb_, qc_, qd_, i64_w, i32_w]
        rfl
       refine pure_ (i := 5) (N := some 22) (v := ?_) (a' := ?_) bb2_6 rfl rfl (any_of HT_.out (by kernel_rfl)) (fun _ _ _ h => h) (Or.inl ⟨by rfl, ?_⟩) ?_ ?_
       rotate_left
       · intro w'; go_simp; with_reducible rfl
       rotate_left
       · simp only [qa_, qb_, qc_, qd_, i64_w, i32_w]; rfl
       refine pure_ (i := 6) (N := some 23) (v := ?_) (a' := ?_) bb2_7 rfl rfl (any_of HT_.out (by kernel_rfl)) (fun _ _ _ h => h) (Or.inl ⟨by rfl, ?_⟩) ?_ ?_
       rotate_left
       · intro w'; go_simp; with_reducible rfl
       rotate_left
       · simp only [qa_, qb_, qc_, qd_, i64_w, i32_w]; rfl
       refine pure_ (i := 7) (N := some 24) (v := undef) (a' := ?_) bb2_8 rfl rfl (any_of HT_.out (by kernel_rfl)) (fun _ _ _ h => h) (Or.inr ⟨by rfl, rfl⟩) ?_ ?_
       rotate_left
       · simp only [qa_, qb_, qc_, qd_, i64_w, i32_w]; rfl
       refine pure_ (i := 8) (N := some 25) (v := undef) (a' := ?_) bb2_9 rfl rfl (any_of HT_.out (by kernel_rfl)) (fun _ _ _ h => h) (Or.inr ⟨by rfl, rfl⟩) ?_ ?_
       rotate_left
       · simp only [qa_, qb_, qc_, qd_, i64_w, i32_w]; rfl
       refine pure_ (i := 9) (N := some 26) (v := undef) (a' := ?_) bb2_10 rfl rfl (any_of HT_.out (by kernel_rfl)) (fun _ _ _ h => h) (Or.inr ⟨by rfl, rfl⟩) ?_ ?_
       rotate_left
       · simp only [qa_, qb_, qc_, qd_, i64_w, i32_w]; rfl
       refine pure_ (i := 10) (N := some 27) (v := undef) (a' := ?_) bb2_11 rfl rfl (any_of HT_.out (by kernel_rfl)) (fun _ _ _ h => h) (Or.inr ⟨by rfl, rfl⟩) ?_ ?_
       rotate_left
       · simp only [qa_, qb_, qc_, qd_, i64_w, i32_w]; rfl
       refine pure_ (i := 11) (N := some 28) (v := undef) (a' := ?_) bb2_12 rfl rfl (any_of HT_.out (by kernel_rfl)) (fun _ _ _ h => h) (Or.inr ⟨by rfl, rfl⟩) ?_ ?_
       rotate_left
       · simp only [qa_, qb_, qc_, qd_, i64_w, i32_w]; rfl
       refine pure_ (i := 12) (N := some 29) (v := undef) (a' := ?_) bb2_13 rfl rfl (any_of HT_.out (by kernel_rfl)) (fun _ _ _ h => h) (Or.inr ⟨by rfl, rfl⟩) ?_ ?_
       rotate_left
       · simp only [qa_, qb_, qc_, qd_, i64_w, i32_w]; rfl
       refine pure_ (i := 13) (N := some 30) (v := ?_) (a' := ?_) bb2_14 rfl rfl (any_of HT_.out (by kernel_rfl)) (fun _ _ _ h => h) (Or.inl ⟨by rfl, ?_⟩) ?_ ?_
       rotate_left
       · intro w'; go_simp; with_reducible rfl
       rotate_left
       · simp only [qa_, qb_, qc_, qd_, i64_w, i32_w]; rfl
       refine pure_ (i := 14) (N := some 31) (v := ?_) (a' := ?_) bb2_15 rfl rfl (any_of HT_.out (by kernel_rfl)) (fun _ _ _ h => h) (Or.inl ⟨by rfl, ?_⟩) ?_ ?_
       rotate_left
       · intro w'; go_simp; with_reducible rfl
       rotate_left
       · simp only [qa_, qb_, qc_, qd_, i64_w, i32_w]; rfl
       refine pure_ (i := 15) (N := some 32) (v := undef) (a' := ?_) bb2_16 rfl rfl (any_of HT_.out (by kernel_rfl)) (fun _ _ _ h => h) (Or.inr ⟨by rfl, rfl⟩) ?_ ?_
       rotate_left
       · simp only [qa_, qb_, qc_, qd_, i64_w, i32_w]; rfl
       refine pure_ (i := 16) (N := some 33) (v := undef) (a' := ?_) bb2_17 rfl rfl (any_of HT_.out (by kernel_rfl)) (fun _ _ _ h => h) (Or.inr ⟨by rfl, rfl⟩) ?_ ?_
       rotate_left
       · simp only [qa_, qb_, qc_, qd_, i64_w, i32_w]; rfl
       refine pure_ (i := 17) (N := some 34) (v := undef) (a' := ?_) bb2_18 rfl rfl (any_of HT_.out (by kernel_rfl)) (fun _ _ _ h => h) (Or.inr ⟨by rfl, rfl⟩) ?_ ?_
       rotate_left
       · simp only [qa_, qb_, qc_, qd_, i64_w, i32_w]; rfl
       refine pure_ (i := 18) (N := some 35) (v := undef) (a' := ?_) bb2_19 rfl rfl (any_of HT_.out (by kernel_rfl)) (fun _ _ _ h => h) (Or.inr ⟨by rfl, rfl⟩) ?_ ?_
       rotate_left
       · simp only [qa_, qb_, qc_, qd_, i64_w, i32_w]; rfl
       refine pure_ (i := 19) (N := some 36) (v := undef) (a' := ?_) bb2_60 rfl rfl (any_of HT_.out (by kernel_rfl)) (fun _ _ _ h => h) (Or.inr ⟨by rfl, rfl⟩) ?_ ?_
       rotate_left
       · simp only [qa_, qb_, qc_, qd_, i64_w, i32_w]; rfl
       refine pure_ (i := 20) (N := some 37) (v := undef) (a' := ?_) bb2_61 rfl rfl (any_of HT_.out (by kernel_rfl)) (fun _ _ _ h => h) (Or.inr ⟨by rfl, rfl⟩) ?_ ?_
       rotate_left
       · simp only [qa_, qb_, qc_, qd_, i64_w, i32_w]; rfl
       refine pure_ (i := 21) (N := some 38) (v := undef) (a' := ?_) bb2_62 rfl rfl (any_of HT_.out (by kernel_rfl)) (fun _ _ _ h => h) (Or.inr ⟨by rfl, rfl⟩) ?_ ?_
       rotate_left
       · simp only [qa_, qb_, qc_, qd_, i64_w, i32_w]; rfl
       refine pure_ (i := 22) (N := some 39) (v := undef) (a' := ?_) bb2_23 rfl rfl (any_of HT_.out (by kernel_rfl)) (fun _ _ _ h => h) (Or.inr ⟨by rfl, rfl⟩) ?_ ?_
       rotate_left
       · simp only [qa_, qb_, qc_, qd_, i64_w, i32_w]; rfl
       refine pure_ (i := 23) (N := some 40) (v := undef) (a' := ?_) bb2_24 rfl rfl (any_of HT_.out (by kernel_rfl)) (fun _ _ _ h => h) (Or.inr ⟨by rfl, rfl⟩) ?_ ?_
       rotate_left
       · simp only [qa_, qb_, qc_, qd_, i64_w, i32_w]; rfl
       refine pure_ (i := 24) (N := some 41) (v := ?_) (a' := ?_) bb2_25 rfl rfl (any_of HT_.out (by kernel_rfl)) (fun _ _ _ h => h) (Or.inl ⟨by rfl, ?_⟩) ?_ ?_
       rotate_left
       · intro w'; go_simp; with_reducible rfl
       rotate_left
       · simp only [qa_, qb_, qc_, qd_, i64_w, i32_w]; rfl
       refine pure_ (i := 25) (N := some 42) (v := ?_) (a' := ?_) bb2_26 rfl rfl (any_of HT_.out (by kernel_rfl)) (fun _ _ _ h => h) (Or.inl ⟨by rfl, ?_⟩) ?_ ?_
       rotate_left
       · intro w'; go_simp; with_reducible rfl
       rotate_left
       · simp only [qa_, qb_, qc_, qd_, i64_w, i32_w]; rfl
       refine pure_ (i := 26) (N := some 43) (v := undef) (a' := ?_) bb2_27 rfl rfl (any_of HT_.out (by kernel_rfl)) (fun _ _ _ h => h) (Or.inr ⟨by rfl, rfl⟩) ?_ ?_
       rotate_left
       · simp only [qa_, qb_, qc_, qd_, i64_w, i32_w]; rfl
       refine pure_ (i := 27) (N := some 44) (v := undef) (a' := ?_) bb2_28 rfl rfl (any_of HT_.out (by kernel_rfl)) (fun _ _ _ h => h) (Or.inr ⟨by rfl, rfl⟩) ?_ ?_
       rotate_left
       · simp only [qa_, qb_, qc_, qd_, i64_w, i32_w]; rfl
       refine pure_ (i := 28) (N := some 45) (v := undef) (a' := ?_) bb2_29 rfl rfl (any_of HT_.out (by kernel_rfl)) (fun _ _ _ h => h) (Or.inr ⟨by rfl, rfl⟩) ?_ ?_
       rotate_left
       · simp only [qa_, qb_, qc_, qd_, i64_w, i32_w]; rfl
       refine pure_ (i := 29) (N := some 46) (v := undef) (a' := ?_) bb2_30 rfl rfl (any_of HT_.out (by kernel_rfl)) (fun _ _ _ h => h) (Or.inr ⟨by rfl, rfl⟩) ?_ ?_
       rotate_left
       · simp only [qa_, qb_, qc_, qd_, i64_w, i32_w]; rfl
       refine pure_ (i := 30) (N := some 47) (v := undef) (a' := ?_) bb2_31 rfl rfl (any_of HT_.out (by kernel_rfl)) (fun _ _ _ h => h) (Or.inr ⟨by rfl, rfl⟩) ?_ ?_
       rotate_left
       · simp only [qa_, qb_, qc_, qd_, i64_w, i32_w]; rfl
       refine pure_ (i := 31) (N := some 48) (v := undef) (a' := ?_) bb2_32 rfl rfl (any_of HT_.out (by kernel_rfl)) (fun _ _ _ h => h) (Or.inr ⟨by rfl, rfl⟩) ?_ ?_
       rotate_left
       · simp only [qa_, qb_, qc_, qd_, i64_w, i32_w]; rfl
       refine pure_ (i := 32) (N := some 49) (v := undef) (a' := ?_) bb2_33 rfl rfl (any_of HT_.out (by kernel_rfl)) (fun _ _ _ h => h) (Or.inr ⟨by rfl, rfl⟩) ?_ ?_
       rotate_left
       · simp only [qa_, qb_, qc_, qd_, i64_w, i32_w]; rfl
       refine pure_ (i := 33) (N := some 50) (v := undef) (a' := ?_) bb2_34 rfl rfl (any_of HT_.out (by kernel_rfl)) (fun _ _ _ h => h) (Or.inr ⟨by rfl, rfl⟩) ?_ ?_
       rotate_left
       · simp only [qa_, qb_, qc_, qd_, i64_w, i32_w]; rfl
       refine pure_ (i := 34) (N := some 51) (v := undef) (a' := ?_) bb2_35 rfl rfl (any_of HT_.out (by kernel_rfl)) (fun _ _ _ h => h) (Or.inr ⟨by rfl, rfl⟩) ?_ ?_
       rotate_left
       · simp only [qa_, qb_, qc_, qd_, i64_w, i32_w]; rfl
       refine pure_ (i := 35) (N := some 52) (v := undef) (a' := ?_) bb2_36 rfl rfl (any_of HT_.out (by kernel_rfl)) (fun _ _ _ h => h) (Or.inr ⟨by rfl, rfl⟩) ?_ ?_
       rotate_left
       · simp only [qa_, qb_, qc_, qd_, i64_w, i32_w]; rfl
       refine pure_ (i := 36) (N := some 53) (v := undef) (a' := ?_) bb2_37 rfl rfl (any_of HT_.out (by kernel_rfl)) (fun _ _ _ h => h) (Or.inr ⟨by rfl, rfl⟩) ?_ ?_
       rotate_left
       · simp only [qa_, qb_, qc_, qd_, i64_w, i32_w]; rfl
       refine pure_ (i := 37) (N := some 54) (v := undef) (a' := ?_) bb2_38 rfl rfl (any_of HT_.out (by kernel_rfl)) (fun _ _ _ h => h) (Or.inr ⟨by rfl, rfl⟩) ?_ ?_
       rotate_left
       · simp only [qa_, qb_, qc_, qd_, i64_w, i32_w]; rfl
       refine pure_ (i := 38) (N := some 55) (v := undef) (a' := ?_) bb2_39 rfl rfl (any_of HT_.out (by kernel_rfl)) (fun _ _ _ h => h) (Or.inr ⟨by rfl, rfl⟩) ?_ ?_
       rotate_left
       · simp only [qa_, qb_, qc_, qd_, i64_w, i32_w]; rfl
       refine pure_ (i := 39) (N := some 56) (v := undef) (a' := ?_) bb2_40 rfl rfl (any_of HT_.out (by kernel_rfl)) (fun _ _ _ h => h) (Or.inr ⟨by rfl, rfl⟩) ?_ ?_
       rotate_left
       · simp only [qa_, qb_, qc_, qd_, i64_w, i32_w]; rfl
       refine pure_ (i := 40) (N := some 57) (v := undef) (a' := ?_) bb2_41 rfl rfl (any_of HT_.out (by kernel_rfl)) (fun _ _ _ h => h) (Or.inr ⟨by rfl, rfl⟩) ?_ ?_
       rotate_left
       · simp only [qa_, qb_, qc_, qd_, i64_w, i32_w]; rfl
       refine pure_ (i := 41) (N := some 58) (v := undef) (a' := ?_) bb2_42 rfl rfl (any_of HT_.out (by kernel_rfl)) (fun _ _ _ h => h) (Or.inr ⟨by rfl, rfl⟩) ?_ ?_
       rotate_left
       · simp only [qa_, qb_, qc_, qd_, i64_w, i32_w]; rfl
       refine pure_ (i := 42) (N := some 59) (v := undef) (a' := ?_) bb2_43 rfl rfl (any_of HT_.out (by kernel_rfl)) (fun _ _ _ h => h) (Or.inr ⟨by rfl, rfl⟩) ?_ ?_
       rotate_left
       · simp only [qa_, qb_, qc_, qd_, i64_w, i32_w]; rfl
       refine pure_ (i := 43) (N := some 60) (v := undef) (a' := ?_) bb2_44 rfl rfl (any_of HT_.out (by kernel_rfl)) (fun _ _ _ h => h) (Or.inr ⟨by rfl, rfl⟩) ?_ ?_
       rotate_left
       · simp only [qa_, qb_, qc_, qd_, i64_w, i32_w]; rfl
       refine pure_ (i := 44) (N := some 61) (v := undef) (a' := ?_) bb2_45 rfl rfl (any_of HT_.out (by kernel_rfl)) (fun _ _ _ h => h) (Or.inr ⟨by rfl, rfl⟩) ?_ ?_
       rotate_left
       · simp only [qa_, qb_, qc_, qd_, i64_w, i32_w]; rfl
       refine pure_ (i := 45) (N := some 62) (v := undef) (a' := ?_) bb2_46 rfl rfl (any_of HT_.out (by kernel_rfl)) (fun _ _ _ h => h) (Or.inr ⟨by rfl, rfl⟩) ?_ ?_
       rotate_left
       · simp only [qa_, qb_, qc_, qd_, i64_w, i32_w]; rfl
       refine pure_ (i := 46) (N := some 63) (v := undef) (a' := ?_) bb2_47 rfl rfl (any_of HT_.out (by kernel_rfl)) (fun _ _ _ h => h) (Or.inr ⟨by rfl, rfl⟩) ?_ ?_
       rotate_left
       · simp only [qa_, qb_, qc_, qd_, i64_w, i32_w]; rfl
       refine pure_ (i := 47) (N := some 64) (v := undef) (a' := ?_) bb2_48 rfl rfl (any_of HT_.out (by kernel_rfl)) (fun _ _ _ h => h) (Or.inr ⟨by rfl, rfl⟩) ?_ ?_
       rotate_left
       · simp only [qa_, qb_, qc_, qd_, i64_w, i32_w]; rfl
       refine pure_ (i := 48) (N := some 65) (v := undef) (a' := ?_) bb2_49 rfl rfl (any_of HT_.out (by kernel_rfl)) (fun _ _ _ h => h) (Or.inr ⟨by rfl, rfl⟩) ?_ ?_
       rotate_left
       · simp only [qa_, qb_, qc_, qd_, i64_w, i32_w]; rfl
       refine pure_ (i := 49) (N := some 66) (v := undef) (a' := ?_) bb2_50 rfl rfl (any_of HT_.out (by kernel_rfl)) (fun _ _ _ h => h) (Or.inr ⟨by rfl, rfl⟩) ?_ ?_
       rotate_left
       · simp only [qa_, qb_, qc_, qd_, i64_w, i32_w]; rfl
       refine pure_ (i := 50) (N := some 67) (v := undef) (a' := ?_) bb2_51 rfl rfl (any_of HT_.out (by kernel_rfl)) (fun _ _ _ h => h) (Or.inr ⟨by rfl, rfl⟩) ?_ ?_
       rotate_left
       · simp only [qa_, qb_, qc_, qd_, i64_w, i32_w]; rfl
       refine pure_ (i := 51) (N := some 68) (v := undef) (a' := ?_) bb2_52 rfl rfl (any_of HT_.out (by kernel_rfl)) (fun _ _ _ h => h) (Or.inr ⟨by rfl, rfl⟩) ?_ ?_
       rotate_left
       · simp only [qa_, qb_, qc_, qd_, i64_w, i32_w]; rfl
       refine pure_ (i := 52) (N := some 69) (v := undef) (a' := ?_) bb2_53 rfl rfl (any_of HT_.out (by kernel_rfl)) (fun _ _ _ h => h) (Or.inr ⟨by rfl, rfl⟩) ?_ ?_
       rotate_left
       · simp only [qa_, qb_, qc_, qd_, i64_w, i32_w]; rfl
       refine pure_ (i := 53) (N := some 70) (v := undef) (a' := ?_) bb2_54 rfl rfl (any_of HT_.out (by kernel_rfl)) (fun _ _ _ h => h) (Or.inr ⟨by rfl, rfl⟩) ?_ ?_
       rotate_left
       · simp only [qa_, qb_, qc_, qd_, i64_w, i32_w]; rfl
       refine pure_ (i := 54) (N := some 71) (v := undef) (a' := ?_) bb2_55 rfl rfl (any_of HT_.out (by kernel_rfl)) (fun _ _ _ h => h) (Or.inr ⟨by rfl, rfl⟩) ?_ ?_
       rotate_left
       · simp only [qa_, qb_, qc_, qd_, i64_w, i32_w]; rfl
       refine pure_ (i := 55) (N := some 72) (v := undef) (a' := ?_) bb2_56 rfl rfl (any_of HT_.out (by kernel_rfl)) (fun _ _ _ h => h) (Or.inr ⟨by rfl, rfl⟩) ?_ ?_
       rotate_left
       · simp only [qa_, qb_, qc_, qd_, i64_w, i32_w]; rfl
       refine pure_ (i := 56) (N := some 73) (v := undef) (a' := ?_) bb2_57 rfl rfl (any_of HT_.out (by kernel_rfl)) (fun _ _ _ h => h) (Or.inr ⟨by rfl, rfl⟩) ?_ ?_
       rotate_left
       · simp only [qa_, qb_, qc_, qd_, i64_w, i32_w]; rfl
       refine pure_ (i := 57) (N := some 74) (v := undef) (a' := ?_) bb2_58 rfl rfl (any_of HT_.out (by kernel_rfl)) (fun _ _ _ h => h) (Or.inr ⟨by rfl, rfl⟩) ?_ ?_
       rotate_left
       · simp only [qa_, qb_, qc_, qd_, i64_w, i32_w]; rfl
       refine pure_ (i := 58) (N := some 75) (v := ?_) (a' := ?_) bb2_59 rfl rfl (any_of HT_.out (by kernel_rfl)) (fun _ _ _ h => h) (Or.inl ⟨by rfl, ?_⟩) ?_ ?_
       rotate_left
       · intro w'; go_simp; with_reducible rfl
       rotate_left
       · simp only [qa_, qb_, qc_, qd_, i64_w, i32_w]; rfl
       refine done_ (done_of HT_.out (by kernel_rfl)) ?_
       try go_wp2
       go_meet
       case rel => exact ⟨_, (true), (by first | rfl | (simp; done) | (simp [*]; done)), H', ⟨by have := HK1.out; first | omega | exact Nat.le_refl _⟩, ⟨by (with_reducible repeat (first | apply Kd.R_alloc | apply Kd.R_drewN | apply Kd.R_drew)); exact HO_5.out⟩, ⟨by (with_reducible repeat (first | refine blk_drewN ?_ _ | refine blk_drew ?_ | refine blk_alloc ?_ _)); exact BK331.out⟩, ⟨by repeat (first | (with_reducible first | exact HB.out | apply below_alloc | apply pw_below_drewN | apply below_drew1 | refine below_set ?_ GE331.out) | exact HB.out)⟩⟩
     ·
      rw [if_neg c9] at H
      exact absurd H (by simp)
    case rest =>
     clear HC7
     try clear c1
     try clear p2
     try clear p3
     try clear q3
     try clear hx3
     try clear c9
     try clear c11
     try clear c16
     try clear p33
     try clear q33
     try clear hx33
     try clear hx335_0
     try clear hx335_1
     try clear hx335_2
     try clear hx335_3
     try clear hx335_4
     try clear hx335_5
     try clear hx335_6
     try clear hx335_7
     try clear hx335_8
     try clear hx335_9
     try clear p335
     try clear q335
     obtain ⟨kq, x75_6, rfl, HA, HJ6, HO_5, BK331, HB⟩ := hcut
     cases kq with
     | zero => exact absurd HA.out (by simp [cleatlaw06_AluLoads.j1])
     | succ kj6 =>
      have H := HA.out
      clear HA
      simp only [cleatlaw06_AluLoads.j1] at H
      by_cases c34 : x75_6 = true
      ·
       subst c34
       have H1 : (none) = some r := by rw [if_pos rfl] at H; exact H
       clear H
       have H := H1
       clear H1
       exact absurd H (by simp)
      ·
       replace c34 := Bool.eq_false_iff.mpr c34
       subst c34
       have H1 : (cleatlaw06_AluLoads.l0 kj6 a0 t332 (wrap64 (x6_1 + 1)) a1_0 a1_1 a1_2 a1_3) = some r := by rw [if_neg (show ¬ (false = true) by decide)] at H; exact H
       clear H
       have H := H1
       clear H1
       have H' := Aside0.mk H
       clear H
       go_wp2
       go_roundg kj6
       case measure => have := HK1.out; have := HJ6.out; omega
       case rel => exact ⟨(wrap64 (x6_1 + 1)), (by first | rfl | (simp; done) | (simp [*]; done)), H', ⟨by have := HK1.out; have := HJ6.out; omega⟩, ⟨by (with_reducible repeat (first | apply Kd.R_alloc | apply Kd.R_drewN | apply Kd.R_drew)); exact HO_5.out⟩, ⟨by (with_reducible repeat (first | refine blk_drewN ?_ _ | refine blk_drew ?_ | refine blk_alloc ?_ _)); exact BK331.out⟩, ⟨by repeat (first | (with_reducible first | exact HB.out | apply below_alloc | apply pw_below_drewN | apply below_drew1 | refine below_set ?_ GE331.out) | exact HB.out)⟩⟩
   ·
    rw [if_neg c6] at H
    have c6b0 : decide (x6_1 < (t332.length : Int)) = false := decide_eq_false c6
    clear c6
    replace H := Option.bind_eq_some_iff.mp H
    obtain ⟨⟨t343, t344⟩, A350, H⟩ := H
    replace H : ((cleatlaw06_done.f k1).bind fun t345 => (if t345 = true then (if (t332.length : Int) ≥ 1 then (if (t332.length : Int) ≤ 4 then (if t344 = 0 then (some (t343 == a0)) else (none)) else (none)) else (none)) else (none))) = some r := H
    have A35 := Aside0.mk A350
    clear A350
    replace H := Option.bind_eq_some_iff.mp H
    obtain ⟨t345, A360, H⟩ := H
    replace H : (if t345 = true then (if (t332.length : Int) ≥ 1 then (if (t332.length : Int) ≤ 4 then (if t344 = 0 then (some (t343 == a0)) else (none)) else (none)) else (none)) else (none)) = some r := H
    have A36 := Aside0.mk A360
    clear A360
    by_cases c37 : t345 = true
    ·
     subst c37
     have H1 : (if (t332.length : Int) ≥ 1 then (if (t332.length : Int) ≤ 4 then (if t344 = 0 then (some (t343 == a0)) else (none)) else (none)) else (none)) = some r := by rw [if_pos rfl] at H; exact H
     clear H
     have H := H1
     clear H1
     by_cases c38 : (t332.length : Int) ≥ 1
     ·
      rw [if_pos c38] at H
      have c38b0 : decide (1 ≤ (t332.length : Int)) = true := decide_eq_true c38
      have c38b1 : decide (1 ≤ t332.length) = true := decide_eq_true (by omega)
      clear c38
      by_cases c39 : (t332.length : Int) ≤ 4
      ·
       rw [if_pos c39] at H
       have c39b0 : decide ((t332.length : Int) ≤ 4) = true := decide_eq_true c39
       have c39b1 : decide (t332.length ≤ 4) = true := decide_eq_true (by omega)
       clear c39
       by_cases c40 : t344 = 0
       ·
        rw [if_pos c40] at H
        have c40b0 : (t344 == 0) = true := beq_iff_eq.mpr c40
        have c40b1 : (t344 != 0) = false := bne_eq_false_iff_eq.mpr c40
        clear c40
        obtain rfl := Option.some.inj H
        obtain ⟨Ao41, co41, eo41⟩ := Kd.R_slice HO_5.out
        subst eo41
        have hcz42_0 : wr.cell? ⟨gb331, 0, none⟩ = some (.int .u64 a1_0) := (blk_cell BK331.out 0).trans rfl
        have hcz42_1 : wr.cell? ⟨gb331, 1, none⟩ = some (.int .u64 a1_1) := (blk_cell BK331.out 1).trans rfl
        have hcz42_2 : wr.cell? ⟨gb331, 2, none⟩ = some (.int .u64 a1_2) := (blk_cell BK331.out 2).trans rfl
        have hcz42_3 : wr.cell? ⟨gb331, 3, none⟩ = some (.int .u64 a1_3) := (blk_cell BK331.out 3).trans rfl
        have hfz42_0 := blk_frozen BK331.out 0
        have hfz42_1 := blk_frozen BK331.out 1
        have hfz42_2 := blk_frozen BK331.out 2
        have hfz42_3 := blk_frozen BK331.out 3
        go_wp2_with (first | ((with_reducible refine gate_callee (f := 17) rfl ?_); refine goesL_ (some 79) rfl rfl Tryd.func17 (by kernel_rfl) rfl #[.slice Ao41 t332.length co41, .agg #[.int .u64 a1_0, .int .u64 a1_1, .int .u64 a1_2, .int .u64 a1_3]] rfl (by (try simp only [List.map_toArray, List.map_cons, List.map_nil]); first | done | rfl | (simp only [List.length_drop, List.length_take]; rfl)) ?_; (with_reducible refine (alu_All.calls k1 _ _ t332 a1_0 a1_1 a1_2 a1_3 t343 t344 _ ?side1 ?side2 A35.out).mono ?_); (case side1 => repeat (first | exact (Kd.R_reads' HO_5.out).2.2 | (with_reducible refine Kd.C_alloc ?_ _) | (with_reducible refine Kd.C_drewN ?_ _) | (with_reducible refine Kd.C_drew ?_))); (case side2 => exact (Kd.R_reads' HO_5.out).2.1); rintro e w43 ⟨rfl, hb⟩; refine ⟨_, rfl, ?_⟩; have n0_ := Aside0.mk (Kd.R_below (by (with_reducible repeat (first | apply Kd.R_alloc | apply Kd.R_drewN | apply Kd.R_drew)); exact HO_5.out) hb); have n1_ := Aside0.mk (blk_below (g := gb331) (o := .cells #[.int .u64 a1_0, .int .u64 a1_1, .int .u64 a1_2, .int .u64 a1_3] 29 (0, 0)) (by (with_reducible repeat (first | refine blk_drewN ?_ _ | refine blk_drew ?_ | refine blk_alloc ?_ _)); exact BK331.out) hb); have n2_ := Aside0.mk (below_step (by repeat (first | (with_reducible first | exact HB.out | apply below_alloc | apply pw_below_drewN | apply below_drew1 | refine below_set ?_ GE331.out) | exact HB.out)) hb); clear HO_5; clear BK331; clear HB; have HO_5 := n0_; have BK331 := n1_; have HB := n2_; clear n0_ n1_ n2_; (try clear hb); (try clear hb2); (try clear hk); (try clear hi)) | ((with_reducible refine gate_callee (f := 7) rfl ?_); refine goesL_ (some 82) rfl rfl Tryd.func7 (by kernel_rfl) rfl #[] rfl (by (try simp only [List.map_toArray, List.map_cons, List.map_nil]); first | done | rfl | (simp only [List.length_drop, List.length_take]; rfl)) ?_; (with_reducible refine (cleatlaw06_done.calls k1  true _ A36.out).mono ?_); rintro e w44 ⟨rfl, hb⟩; refine ⟨_, rfl, ?_⟩; have n0_ := Aside0.mk (Kd.R_below (by (with_reducible repeat (first | apply Kd.R_alloc | apply Kd.R_drewN | apply Kd.R_drew)); exact HO_5.out) hb); have n1_ := Aside0.mk (blk_below (g := gb331) (o := .cells #[.int .u64 a1_0, .int .u64 a1_1, .int .u64 a1_2, .int .u64 a1_3] 29 (0, 0)) (by (with_reducible repeat (first | refine blk_drewN ?_ _ | refine blk_drew ?_ | refine blk_alloc ?_ _)); exact BK331.out) hb); have n2_ := Aside0.mk (below_step (by repeat (first | (with_reducible first | exact HB.out | apply below_alloc | apply pw_below_drewN | apply below_drew1 | refine below_set ?_ GE331.out) | exact HB.out)) hb); clear HO_5; clear BK331; clear HB; have HO_5 := n0_; have BK331 := n1_; have HB := n2_; clear n0_ n1_ n2_; (try clear hb); (try clear hb2); (try clear hk); (try clear hi)))
        go_ret
        exact ⟨by first | rfl | (simp [errW_none, errW_some] <;> rfl) | (simp [*, errW_none, errW_some] <;> rfl), by repeat (first | (with_reducible first | exact HB.out | apply below_alloc | apply pw_below_drewN | apply below_drew1 | refine below_set ?_ GE331.out) | exact HB.out)⟩
       ·
        rw [if_neg c40] at H
        exact absurd H (by simp)
      ·
       rw [if_neg c39] at H
       exact absurd H (by simp)
     ·
      rw [if_neg c38] at H
      exact absurd H (by simp)
    ·
     replace c37 := Bool.eq_false_iff.mpr c37
     subst c37
     have H1 : (none) = some r := by rw [if_neg (show ¬ (false = true) by decide)] at H; exact H
     clear H
     have H := H1
     clear H1
     exact absurd H (by simp)

end Go.Proofs.YtkmochnefidlmaaDoor.P
