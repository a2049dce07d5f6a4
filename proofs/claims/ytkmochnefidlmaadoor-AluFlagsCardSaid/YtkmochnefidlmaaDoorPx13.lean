/- Written for this claim by a program of this session (drive.py, over the print of the kit): Lean functions with the answers of Go functions, and the proofs that the Go code comes to these answers, under no condition but the readings of the arguments that each theorem names. -/
import Derived.Test.YtkmochnefidlmaaDoorPx0
import Derived.Test.YtkmochnefidlmaaDoorPx2
import Derived.Test.YtkmochnefidlmaaDoorPx5
import Derived.Test.YtkmochnefidlmaaDoorPx11
import Derived.Test.YtkmochnefidlmaaDoorPx12
namespace Go.Proofs.YtkmochnefidlmaaDoor.P
open Go.RowKit Go.Proofs.YtkmochnefidlmaaDoorW.PrintWords Go.Proofs.YtkmochnefidlmaaDoorW.PrintLast Go.Proofs.YtkmochnefidlmaaDoorW.PrintMore
attribute [local go_sem] max2_int min2_int max_two min_two max_three min_three max_four min_four   -- for this text's walks alone
set_option linter.unusedVariables false
set_option linter.unusedSimpArgs false

attribute [local go_sem high] eqA35
/-! ### cleatlaw06_AluFlags: function 4 -/
def bb1_0 : Array Bool := #[false, false, false, false, false, false, false, false, false, false, false, false, false, false, false, false, false, false, false, false, false, false, false, false, false, false, false, false, false, false, false, false, false, false, false, false, false, false, false, false, false, false]
def bb1_1 : Array Bool := #[true, false, false, false, false, false, false, false, false, false, false, false, false, false, false, false, false, false, false, false, false, false, false, false, false, false, false, false, false, false, false, false, false, false, false, false, false, false, false, false, false, false]
def bb1_2 : Array Bool := #[true, true, false, false, false, false, false, false, false, false, false, false, false, false, false, false, false, false, false, false, false, false, false, false, false, false, false, false, false, false, false, false, false, false, false, false, false, false, false, false, false, false]
def bb1_3 : Array Bool := #[true, true, true, false, false, false, false, false, false, false, false, false, false, false, false, false, false, false, false, false, false, false, false, false, false, false, false, false, false, false, false, false, false, false, false, false, false, false, false, false, false, false]
def bb1_4 : Array Bool := #[true, true, true, true, false, false, false, false, false, false, false, false, false, false, false, false, false, false, false, false, false, false, false, false, false, false, false, false, false, false, false, false, false, false, false, false, false, false, false, false, false, false]
def bb1_5 : Array Bool := #[true, true, true, true, true, false, false, false, false, false, false, false, false, false, false, false, false, false, false, false, false, false, false, false, false, false, false, false, false, false, false, false, false, false, false, false, false, false, false, false, false, false]
def bb1_6 : Array Bool := #[true, true, true, true, true, true, false, false, false, false, false, false, false, false, false, false, false, false, false, false, false, false, false, false, false, false, false, false, false, false, false, false, false, false, false, false, false, false, false, false, false, false]
def bb1_7 : Array Bool := #[true, true, true, true, true, true, true, false, false, false, false, false, false, false, false, false, false, false, false, false, false, false, false, false, false, false, false, false, false, false, false, false, false, false, false, false, false, false, false, false, false, false]
def bb1_8 : Array Bool := #[true, true, true, true, true, true, true, true, false, false, false, false, false, false, false, false, false, false, false, false, false, false, false, false, false, false, false, false, false, false, false, false, false, false, false, false, false, false, false, false, false, false]
def bb1_9 : Array Bool := #[true, true, true, true, true, true, true, true, true, false, false, false, false, false, false, false, false, false, false, false, false, false, false, false, false, false, false, false, false, false, false, false, false, false, false, false, false, false, false, false, false, false]
def bb1_10 : Array Bool := #[true, true, true, true, true, true, true, true, true, true, false, false, false, false, false, false, false, false, false, false, false, false, false, false, false, false, false, false, false, false, false, false, false, false, false, false, false, false, false, false, false, false]
def bb1_11 : Array Bool := #[true, true, true, true, true, true, true, true, true, true, true, false, false, false, false, false, false, false, false, false, false, false, false, false, false, false, false, false, false, false, false, false, false, false, false, false, false, false, false, false, false, false]
def bb1_12 : Array Bool := #[true, true, true, true, true, true, true, true, true, true, true, true, false, false, false, false, false, false, false, false, false, false, false, false, false, false, false, false, false, false, false, false, false, false, false, false, false, false, false, false, false, false]
def bb1_13 : Array Bool := #[true, true, true, true, true, true, true, true, true, true, true, true, true, false, false, false, false, false, false, false, false, false, false, false, false, false, false, false, false, false, false, false, false, false, false, false, false, false, false, false, false, false]
def bb1_14 : Array Bool := #[true, true, true, true, true, true, true, true, true, true, true, true, true, true, false, false, false, false, false, false, false, false, false, false, false, false, false, false, false, false, false, false, false, false, false, false, false, false, false, false, false, false]
def bb1_15 : Array Bool := #[true, true, true, true, true, true, true, true, true, true, true, true, true, true, true, false, false, false, false, false, false, false, false, false, false, false, false, false, false, false, false, false, false, false, false, false, false, false, false, false, false, false]
def bb1_16 : Array Bool := #[true, true, true, true, true, true, true, true, true, true, true, true, true, true, true, true, false, false, false, false, false, false, false, false, false, false, false, false, false, false, false, false, false, false, false, false, false, false, false, false, false, false]
def bb1_17 : Array Bool := #[true, true, true, true, true, true, true, true, true, true, true, true, true, true, true, true, true, false, false, false, false, false, false, false, false, false, false, false, false, false, false, false, false, false, false, false, false, false, false, false, false, false]
def bb1_18 : Array Bool := #[true, true, true, true, true, true, true, true, true, true, true, true, true, true, true, true, true, false, true, false, false, false, false, false, false, false, false, false, false, false, false, false, false, false, false, false, false, false, false, false, false, false]
def bb1_19 : Array Bool := #[true, true, true, true, true, true, true, true, true, true, true, true, true, true, true, true, true, true, true, false, false, false, false, false, false, false, false, false, false, false, false, false, false, false, false, false, false, false, false, false, false, false]
def bb1_20 : Array Bool := #[true, true, true, true, true, true, true, true, true, true, true, true, true, true, true, true, true, true, true, true, false, false, false, false, false, false, false, false, false, false, false, false, false, false, false, false, false, false, false, false, false, false]
def bb1_21 : Array Bool := #[true, true, true, true, true, true, true, true, true, true, true, true, true, true, true, true, true, true, true, true, true, false, false, false, false, false, false, false, false, false, false, false, false, false, false, false, false, false, false, false, false, false]
def bb1_22 : Array Bool := #[true, true, true, true, true, true, true, true, true, true, true, true, true, true, true, true, true, true, true, true, true, true, false, false, false, false, false, false, false, false, false, false, false, false, false, false, false, false, false, false, false, false]
def bb1_23 : Array Bool := #[true, true, true, true, true, true, true, true, true, true, true, true, true, true, true, true, true, true, true, true, true, true, true, false, false, false, false, false, false, false, false, false, false, false, false, false, false, false, false, false, false, false]
def bb1_24 : Array Bool := #[true, true, true, true, true, true, true, true, true, true, true, true, true, true, true, true, true, true, true, true, true, true, true, true, false, false, false, false, false, false, false, false, false, false, false, false, false, false, false, false, false, false]
def bb1_25 : Array Bool := #[true, true, true, true, true, true, true, true, true, true, true, true, true, true, true, true, true, true, true, true, true, true, true, true, true, false, false, false, false, false, false, false, false, false, false, false, false, false, false, false, false, false]
def bb1_26 : Array Bool := #[true, true, true, true, true, true, true, true, true, true, true, true, true, true, true, true, true, true, true, true, true, true, true, true, true, false, true, false, false, false, false, false, false, false, false, false, false, false, false, false, false, false]
def bb1_27 : Array Bool := #[true, true, true, true, true, true, true, true, true, true, true, true, true, true, true, true, true, true, true, true, true, true, true, true, true, true, true, false, false, false, false, false, false, false, false, false, false, false, false, false, false, false]
def bb1_28 : Array Bool := #[true, true, true, true, true, true, true, true, true, true, true, true, true, true, true, true, true, true, true, true, true, true, true, true, true, true, true, true, false, false, false, false, false, false, false, false, false, false, false, false, false, false]
def bb1_29 : Array Bool := #[true, true, true, true, true, true, true, true, true, true, true, true, true, true, true, true, true, true, true, true, true, true, true, true, true, true, true, true, true, false, false, false, false, false, false, false, false, false, false, false, false, false]
def bb1_30 : Array Bool := #[true, true, true, true, true, true, true, true, true, true, true, true, true, true, true, true, true, true, true, true, true, true, true, true, true, true, true, true, true, true, false, false, false, false, false, false, false, false, false, false, false, false]
def bb1_31 : Array Bool := #[true, true, true, true, true, true, true, true, true, true, true, true, true, true, true, true, true, true, true, true, true, true, true, true, true, true, true, true, true, true, true, false, false, false, false, false, false, false, false, false, false, false]
def bb1_32 : Array Bool := #[true, true, true, true, true, true, true, true, true, true, true, true, true, true, true, true, true, true, true, true, true, true, true, true, true, true, true, true, true, true, true, true, false, false, false, false, false, false, false, false, false, false]
def bb1_33 : Array Bool := #[true, true, true, true, true, true, true, true, true, true, true, true, true, true, true, true, true, true, true, true, true, true, true, true, true, true, true, true, true, true, true, true, true, false, false, false, false, false, false, false, false, false]
def bb1_34 : Array Bool := #[true, true, true, true, true, true, true, true, true, true, true, true, true, true, true, true, true, true, true, true, true, true, true, true, true, true, true, true, true, true, true, true, true, true, false, false, false, false, false, false, false, false]
def bb1_35 : Array Bool := #[true, true, true, true, true, true, true, true, true, true, true, true, true, true, true, true, true, true, true, true, true, true, true, true, true, true, true, true, true, true, true, true, true, true, true, false, false, false, false, false, false, false]
def bb1_36 : Array Bool := #[true, true, true, true, true, true, true, true, true, true, true, true, true, true, true, true, true, true, true, true, true, true, true, true, true, true, true, true, true, true, true, true, true, true, true, true, true, false, false, false, false, false]
def bb1_37 : Array Bool := #[true, true, true, true, true, true, true, true, true, true, true, true, true, true, true, true, true, true, true, true, true, true, true, true, true, true, true, true, true, true, true, true, true, true, true, true, true, true, false, false, false, false]
def bb1_38 : Array Bool := #[true, true, true, true, true, true, true, true, true, true, true, true, true, true, true, true, true, true, true, true, true, true, true, true, true, true, true, true, true, true, true, true, true, true, true, true, true, true, true, false, false, false]
def bb1_39 : Array Bool := #[true, true, true, true, true, true, true, true, true, true, true, true, true, true, true, true, true, true, true, true, true, true, true, true, true, true, true, true, true, true, true, true, true, true, true, true, true, true, true, true, false, false]
def bb1_40 : Array Bool := #[true, true, true, true, true, true, true, true, true, true, true, true, true, true, true, true, true, true, true, true, true, true, true, true, true, true, true, true, true, true, true, true, true, true, true, true, true, true, true, true, true, false]
def bb1_41 : Array Bool := #[true, true, true, true, true, true, true, true, true, true, true, true, true, true, true, true, true, true, true, true, true, true, true, true, true, true, true, true, true, true, true, true, true, true, true, true, true, true, true, true, true, true]
mutual
def cleatlaw06_AluFlags.j2 : Nat → Int → Int → Int → Int → Int → Int → Int → Int → Int → Int → Int → Int → Int → Int → Int → Bool → Bool → Bool → Bool → Bool → Bool → Bool → Bool → Int → Int → Int → Int → Int → Int → Int → Int → Int → Int → Option (Bool)
 | 0, _, _, _, _, _, _, _, _, _, _, _, _, _, _, _, _, _, _, _, _, _, _, _, _, _, _, _, _, _, _, _, _, _ => none
 | k + 1, x7, x272000, x272001, x272002, x272003, x272004, x272005, x272006, x272007, x272008, x272009, x273000, x273001, x273002, x273003, x274000, x274001, x274002, x274003, x281000, x281001, x281002, x281003, x284000, x284001, x284002, x284003, x284004, x284005, x284006, x284007, x284008, x284009 => (alu_Do.f k x284000 x284001 x284002 x284003 x284004 x284005 x284006 x284007 x284008 x284009 x273000 x273001 x273002 x273003 x274000 x274001 x274002 x274003).bind fun bt285 => (if x272000 = 11 then (cleatlaw06_AluFlags.j3 k x7 bt285.1 bt285.2.2.2.2.2 true x274000 x274001 x274002 x274003 x281000 x281001 x281002 x281003 bt285.2.1 bt285.2.2.1 bt285.2.2.2.1 bt285.2.2.2.2.1) else (cleatlaw06_AluFlags.j3 k x7 bt285.1 bt285.2.2.2.2.2 (x272000 == 19) x274000 x274001 x274002 x274003 x281000 x281001 x281002 x281003 bt285.2.1 bt285.2.2.1 bt285.2.2.2.1 bt285.2.2.2.2.1))
def cleatlaw06_AluFlags.j3 : Nat → Int → Int → Int → Bool → Bool → Bool → Bool → Bool → Bool → Bool → Bool → Bool → Bool → Bool → Bool → Bool → Option (Bool)
 | 0, _, _, _, _, _, _, _, _, _, _, _, _, _, _, _, _ => none
 | k + 1, x7, x11, x13, x14, x274000, x274001, x274002, x274003, x281000, x281001, x281002, x281003, x292000, x292001, x292002, x292003 => (cleatlaw06_done.f k).bind fun t292 => (if t292 = true then (if x13 = 0 then (if x7 = x11 then (if (x292000 == x274000 && (x292001 == x274001 && (x292002 == x274002 && (x292003 == x274003)))) = true then ((flag_Of.f x7).bind fun bt293 => (if (x281000 == bt293.1) = true then ((flag_Of.f x7).bind fun bt297 => (if (x281001 == bt297.2.1) = true then (if x14 = true then ((flag_Of.f x7).bind fun bt301 => (some (x281000 == bt301.1 && (x281001 == bt301.2.1 && (x281002 == bt301.2.2.1 && (x281003 == bt301.2.2.2)))))) else (some true)) else (none))) else (none))) else (none)) else (none)) else (none)) else (none))
def cleatlaw06_AluFlags.j0 : Nat → Int → Int → Bool → Int → Int → Int → Int → Int → Int → Int → Int → Int → Int → Int → Int → Int → Int → Bool → Bool → Bool → Bool → Bool → Bool → Bool → Bool → Int → Int → Int → Int → Int → Int → Int → Int → Int → Int → Option (Bool)
 | 0, _, _, _, _, _, _, _, _, _, _, _, _, _, _, _, _, _, _, _, _, _, _, _, _, _, _, _, _, _, _, _, _, _, _, _ => none
 | k + 1, x7, x42, x49, x272000, x272001, x272002, x272003, x272004, x272005, x272006, x272007, x272008, x272009, x273000, x273001, x273002, x273003, x274000, x274001, x274002, x274003, x281000, x281001, x281002, x281003, x284000, x284001, x284002, x284003, x284004, x284005, x284006, x284007, x284008, x284009 => if x49 = true then (cleatlaw06_AluFlags.j2 k x7 x272000 x272001 x272002 x272003 x272004 x272005 x272006 x272007 x272008 x272009 x273000 x273001 x273002 x273003 x274000 x274001 x274002 x274003 x281000 x281001 x281002 x281003 (wrap64 (x272000 - 2)) x284001 x284002 x284003 x284004 x284005 x284006 x284007 x284008 x284009) else (if x42 = 11 then (cleatlaw06_AluFlags.j2 k x7 x272000 x272001 x272002 x272003 x272004 x272005 x272006 x272007 x272008 x272009 x273000 x273001 x273002 x273003 x274000 x274001 x274002 x274003 x281000 x281001 x281002 x281003 8 x284001 x284002 x284003 x284004 x284005 x284006 x284007 x284008 x284009) else (if x42 = 14 then (cleatlaw06_AluFlags.j1 k x7 x42 (x42 == 14) x272000 x272001 x272002 x272003 x272004 x272005 x272006 x272007 x272008 x272009 x273000 x273001 x273002 x273003 x274000 x274001 x274002 x274003 x281000 x281001 x281002 x281003 x284000 x284001 x284002 x284003 x284004 x284005 x284006 x284007 x284008 x284009) else (cleatlaw06_AluFlags.j1 k x7 x42 (x42 == 15) x272000 x272001 x272002 x272003 x272004 x272005 x272006 x272007 x272008 x272009 x273000 x273001 x273002 x273003 x274000 x274001 x274002 x274003 x281000 x281001 x281002 x281003 x284000 x284001 x284002 x284003 x284004 x284005 x284006 x284007 x284008 x284009)))
def cleatlaw06_AluFlags.j1 : Nat → Int → Int → Bool → Int → Int → Int → Int → Int → Int → Int → Int → Int → Int → Int → Int → Int → Int → Bool → Bool → Bool → Bool → Bool → Bool → Bool → Bool → Int → Int → Int → Int → Int → Int → Int → Int → Int → Int → Option (Bool)
 | 0, _, _, _, _, _, _, _, _, _, _, _, _, _, _, _, _, _, _, _, _, _, _, _, _, _, _, _, _, _, _, _, _, _, _, _ => none
 | k + 1, x7, x42, x59, x272000, x272001, x272002, x272003, x272004, x272005, x272006, x272007, x272008, x272009, x273000, x273001, x273002, x273003, x274000, x274001, x274002, x274003, x281000, x281001, x281002, x281003, x284000, x284001, x284002, x284003, x284004, x284005, x284006, x284007, x284008, x284009 => if x59 = true then (cleatlaw06_AluFlags.j2 k x7 x272000 x272001 x272002 x272003 x272004 x272005 x272006 x272007 x272008 x272009 x273000 x273001 x273002 x273003 x274000 x274001 x274002 x274003 x281000 x281001 x281002 x281003 (wrap64 (x272000 - 2)) x284001 x284002 x284003 x284004 x284005 x284006 x284007 x284008 x284009) else (if x42 = 19 then (cleatlaw06_AluFlags.j2 k x7 x272000 x272001 x272002 x272003 x272004 x272005 x272006 x272007 x272008 x272009 x273000 x273001 x273002 x273003 x274000 x274001 x274002 x274003 x281000 x281001 x281002 x281003 16 x284001 x284002 x284003 x284004 x284005 x284006 x284007 x284008 x284009) else ((cleatlaw06_done.f k).bind fun t284 => (if t284 = true then (some (x281000 == x274000 && (x281001 == x274001 && (x281002 == x274002 && (x281003 == x274003))))) else (none))))
end
def cleatlaw06_AluFlags.f (k : Nat) (a0_0 : Int) (a0_1 : Int) (a0_2 : Int) (a0_3 : Int) (a0_4 : Int) (a0_5 : Int) (a0_6 : Int) (a0_7 : Int) (a0_8 : Int) (a0_9 : Int) (a1_0 : Int) (a1_1 : Int) (a1_2 : Int) (a1_3 : Int) (a2_0 : Bool) (a2_1 : Bool) (a2_2 : Bool) (a2_3 : Bool) : Option (Bool) := (alu_Do.f k a0_0 a0_1 a0_2 a0_3 a0_4 a0_5 a0_6 a0_7 a0_8 a0_9 a1_0 a1_1 a1_2 a1_3 a2_0 a2_1 a2_2 a2_3).bind fun bt274 => (if bt274.2.2.2.2.2 = 0 then (if a0_0 = 6 then (cleatlaw06_AluFlags.j0 k bt274.1 a0_0 (a0_0 == 6) a0_0 a0_1 a0_2 a0_3 a0_4 a0_5 a0_6 a0_7 a0_8 a0_9 a1_0 a1_1 a1_2 a1_3 a2_0 a2_1 a2_2 a2_3 bt274.2.1 bt274.2.2.1 bt274.2.2.2.1 bt274.2.2.2.2.1 a0_0 a0_1 a0_2 a0_3 a0_4 a0_5 a0_6 a0_7 a0_8 a0_9) else (cleatlaw06_AluFlags.j0 k bt274.1 a0_0 (a0_0 == 7) a0_0 a0_1 a0_2 a0_3 a0_4 a0_5 a0_6 a0_7 a0_8 a0_9 a1_0 a1_1 a1_2 a1_3 a2_0 a2_1 a2_2 a2_3 bt274.2.1 bt274.2.2.1 bt274.2.2.2.1 bt274.2.2.2.2.1 a0_0 a0_1 a0_2 a0_3 a0_4 a0_5 a0_6 a0_7 a0_8 a0_9)) else ((cleatlaw06_done.f k).bind fun t281 => (if t281 = true then ((alu_Is.f k a0_0 a0_1 a0_2 a0_3 a0_4 a0_5 a0_6 a0_7 a0_8 a0_9).bind fun t282 => (if t282 = true then (none) else (if bt274.1 = 0 then (some (!bt274.2.1 && (!bt274.2.2.1 && (!bt274.2.2.2.1 && (!bt274.2.2.2.2.1))))) else (none)))) else (none))))
theorem cleatlaw06_AluFlags.mono_l : ∀ k, (∀ y0 y1 y2 y3 y4 y5 y6 y7 y8 y9 y10 y11 y12 y13 y14 y15 y16 y17 y18 y19 y20 y21 y22 y23 y24 y25 y26 y27 y28 y29 y30 y31 y32, LeO (cleatlaw06_AluFlags.j2 k y0 y1 y2 y3 y4 y5 y6 y7 y8 y9 y10 y11 y12 y13 y14 y15 y16 y17 y18 y19 y20 y21 y22 y23 y24 y25 y26 y27 y28 y29 y30 y31 y32) (cleatlaw06_AluFlags.j2 (k + 1) y0 y1 y2 y3 y4 y5 y6 y7 y8 y9 y10 y11 y12 y13 y14 y15 y16 y17 y18 y19 y20 y21 y22 y23 y24 y25 y26 y27 y28 y29 y30 y31 y32)) ∧ (∀ y0 y1 y2 y3 y4 y5 y6 y7 y8 y9 y10 y11 y12 y13 y14 y15, LeO (cleatlaw06_AluFlags.j3 k y0 y1 y2 y3 y4 y5 y6 y7 y8 y9 y10 y11 y12 y13 y14 y15) (cleatlaw06_AluFlags.j3 (k + 1) y0 y1 y2 y3 y4 y5 y6 y7 y8 y9 y10 y11 y12 y13 y14 y15)) ∧ (∀ y0 y1 y2 y3 y4 y5 y6 y7 y8 y9 y10 y11 y12 y13 y14 y15 y16 y17 y18 y19 y20 y21 y22 y23 y24 y25 y26 y27 y28 y29 y30 y31 y32 y33 y34, LeO (cleatlaw06_AluFlags.j0 k y0 y1 y2 y3 y4 y5 y6 y7 y8 y9 y10 y11 y12 y13 y14 y15 y16 y17 y18 y19 y20 y21 y22 y23 y24 y25 y26 y27 y28 y29 y30 y31 y32 y33 y34) (cleatlaw06_AluFlags.j0 (k + 1) y0 y1 y2 y3 y4 y5 y6 y7 y8 y9 y10 y11 y12 y13 y14 y15 y16 y17 y18 y19 y20 y21 y22 y23 y24 y25 y26 y27 y28 y29 y30 y31 y32 y33 y34)) ∧ (∀ y0 y1 y2 y3 y4 y5 y6 y7 y8 y9 y10 y11 y12 y13 y14 y15 y16 y17 y18 y19 y20 y21 y22 y23 y24 y25 y26 y27 y28 y29 y30 y31 y32 y33 y34, LeO (cleatlaw06_AluFlags.j1 k y0 y1 y2 y3 y4 y5 y6 y7 y8 y9 y10 y11 y12 y13 y14 y15 y16 y17 y18 y19 y20 y21 y22 y23 y24 y25 y26 y27 y28 y29 y30 y31 y32 y33 y34) (cleatlaw06_AluFlags.j1 (k + 1) y0 y1 y2 y3 y4 y5 y6 y7 y8 y9 y10 y11 y12 y13 y14 y15 y16 y17 y18 y19 y20 y21 y22 y23 y24 y25 y26 y27 y28 y29 y30 y31 y32 y33 y34))
 | 0 => ⟨fun _ _ _ _ _ _ _ _ _ _ _ _ _ _ _ _ _ _ _ _ _ _ _ _ _ _ _ _ _ _ _ _ _ r h => by simp [cleatlaw06_AluFlags.j2] at h, fun _ _ _ _ _ _ _ _ _ _ _ _ _ _ _ _ r h => by simp [cleatlaw06_AluFlags.j3] at h, fun _ _ _ _ _ _ _ _ _ _ _ _ _ _ _ _ _ _ _ _ _ _ _ _ _ _ _ _ _ _ _ _ _ _ _ r h => by simp [cleatlaw06_AluFlags.j0] at h, fun _ _ _ _ _ _ _ _ _ _ _ _ _ _ _ _ _ _ _ _ _ _ _ _ _ _ _ _ _ _ _ _ _ _ _ r h => by simp [cleatlaw06_AluFlags.j1] at h⟩
 | k + 1 => by
  obtain ⟨ih0, ih1, ih2, ih3⟩ := cleatlaw06_AluFlags.mono_l k
  refine ⟨?_, ?_, ?_, ?_⟩
  ·
   intro y0 y1 y2 y3 y4 y5 y6 y7 y8 y9 y10 y11 y12 y13 y14 y15 y16 y17 y18 y19 y20 y21 y22 y23 y24 y25 y26 y27 y28 y29 y30 y31 y32
   unfold cleatlaw06_AluFlags.j2
   repeat' first
   | (with_reducible exact ih0 _ _ _ _ _ _ _ _ _ _ _ _ _ _ _ _ _ _ _ _ _ _ _ _ _ _ _ _ _ _ _ _ _)
   | (with_reducible exact ih1 _ _ _ _ _ _ _ _ _ _ _ _ _ _ _ _)
   | (with_reducible exact ih2 _ _ _ _ _ _ _ _ _ _ _ _ _ _ _ _ _ _ _ _ _ _ _ _ _ _ _ _ _ _ _ _ _ _ _)
   | (with_reducible exact ih3 _ _ _ _ _ _ _ _ _ _ _ _ _ _ _ _ _ _ _ _ _ _ _ _ _ _ _ _ _ _ _ _ _ _ _)
   | (with_reducible exact alu_Do.mono _ _ _ _ _ _ _ _ _ _ _ _ _ _ _ _ _ _ _)
   | (with_reducible exact alu_Is.mono _ _ _ _ _ _ _ _ _ _ _)
   | (with_reducible exact cleatlaw06_done.mono _)
   | (with_reducible exact LeO.refl _)
   | (with_reducible exact LeO.none _)
   | (with_reducible refine LeO.ite ?_ ?_)
   | (with_reducible refine LeO.bind ?_ (fun _ => ?_))
   | exact ih0 _ _ _ _ _ _ _ _ _ _ _ _ _ _ _ _ _ _ _ _ _ _ _ _ _ _ _ _ _ _ _ _ _
   | exact ih1 _ _ _ _ _ _ _ _ _ _ _ _ _ _ _ _
   | exact ih2 _ _ _ _ _ _ _ _ _ _ _ _ _ _ _ _ _ _ _ _ _ _ _ _ _ _ _ _ _ _ _ _ _ _ _
   | exact ih3 _ _ _ _ _ _ _ _ _ _ _ _ _ _ _ _ _ _ _ _ _ _ _ _ _ _ _ _ _ _ _ _ _ _ _
   | exact alu_Do.mono _ _ _ _ _ _ _ _ _ _ _ _ _ _ _ _ _ _ _
   | exact alu_Is.mono _ _ _ _ _ _ _ _ _ _ _
   | exact cleatlaw06_done.mono _
   | exact LeO.none _
   | refine LeO.ite ?_ ?_
   | refine LeO.bind ?_ (fun _ => ?_)
  ·
   intro y0 y1 y2 y3 y4 y5 y6 y7 y8 y9 y10 y11 y12 y13 y14 y15
   unfold cleatlaw06_AluFlags.j3
   repeat' first
   | (with_reducible exact ih0 _ _ _ _ _ _ _ _ _ _ _ _ _ _ _ _ _ _ _ _ _ _ _ _ _ _ _ _ _ _ _ _ _)
   | (with_reducible exact ih1 _ _ _ _ _ _ _ _ _ _ _ _ _ _ _ _)
   | (with_reducible exact ih2 _ _ _ _ _ _ _ _ _ _ _ _ _ _ _ _ _ _ _ _ _ _ _ _ _ _ _ _ _ _ _ _ _ _ _)
   | (with_reducible exact ih3 _ _ _ _ _ _ _ _ _ _ _ _ _ _ _ _ _ _ _ _ _ _ _ _ _ _ _ _ _ _ _ _ _ _ _)
   | (with_reducible exact alu_Do.mono _ _ _ _ _ _ _ _ _ _ _ _ _ _ _ _ _ _ _)
   | (with_reducible exact alu_Is.mono _ _ _ _ _ _ _ _ _ _ _)
   | (with_reducible exact cleatlaw06_done.mono _)
   | (with_reducible exact LeO.refl _)
   | (with_reducible exact LeO.none _)
   | (with_reducible refine LeO.ite ?_ ?_)
   | (with_reducible refine LeO.bind ?_ (fun _ => ?_))
   | exact ih0 _ _ _ _ _ _ _ _ _ _ _ _ _ _ _ _ _ _ _ _ _ _ _ _ _ _ _ _ _ _ _ _ _
   | exact ih1 _ _ _ _ _ _ _ _ _ _ _ _ _ _ _ _
   | exact ih2 _ _ _ _ _ _ _ _ _ _ _ _ _ _ _ _ _ _ _ _ _ _ _ _ _ _ _ _ _ _ _ _ _ _ _
   | exact ih3 _ _ _ _ _ _ _ _ _ _ _ _ _ _ _ _ _ _ _ _ _ _ _ _ _ _ _ _ _ _ _ _ _ _ _
   | exact alu_Do.mono _ _ _ _ _ _ _ _ _ _ _ _ _ _ _ _ _ _ _
   | exact alu_Is.mono _ _ _ _ _ _ _ _ _ _ _
   | exact cleatlaw06_done.mono _
   | exact LeO.none _
   | refine LeO.ite ?_ ?_
   | refine LeO.bind ?_ (fun _ => ?_)
  ·
   intro y0 y1 y2 y3 y4 y5 y6 y7 y8 y9 y10 y11 y12 y13 y14 y15 y16 y17 y18 y19 y20 y21 y22 y23 y24 y25 y26 y27 y28 y29 y30 y31 y32 y33 y34
   unfold cleatlaw06_AluFlags.j0
   repeat' first
   | (with_reducible exact ih0 _ _ _ _ _ _ _ _ _ _ _ _ _ _ _ _ _ _ _ _ _ _ _ _ _ _ _ _ _ _ _ _ _)
   | (with_reducible exact ih1 _ _ _ _ _ _ _ _ _ _ _ _ _ _ _ _)
   | (with_reducible exact ih2 _ _ _ _ _ _ _ _ _ _ _ _ _ _ _ _ _ _ _ _ _ _ _ _ _ _ _ _ _ _ _ _ _ _ _)
   | (with_reducible exact ih3 _ _ _ _ _ _ _ _ _ _ _ _ _ _ _ _ _ _ _ _ _ _ _ _ _ _ _ _ _ _ _ _ _ _ _)
   | (with_reducible exact alu_Do.mono _ _ _ _ _ _ _ _ _ _ _ _ _ _ _ _ _ _ _)
   | (with_reducible exact alu_Is.mono _ _ _ _ _ _ _ _ _ _ _)
   | (with_reducible exact cleatlaw06_done.mono _)
   | (with_reducible exact LeO.refl _)
   | (with_reducible exact LeO.none _)
   | (with_reducible refine LeO.ite ?_ ?_)
   | (with_reducible refine LeO.bind ?_ (fun _ => ?_))
   | exact ih0 _ _ _ _ _ _ _ _ _ _ _ _ _ _ _ _ _ _ _ _ _ _ _ _ _ _ _ _ _ _ _ _ _
   | exact ih1 _ _ _ _ _ _ _ _ _ _ _ _ _ _ _ _
   | exact ih2 _ _ _ _ _ _ _ _ _ _ _ _ _ _ _ _ _ _ _ _ _ _ _ _ _ _ _ _ _ _ _ _ _ _ _
   | exact ih3 _ _ _ _ _ _ _ _ _ _ _ _ _ _ _ _ _ _ _ _ _ _ _ _ _ _ _ _ _ _ _ _ _ _ _
   | exact alu_Do.mono _ _ _ _ _ _ _ _ _ _ _ _ _ _ _ _ _ _ _
   | exact alu_Is.mono _ _ _ _ _ _ _ _ _ _ _
   | exact cleatlaw06_done.mono _
   | exact LeO.none _
   | refine LeO.ite ?_ ?_
   | refine LeO.bind ?_ (fun _ => ?_)
  ·
   intro y0 y1 y2 y3 y4 y5 y6 y7 y8 y9 y10 y11 y12 y13 y14 y15 y16 y17 y18 y19 y20 y21 y22 y23 y24 y25 y26 y27 y28 y29 y30 y31 y32 y33 y34
   unfold cleatlaw06_AluFlags.j1
   repeat' first
   | (with_reducible exact ih0 _ _ _ _ _ _ _ _ _ _ _ _ _ _ _ _ _ _ _ _ _ _ _ _ _ _ _ _ _ _ _ _ _)
   | (with_reducible exact ih1 _ _ _ _ _ _ _ _ _ _ _ _ _ _ _ _)
   | (with_reducible exact ih2 _ _ _ _ _ _ _ _ _ _ _ _ _ _ _ _ _ _ _ _ _ _ _ _ _ _ _ _ _ _ _ _ _ _ _)
   | (with_reducible exact ih3 _ _ _ _ _ _ _ _ _ _ _ _ _ _ _ _ _ _ _ _ _ _ _ _ _ _ _ _ _ _ _ _ _ _ _)
   | (with_reducible exact alu_Do.mono _ _ _ _ _ _ _ _ _ _ _ _ _ _ _ _ _ _ _)
   | (with_reducible exact alu_Is.mono _ _ _ _ _ _ _ _ _ _ _)
   | (with_reducible exact cleatlaw06_done.mono _)
   | (with_reducible exact LeO.refl _)
   | (with_reducible exact LeO.none _)
   | (with_reducible refine LeO.ite ?_ ?_)
   | (with_reducible refine LeO.bind ?_ (fun _ => ?_))
   | exact ih0 _ _ _ _ _ _ _ _ _ _ _ _ _ _ _ _ _ _ _ _ _ _ _ _ _ _ _ _ _ _ _ _ _
   | exact ih1 _ _ _ _ _ _ _ _ _ _ _ _ _ _ _ _
   | exact ih2 _ _ _ _ _ _ _ _ _ _ _ _ _ _ _ _ _ _ _ _ _ _ _ _ _ _ _ _ _ _ _ _ _ _ _
   | exact ih3 _ _ _ _ _ _ _ _ _ _ _ _ _ _ _ _ _ _ _ _ _ _ _ _ _ _ _ _ _ _ _ _ _ _ _
   | exact alu_Do.mono _ _ _ _ _ _ _ _ _ _ _ _ _ _ _ _ _ _ _
   | exact alu_Is.mono _ _ _ _ _ _ _ _ _ _ _
   | exact cleatlaw06_done.mono _
   | exact LeO.none _
   | refine LeO.ite ?_ ?_
   | refine LeO.bind ?_ (fun _ => ?_)
theorem cleatlaw06_AluFlags.mono : ∀ a0 a1 a2 a3 a4 a5 a6 a7 a8 a9 a10 a11 a12 a13 a14 a15 a16 a17 k, LeO (cleatlaw06_AluFlags.f k a0 a1 a2 a3 a4 a5 a6 a7 a8 a9 a10 a11 a12 a13 a14 a15 a16 a17) (cleatlaw06_AluFlags.f (k + 1) a0 a1 a2 a3 a4 a5 a6 a7 a8 a9 a10 a11 a12 a13 a14 a15 a16 a17) := by
 intro a0 a1 a2 a3 a4 a5 a6 a7 a8 a9 a10 a11 a12 a13 a14 a15 a16 a17 k
 obtain ⟨ih0, ih1, ih2, ih3⟩ := cleatlaw06_AluFlags.mono_l k
 unfold cleatlaw06_AluFlags.f
 repeat' first
   | (with_reducible exact ih0 _ _ _ _ _ _ _ _ _ _ _ _ _ _ _ _ _ _ _ _ _ _ _ _ _ _ _ _ _ _ _ _ _)
   | (with_reducible exact ih1 _ _ _ _ _ _ _ _ _ _ _ _ _ _ _ _)
   | (with_reducible exact ih2 _ _ _ _ _ _ _ _ _ _ _ _ _ _ _ _ _ _ _ _ _ _ _ _ _ _ _ _ _ _ _ _ _ _ _)
   | (with_reducible exact ih3 _ _ _ _ _ _ _ _ _ _ _ _ _ _ _ _ _ _ _ _ _ _ _ _ _ _ _ _ _ _ _ _ _ _ _)
   | (with_reducible exact alu_Do.mono _ _ _ _ _ _ _ _ _ _ _ _ _ _ _ _ _ _ _)
   | (with_reducible exact alu_Is.mono _ _ _ _ _ _ _ _ _ _ _)
   | (with_reducible exact cleatlaw06_done.mono _)
   | (with_reducible exact LeO.refl _)
   | (with_reducible exact LeO.none _)
   | (with_reducible refine LeO.ite ?_ ?_)
   | (with_reducible refine LeO.bind ?_ (fun _ => ?_))
   | exact ih0 _ _ _ _ _ _ _ _ _ _ _ _ _ _ _ _ _ _ _ _ _ _ _ _ _ _ _ _ _ _ _ _ _
   | exact ih1 _ _ _ _ _ _ _ _ _ _ _ _ _ _ _ _
   | exact ih2 _ _ _ _ _ _ _ _ _ _ _ _ _ _ _ _ _ _ _ _ _ _ _ _ _ _ _ _ _ _ _ _ _ _ _
   | exact ih3 _ _ _ _ _ _ _ _ _ _ _ _ _ _ _ _ _ _ _ _ _ _ _ _ _ _ _ _ _ _ _ _ _ _ _
   | exact alu_Do.mono _ _ _ _ _ _ _ _ _ _ _ _ _ _ _ _ _ _ _
   | exact alu_Is.mono _ _ _ _ _ _ _ _ _ _ _
   | exact cleatlaw06_done.mono _
   | exact LeO.none _
   | refine LeO.ite ?_ ?_
   | refine LeO.bind ?_ (fun _ => ?_)
def cleatlaw06_AluFlags.T19 : Bool × List (List Nat × List Nat) := (true, [([], []), ([0, 0], [0]), ([1], [1]), ([2, 1], [1, 2]), ([1, 3], [1, 3]), ([4, 1], [4]), ([5], [5]), ([5], [5]), ([6, 7, 5], [5, 6, 7]), ([5, 8], [5, 8]), ([9, 5], [9]), ([10], [10]), ([10], [10]), ([11, 12, 10], [10, 11, 12]), ([10, 13], [10, 13]), ([14, 10], [14]), ([15], [15]), ([16, 15], [15, 16]), ([15], [15]), ([18, 15, 15], [15, 18]), ([19, 15], [15, 19]), ([17, 20, 15], [15, 17, 20]), ([15, 21], [15, 21]), ([22, 19], [22]), ([23], [23]), ([24, 23], [23, 24]), ([23], [23]), ([26, 23, 23], [23, 26]), ([27, 23], [23, 27]), ([25, 28, 23], [23, 25, 28]), ([23, 29], [23, 29]), ([30, 27], [30]), ([31], [31]), ([32, 31], [31, 32]), ([33, 31, 31], [31, 33]), ([34], [34]), ([34], [34]), ([36, 34, 34], [34, 36]), ([35, 37, 34], [34, 35, 37]), ([34, 38, 31], [31, 34, 38]), ([31, 39], [31, 39]), ([40, 37, 0, 1, 2, 3, 4, 5, 6, 7, 8, 9, 10, 11, 12, 13, 14, 15, 16, 17, 18, 19, 20, 21, 22, 23, 24, 25, 26, 27, 28, 29, 30, 31, 32, 33, 34, 35, 36, 37, 38, 39, 40], [40])])
def cleatlaw06_AluFlags.B19 : List Nat := [0, 1, 3, 7, 15, 31, 63, 63, 255, 511, 1023, 2047, 2047, 8191, 16383, 32767, 65535, 131071, 65535, 327679, 851967, 2097151, 4194303, 8388607, 16777215, 33554431, 16777215, 83886079, 218103807, 536870911, 1073741823, 2147483647, 4294967295, 8589934591, 17179869183, 34359738367, 34359738367, 103079215103, 274877906943, 549755813887, 1099511627775, 2199023255551]
theorem cleatlaw06_AluFlags.tab19 : rtab .any (opsOf Tryd.f4 19) = cleatlaw06_AluFlags.T19 := by kernel_rfl
theorem cleatlaw06_AluFlags.bits19 : waitsOk cleatlaw06_AluFlags.T19.2 cleatlaw06_AluFlags.B19 = true := by kernel_rfl
set_option maxHeartbeats 8000000 in
set_option maxRecDepth 100000 in
theorem cleatlaw06_AluFlags.calls (k : Nat) (a0_0 : Int) (a0_1 : Int) (a0_2 : Int) (a0_3 : Int) (a0_4 : Int) (a0_5 : Int) (a0_6 : Int) (a0_7 : Int) (a0_8 : Int) (a0_9 : Int) (a1_0 : Int) (a1_1 : Int) (a1_2 : Int) (a1_3 : Int) (a2_0 : Bool) (a2_1 : Bool) (a2_2 : Bool) (a2_3 : Bool) (r : Bool) (w : World) (h : cleatlaw06_AluFlags.f k a0_0 a0_1 a0_2 a0_3 a0_4 a0_5 a0_6 a0_7 a0_8 a0_9 a1_0 a1_1 a1_2 a1_3 a2_0 a2_1 a2_2 a2_3 = some r) (hTab : TabW w := by first | exact hTab | exact TabW.drew hTab | exact TabW.drewN hTab _ | exact TabW.below hTab (by repeat (first | (with_reducible first | exact HB.out | apply below_alloc | apply pw_below_drewN | apply below_drew1) | refine Below.setCell ?_ (Aside0.out (by assumption)) _ | exact HB.out | exact Below.refl _ _))) :
    Calls Tryd.prog 4 #[.agg #[.int .i64 a0_0, .int .i64 a0_1, .int .i64 a0_2, .int .i64 a0_3, .int .i64 a0_4, .int .i64 a0_5, .int .u64 a0_6, .int .i64 a0_7, .int .i64 a0_8, .int .i64 a0_9], .agg #[.int .u64 a1_0, .int .u64 a1_1, .int .u64 a1_2, .int .u64 a1_3], .agg #[.bool a2_0, .bool a2_1, .bool a2_2, .bool a2_3]] w fun e w' => e = .returned (.bool r) ∧ Below w.heap.size w w' := by
 have hu25 := Tryd.underlying25
 have hu29 := Tryd.underlying29
 have hu35 := Tryd.underlying35
 have HB := Aside0.mk (Below.refl w.heap.size w)
 have H : ((alu_Do.f k a0_0 a0_1 a0_2 a0_3 a0_4 a0_5 a0_6 a0_7 a0_8 a0_9 a1_0 a1_1 a1_2 a1_3 a2_0 a2_1 a2_2 a2_3).bind fun bt274 => (if bt274.2.2.2.2.2 = 0 then (if a0_0 = 6 then (cleatlaw06_AluFlags.j0 k bt274.1 a0_0 (a0_0 == 6) a0_0 a0_1 a0_2 a0_3 a0_4 a0_5 a0_6 a0_7 a0_8 a0_9 a1_0 a1_1 a1_2 a1_3 a2_0 a2_1 a2_2 a2_3 bt274.2.1 bt274.2.2.1 bt274.2.2.2.1 bt274.2.2.2.2.1 a0_0 a0_1 a0_2 a0_3 a0_4 a0_5 a0_6 a0_7 a0_8 a0_9) else (cleatlaw06_AluFlags.j0 k bt274.1 a0_0 (a0_0 == 7) a0_0 a0_1 a0_2 a0_3 a0_4 a0_5 a0_6 a0_7 a0_8 a0_9 a1_0 a1_1 a1_2 a1_3 a2_0 a2_1 a2_2 a2_3 bt274.2.1 bt274.2.2.1 bt274.2.2.2.1 bt274.2.2.2.2.1 a0_0 a0_1 a0_2 a0_3 a0_4 a0_5 a0_6 a0_7 a0_8 a0_9)) else ((cleatlaw06_done.f k).bind fun t281 => (if t281 = true then ((alu_Is.f k a0_0 a0_1 a0_2 a0_3 a0_4 a0_5 a0_6 a0_7 a0_8 a0_9).bind fun t282 => (if t282 = true then (none) else (if bt274.1 = 0 then (some (!bt274.2.1 && (!bt274.2.2.1 && (!bt274.2.2.2.1 && (!bt274.2.2.2.2.1))))) else (none)))) else (none))))) = some r := h
 clear h
 replace H := Option.bind_eq_some_iff.mp H
 obtain ⟨⟨t274, t275, t276, t277, t278, t279⟩, A40, H⟩ := H
 replace H : (if t279 = 0 then (if a0_0 = 6 then (cleatlaw06_AluFlags.j0 k t274 a0_0 (a0_0 == 6) a0_0 a0_1 a0_2 a0_3 a0_4 a0_5 a0_6 a0_7 a0_8 a0_9 a1_0 a1_1 a1_2 a1_3 a2_0 a2_1 a2_2 a2_3 t275 t276 t277 t278 a0_0 a0_1 a0_2 a0_3 a0_4 a0_5 a0_6 a0_7 a0_8 a0_9) else (cleatlaw06_AluFlags.j0 k t274 a0_0 (a0_0 == 7) a0_0 a0_1 a0_2 a0_3 a0_4 a0_5 a0_6 a0_7 a0_8 a0_9 a1_0 a1_1 a1_2 a1_3 a2_0 a2_1 a2_2 a2_3 t275 t276 t277 t278 a0_0 a0_1 a0_2 a0_3 a0_4 a0_5 a0_6 a0_7 a0_8 a0_9)) else ((cleatlaw06_done.f k).bind fun t281 => (if t281 = true then ((alu_Is.f k a0_0 a0_1 a0_2 a0_3 a0_4 a0_5 a0_6 a0_7 a0_8 a0_9).bind fun t282 => (if t282 = true then (none) else (if t274 = 0 then (some (!t275 && (!t276 && (!t277 && (!t278))))) else (none)))) else (none)))) = some r := H
 have A4 := Aside0.mk A40
 clear A40
 by_cases c5 : t279 = 0
 ·
  rw [if_pos c5] at H
  have c5b0 : (t279 == 0) = true := beq_iff_eq.mpr c5
  have c5b1 : (t279 != 0) = false := bne_eq_false_iff_eq.mpr c5
  clear c5
  have HC6 := Aside0.mk H
  clear H
  go_enter Tryd.func4, Tryd.ntmps4
  go_upto_block 0 with (first | ((with_reducible refine gate_dst (N := 3) rfl ?_); refine box_event ?hg (N := 3) ?hd (cs := #[.int .i64 a0_0, .int .i64 a0_1, .int .i64 a0_2, .int .i64 a0_3, .int .i64 a0_4, .int .i64 a0_5, .int .u64 a0_6, .int .i64 a0_7, .int .i64 a0_8, .int .i64 a0_9]) (t := 25) ?hr ?_; (case hd => rfl); (case hg => rfl); (case hr => first | (go_simp; done) | (go_simp; rfl)); intro gb271 hg w7 hbox hb; have n0_ := Aside0.mk (below_step (by repeat (first | (with_reducible first | exact HB.out | apply below_alloc | apply pw_below_drewN | apply below_drew1) | exact HB.out)) hb); have n1_ := Aside0.mk (hbox); have n2_ := Aside0.mk ((by rw [hg]; exact (below_size (by repeat (first | (with_reducible first | exact HB.out | apply below_alloc | apply pw_below_drewN | apply below_drew1) | exact HB.out))) : w.heap.size ≤ gb271)); have n3_ := Aside0.mk ((by rw [hg]; exact (below_size (by repeat (first | (with_reducible first | exact HB.out | apply below_alloc | apply pw_below_drewN | apply below_drew1) | exact HB.out))) : w.heap.size ≤ gb271)); clear HB; have HB := n0_; have BK271 := n1_; have GW271 := n2_; have GE271 := n3_; clear n0_ n1_ n2_ n3_; clear hb hbox hg) | ((with_reducible refine gate_dst (N := 4) rfl ?_); refine box_event ?hg (N := 4) ?hd (cs := #[.int .u64 a1_0, .int .u64 a1_1, .int .u64 a1_2, .int .u64 a1_3]) (t := 29) ?hr ?_; (case hd => rfl); (case hg => rfl); (case hr => first | (go_simp; done) | (go_simp; rfl)); intro gb272 hg w8 hbox hb; have n0_ := Aside0.mk (blk_below (g := gb271) (o := .cells #[.int .i64 a0_0, .int .i64 a0_1, .int .i64 a0_2, .int .i64 a0_3, .int .i64 a0_4, .int .i64 a0_5, .int .u64 a0_6, .int .i64 a0_7, .int .i64 a0_8, .int .i64 a0_9] 25 (0, 0)) (by (with_reducible repeat (first | refine blk_drewN ?_ _ | refine blk_drew ?_ | refine blk_alloc ?_ _)); exact BK271.out) hb); have n1_ := Aside0.mk (below_step (by repeat (first | (with_reducible first | exact HB.out | apply below_alloc | apply pw_below_drewN | apply below_drew1 | refine below_set ?_ GE271.out) | exact HB.out)) hb); have n2_ := Aside0.mk (hbox); have n3_ := Aside0.mk ((by rw [hg]; exact (below_size (by repeat (first | (with_reducible first | exact HB.out | apply below_alloc | apply pw_below_drewN | apply below_drew1 | refine below_set ?_ GE271.out) | exact HB.out))) : w.heap.size ≤ gb272)); have n4_ := Aside0.mk ((by rw [hg]; exact (below_size (by repeat (first | (with_reducible first | exact HB.out | apply below_alloc | apply pw_below_drewN | apply below_drew1 | refine below_set ?_ GE271.out) | exact HB.out))) : w.heap.size ≤ gb272)); have n5_ := Aside0.mk ((by rw [hg]; exact Nat.ne_of_lt (blk_lt (g := gb271) (o := .cells #[.int .i64 a0_0, .int .i64 a0_1, .int .i64 a0_2, .int .i64 a0_3, .int .i64 a0_4, .int .i64 a0_5, .int .u64 a0_6, .int .i64 a0_7, .int .i64 a0_8, .int .i64 a0_9] 25 (0, 0)) (by (with_reducible repeat (first | refine blk_drewN ?_ _ | refine blk_drew ?_ | refine blk_alloc ?_ _)); exact BK271.out)) : gb271 ≠ gb272)); have n6_ := Aside0.mk ((by rw [hg]; exact Nat.ne_of_gt (blk_lt (g := gb271) (o := .cells #[.int .i64 a0_0, .int .i64 a0_1, .int .i64 a0_2, .int .i64 a0_3, .int .i64 a0_4, .int .i64 a0_5, .int .u64 a0_6, .int .i64 a0_7, .int .i64 a0_8, .int .i64 a0_9] 25 (0, 0)) (by (with_reducible repeat (first | refine blk_drewN ?_ _ | refine blk_drew ?_ | refine blk_alloc ?_ _)); exact BK271.out)) : gb272 ≠ gb271)); clear BK271; clear HB; have BK271 := n0_; have HB := n1_; have BK272 := n2_; have GW272 := n3_; have GE272 := n4_; have NB271_272 := n5_; have NB272_271 := n6_; clear n0_ n1_ n2_ n3_ n4_ n5_ n6_; clear hb hbox hg) | ((with_reducible refine gate_dst (N := 5) rfl ?_); refine box_event ?hg (N := 5) ?hd (cs := #[.bool a2_0, .bool a2_1, .bool a2_2, .bool a2_3]) (t := 35) ?hr ?_; (case hd => rfl); (case hg => rfl); (case hr => first | (go_simp; done) | (go_simp; rfl)); intro gb273 hg w9 hbox hb; have n0_ := Aside0.mk (blk_below (g := gb271) (o := .cells #[.int .i64 a0_0, .int .i64 a0_1, .int .i64 a0_2, .int .i64 a0_3, .int .i64 a0_4, .int .i64 a0_5, .int .u64 a0_6, .int .i64 a0_7, .int .i64 a0_8, .int .i64 a0_9] 25 (0, 0)) (by (with_reducible repeat (first | refine blk_drewN ?_ _ | refine blk_drew ?_ | refine blk_alloc ?_ _)); exact BK271.out) hb); have n1_ := Aside0.mk (blk_below (g := gb272) (o := .cells #[.int .u64 a1_0, .int .u64 a1_1, .int .u64 a1_2, .int .u64 a1_3] 29 (0, 0)) (by (with_reducible repeat (first | refine blk_drewN ?_ _ | refine blk_drew ?_ | refine blk_alloc ?_ _)); exact BK272.out) hb); have n2_ := Aside0.mk (below_step (by repeat (first | (with_reducible first | exact HB.out | apply below_alloc | apply pw_below_drewN | apply below_drew1 | refine below_set ?_ GE271.out | refine below_set ?_ GE272.out) | exact HB.out)) hb); have n3_ := Aside0.mk (hbox); have n4_ := Aside0.mk ((by rw [hg]; exact (below_size (by repeat (first | (with_reducible first | exact HB.out | apply below_alloc | apply pw_below_drewN | apply below_drew1 | refine below_set ?_ GE271.out | refine below_set ?_ GE272.out) | exact HB.out))) : w.heap.size ≤ gb273)); have n5_ := Aside0.mk ((by rw [hg]; exact (below_size (by repeat (first | (with_reducible first | exact HB.out | apply below_alloc | apply pw_below_drewN | apply below_drew1 | refine below_set ?_ GE271.out | refine below_set ?_ GE272.out) | exact HB.out))) : w.heap.size ≤ gb273)); have n6_ := Aside0.mk ((by rw [hg]; exact Nat.ne_of_lt (blk_lt (g := gb271) (o := .cells #[.int .i64 a0_0, .int .i64 a0_1, .int .i64 a0_2, .int .i64 a0_3, .int .i64 a0_4, .int .i64 a0_5, .int .u64 a0_6, .int .i64 a0_7, .int .i64 a0_8, .int .i64 a0_9] 25 (0, 0)) (by (with_reducible repeat (first | refine blk_drewN ?_ _ | refine blk_drew ?_ | refine blk_alloc ?_ _)); exact BK271.out)) : gb271 ≠ gb273)); have n7_ := Aside0.mk ((by rw [hg]; exact Nat.ne_of_gt (blk_lt (g := gb271) (o := .cells #[.int .i64 a0_0, .int .i64 a0_1, .int .i64 a0_2, .int .i64 a0_3, .int .i64 a0_4, .int .i64 a0_5, .int .u64 a0_6, .int .i64 a0_7, .int .i64 a0_8, .int .i64 a0_9] 25 (0, 0)) (by (with_reducible repeat (first | refine blk_drewN ?_ _ | refine blk_drew ?_ | refine blk_alloc ?_ _)); exact BK271.out)) : gb273 ≠ gb271)); have n8_ := Aside0.mk ((by rw [hg]; exact Nat.ne_of_lt (blk_lt (g := gb272) (o := .cells #[.int .u64 a1_0, .int .u64 a1_1, .int .u64 a1_2, .int .u64 a1_3] 29 (0, 0)) (by (with_reducible repeat (first | refine blk_drewN ?_ _ | refine blk_drew ?_ | refine blk_alloc ?_ _)); exact BK272.out)) : gb272 ≠ gb273)); have n9_ := Aside0.mk ((by rw [hg]; exact Nat.ne_of_gt (blk_lt (g := gb272) (o := .cells #[.int .u64 a1_0, .int .u64 a1_1, .int .u64 a1_2, .int .u64 a1_3] 29 (0, 0)) (by (with_reducible repeat (first | refine blk_drewN ?_ _ | refine blk_drew ?_ | refine blk_alloc ?_ _)); exact BK272.out)) : gb273 ≠ gb272)); clear BK271; clear BK272; clear HB; have BK271 := n0_; have BK272 := n1_; have HB := n2_; have BK273 := n3_; have GW273 := n4_; have GE273 := n5_; have NB271_273 := n6_; have NB273_271 := n7_; have NB272_273 := n8_; have NB273_272 := n9_; clear n0_ n1_ n2_ n3_ n4_ n5_ n6_ n7_ n8_ n9_; clear hb hbox hg; have hnb10 := NB271_272.out; have hnc10 := NB272_271.out; have hnb11 := NB271_273.out; have hnc11 := NB273_271.out; obtain ⟨hcz12_0, hcz12_1, hcz12_2, hcz12_3, hcz12_4, hcz12_5, hcz12_6, hcz12_7, hcz12_8, hcz12_9⟩ := cells10_ BK271.out; have hfz12_0 := fun j => blk_frozen BK271.out j; have hnb13 := NB272_273.out; have hnc13 := NB273_272.out; obtain ⟨hcz14_0, hcz14_1, hcz14_2, hcz14_3⟩ := cells4_ BK272.out; have hfz14_0 := fun j => blk_frozen BK272.out j; obtain ⟨hcz15_0, hcz15_1, hcz15_2, hcz15_3⟩ := cells4_ BK273.out; have hfz15_0 := fun j => blk_frozen BK273.out j) | ((with_reducible refine gate_callee (f := 11) rfl ?_); refine goesL_ (some 19) rfl rfl Tryd.func11 (by kernel_rfl) rfl #[.agg #[.int .i64 a0_0, .int .i64 a0_1, .int .i64 a0_2, .int .i64 a0_3, .int .i64 a0_4, .int .i64 a0_5, .int .u64 a0_6, .int .i64 a0_7, .int .i64 a0_8, .int .i64 a0_9], .agg #[.int .u64 a1_0, .int .u64 a1_1, .int .u64 a1_2, .int .u64 a1_3], .agg #[.bool a2_0, .bool a2_1, .bool a2_2, .bool a2_3]] rfl (by (try simp only [List.map_toArray, List.map_cons, List.map_nil]); first | done | rfl | (simp only [List.length_drop, List.length_take]; rfl)) ?_; (with_reducible refine (alu_Do.calls k a0_0 a0_1 a0_2 a0_3 a0_4 a0_5 a0_6 a0_7 a0_8 a0_9 a1_0 a1_1 a1_2 a1_3 a2_0 a2_1 a2_2 a2_3 t274 t275 t276 t277 t278 t279 _ A4.out).mono ?_); rintro e w16 ⟨rfl, hb⟩; refine ⟨_, rfl, ?_⟩; have n0_ := Aside0.mk (blk_below (g := gb271) (o := .cells #[.int .i64 a0_0, .int .i64 a0_1, .int .i64 a0_2, .int .i64 a0_3, .int .i64 a0_4, .int .i64 a0_5, .int .u64 a0_6, .int .i64 a0_7, .int .i64 a0_8, .int .i64 a0_9] 25 (0, 0)) (by (with_reducible repeat (first | refine blk_drewN ?_ _ | refine blk_drew ?_ | refine blk_alloc ?_ _)); exact BK271.out) hb); have n1_ := Aside0.mk (blk_below (g := gb272) (o := .cells #[.int .u64 a1_0, .int .u64 a1_1, .int .u64 a1_2, .int .u64 a1_3] 29 (0, 0)) (by (with_reducible repeat (first | refine blk_drewN ?_ _ | refine blk_drew ?_ | refine blk_alloc ?_ _)); exact BK272.out) hb); have n2_ := Aside0.mk (blk_below (g := gb273) (o := .cells #[.bool a2_0, .bool a2_1, .bool a2_2, .bool a2_3] 35 (0, 0)) (by (with_reducible repeat (first | refine blk_drewN ?_ _ | refine blk_drew ?_ | refine blk_alloc ?_ _)); exact BK273.out) hb); have n3_ := Aside0.mk (below_step (by repeat (first | (with_reducible first | exact HB.out | apply below_alloc | apply pw_below_drewN | apply below_drew1 | refine below_set ?_ GE271.out | refine below_set ?_ GE272.out | refine below_set ?_ GE273.out) | exact HB.out)) hb); clear BK271; clear BK272; clear BK273; clear HB; have BK271 := n0_; have BK272 := n1_; have BK273 := n2_; have HB := n3_; clear n0_ n1_ n2_ n3_; (try clear hb); (try clear hb2); (try clear hk); (try clear hi)) | ((with_reducible refine gate_dst (N := 8) rfl ?_); refine box_event ?hg (N := 8) ?hd (cs := #[.bool false, .bool false, .bool false, .bool false]) (t := 35) ?hr ?_; (case hd => rfl); (case hg => rfl); (case hr => first | (go_simp; done) | (go_simp; rfl)); intro gb280 hg w17 hbox hb; have n0_ := Aside0.mk (blk_below (g := gb271) (o := .cells #[.int .i64 a0_0, .int .i64 a0_1, .int .i64 a0_2, .int .i64 a0_3, .int .i64 a0_4, .int .i64 a0_5, .int .u64 a0_6, .int .i64 a0_7, .int .i64 a0_8, .int .i64 a0_9] 25 (0, 0)) (by (with_reducible repeat (first | refine blk_drewN ?_ _ | refine blk_drew ?_ | refine blk_alloc ?_ _)); exact BK271.out) hb); have n1_ := Aside0.mk (blk_below (g := gb272) (o := .cells #[.int .u64 a1_0, .int .u64 a1_1, .int .u64 a1_2, .int .u64 a1_3] 29 (0, 0)) (by (with_reducible repeat (first | refine blk_drewN ?_ _ | refine blk_drew ?_ | refine blk_alloc ?_ _)); exact BK272.out) hb); have n2_ := Aside0.mk (blk_below (g := gb273) (o := .cells #[.bool a2_0, .bool a2_1, .bool a2_2, .bool a2_3] 35 (0, 0)) (by (with_reducible repeat (first | refine blk_drewN ?_ _ | refine blk_drew ?_ | refine blk_alloc ?_ _)); exact BK273.out) hb); have n3_ := Aside0.mk (below_step (by repeat (first | (with_reducible first | exact HB.out | apply below_alloc | apply pw_below_drewN | apply below_drew1 | refine below_set ?_ GE271.out | refine below_set ?_ GE272.out | refine below_set ?_ GE273.out) | exact HB.out)) hb); have n4_ := Aside0.mk (hbox); have n5_ := Aside0.mk ((by rw [hg]; exact (below_size (by repeat (first | (with_reducible first | exact HB.out | apply below_alloc | apply pw_below_drewN | apply below_drew1 | refine below_set ?_ GE271.out | refine below_set ?_ GE272.out | refine below_set ?_ GE273.out) | exact HB.out))) : w.heap.size ≤ gb280)); have n6_ := Aside0.mk ((by rw [hg]; exact (below_size (by repeat (first | (with_reducible first | exact HB.out | apply below_alloc | apply pw_below_drewN | apply below_drew1 | refine below_set ?_ GE271.out | refine below_set ?_ GE272.out | refine below_set ?_ GE273.out) | exact HB.out))) : w.heap.size ≤ gb280)); have n7_ := Aside0.mk ((by rw [hg]; exact Nat.ne_of_lt (blk_lt (g := gb271) (o := .cells #[.int .i64 a0_0, .int .i64 a0_1, .int .i64 a0_2, .int .i64 a0_3, .int .i64 a0_4, .int .i64 a0_5, .int .u64 a0_6, .int .i64 a0_7, .int .i64 a0_8, .int .i64 a0_9] 25 (0, 0)) (by (with_reducible repeat (first | refine blk_drewN ?_ _ | refine blk_drew ?_ | refine blk_alloc ?_ _)); exact BK271.out)) : gb271 ≠ gb280)); have n8_ := Aside0.mk ((by rw [hg]; exact Nat.ne_of_gt (blk_lt (g := gb271) (o := .cells #[.int .i64 a0_0, .int .i64 a0_1, .int .i64 a0_2, .int .i64 a0_3, .int .i64 a0_4, .int .i64 a0_5, .int .u64 a0_6, .int .i64 a0_7, .int .i64 a0_8, .int .i64 a0_9] 25 (0, 0)) (by (with_reducible repeat (first | refine blk_drewN ?_ _ | refine blk_drew ?_ | refine blk_alloc ?_ _)); exact BK271.out)) : gb280 ≠ gb271)); have n9_ := Aside0.mk ((by rw [hg]; exact Nat.ne_of_lt (blk_lt (g := gb272) (o := .cells #[.int .u64 a1_0, .int .u64 a1_1, .int .u64 a1_2, .int .u64 a1_3] 29 (0, 0)) (by (with_reducible repeat (first | refine blk_drewN ?_ _ | refine blk_drew ?_ | refine blk_alloc ?_ _)); exact BK272.out)) : gb272 ≠ gb280)); have n10_ := Aside0.mk ((by rw [hg]; exact Nat.ne_of_gt (blk_lt (g := gb272) (o := .cells #[.int .u64 a1_0, .int .u64 a1_1, .int .u64 a1_2, .int .u64 a1_3] 29 (0, 0)) (by (with_reducible repeat (first | refine blk_drewN ?_ _ | refine blk_drew ?_ | refine blk_alloc ?_ _)); exact BK272.out)) : gb280 ≠ gb272)); have n11_ := Aside0.mk ((by rw [hg]; exact Nat.ne_of_lt (blk_lt (g := gb273) (o := .cells #[.bool a2_0, .bool a2_1, .bool a2_2, .bool a2_3] 35 (0, 0)) (by (with_reducible repeat (first | refine blk_drewN ?_ _ | refine blk_drew ?_ | refine blk_alloc ?_ _)); exact BK273.out)) : gb273 ≠ gb280)); have n12_ := Aside0.mk ((by rw [hg]; exact Nat.ne_of_gt (blk_lt (g := gb273) (o := .cells #[.bool a2_0, .bool a2_1, .bool a2_2, .bool a2_3] 35 (0, 0)) (by (with_reducible repeat (first | refine blk_drewN ?_ _ | refine blk_drew ?_ | refine blk_alloc ?_ _)); exact BK273.out)) : gb280 ≠ gb273)); clear BK271; clear BK272; clear BK273; clear HB; have BK271 := n0_; have BK272 := n1_; have BK273 := n2_; have HB := n3_; have BK280 := n4_; have GW280 := n5_; have GE280 := n6_; have NB271_280 := n7_; have NB280_271 := n8_; have NB272_280 := n9_; have NB280_272 := n10_; have NB273_280 := n11_; have NB280_273 := n12_; clear n0_ n1_ n2_ n3_ n4_ n5_ n6_ n7_ n8_ n9_ n10_ n11_ n12_; clear hb hbox hg; have hnb18 := NB280_271.out; have hnc18 := NB271_280.out; have hnb19 := NB280_272.out; have hnc19 := NB272_280.out; have hnb20 := NB280_273.out; have hnc20 := NB273_280.out; obtain ⟨hcz21_0, hcz21_1, hcz21_2, hcz21_3⟩ := cells4_ BK280.out; have hfz21_0 := fun j => blk_frozen BK280.out j; obtain ⟨hcz22_0, hcz22_1, hcz22_2, hcz22_3, hcz22_4, hcz22_5, hcz22_6, hcz22_7, hcz22_8, hcz22_9⟩ := cells10_ BK271.out; have hfz22_0 := fun j => blk_frozen BK271.out j) | ((with_reducible refine gate_dst (N := 10) rfl ?_); refine box_event ?hg (N := 10) ?hd (cs := #[.int .i64 0, .int .i64 0, .int .i64 0, .int .i64 0, .int .i64 0, .int .i64 0, .int .u64 0, .int .i64 0, .int .i64 0, .int .i64 0]) (t := 25) ?hr ?_; (case hd => rfl); (case hg => rfl); (case hr => first | (go_simp; done) | (go_simp; rfl)); intro gb283 hg w23 hbox hb; have n0_ := Aside0.mk (blk_below (g := gb271) (o := .cells #[.int .i64 a0_0, .int .i64 a0_1, .int .i64 a0_2, .int .i64 a0_3, .int .i64 a0_4, .int .i64 a0_5, .int .u64 a0_6, .int .i64 a0_7, .int .i64 a0_8, .int .i64 a0_9] 25 (0, 0)) (by (with_reducible repeat (first | refine blk_drewN ?_ _ | refine blk_drew ?_ | refine blk_alloc ?_ _)); refine blk_far ?_ NB271_280.out _; (with_reducible repeat (first | refine blk_drewN ?_ _ | refine blk_drew ?_ | refine blk_alloc ?_ _)); refine blk_far ?_ NB271_280.out _; (with_reducible repeat (first | refine blk_drewN ?_ _ | refine blk_drew ?_ | refine blk_alloc ?_ _)); refine blk_far ?_ NB271_280.out _; (with_reducible repeat (first | refine blk_drewN ?_ _ | refine blk_drew ?_ | refine blk_alloc ?_ _)); refine blk_far ?_ NB271_280.out _; (with_reducible repeat (first | refine blk_drewN ?_ _ | refine blk_drew ?_ | refine blk_alloc ?_ _)); exact BK271.out) hb); have n1_ := Aside0.mk (blk_below (g := gb272) (o := .cells #[.int .u64 a1_0, .int .u64 a1_1, .int .u64 a1_2, .int .u64 a1_3] 29 (0, 0)) (by (with_reducible repeat (first | refine blk_drewN ?_ _ | refine blk_drew ?_ | refine blk_alloc ?_ _)); refine blk_far ?_ NB272_280.out _; (with_reducible repeat (first | refine blk_drewN ?_ _ | refine blk_drew ?_ | refine blk_alloc ?_ _)); refine blk_far ?_ NB272_280.out _; (with_reducible repeat (first | refine blk_drewN ?_ _ | refine blk_drew ?_ | refine blk_alloc ?_ _)); refine blk_far ?_ NB272_280.out _; (with_reducible repeat (first | refine blk_drewN ?_ _ | refine blk_drew ?_ | refine blk_alloc ?_ _)); refine blk_far ?_ NB272_280.out _; (with_reducible repeat (first | refine blk_drewN ?_ _ | refine blk_drew ?_ | refine blk_alloc ?_ _)); exact BK272.out) hb); have n2_ := Aside0.mk (blk_below (g := gb273) (o := .cells #[.bool a2_0, .bool a2_1, .bool a2_2, .bool a2_3] 35 (0, 0)) (by (with_reducible repeat (first | refine blk_drewN ?_ _ | refine blk_drew ?_ | refine blk_alloc ?_ _)); refine blk_far ?_ NB273_280.out _; (with_reducible repeat (first | refine blk_drewN ?_ _ | refine blk_drew ?_ | refine blk_alloc ?_ _)); refine blk_far ?_ NB273_280.out _; (with_reducible repeat (first | refine blk_drewN ?_ _ | refine blk_drew ?_ | refine blk_alloc ?_ _)); refine blk_far ?_ NB273_280.out _; (with_reducible repeat (first | refine blk_drewN ?_ _ | refine blk_drew ?_ | refine blk_alloc ?_ _)); refine blk_far ?_ NB273_280.out _; (with_reducible repeat (first | refine blk_drewN ?_ _ | refine blk_drew ?_ | refine blk_alloc ?_ _)); exact BK273.out) hb); have n3_ := Aside0.mk (blk_below (g := gb280) (o := .cells #[.bool t275, .bool t276, .bool t277, .bool t278] 35 (0, 0)) (by (with_reducible repeat (first | refine blk_drewN ?_ _ | refine blk_drew ?_ | refine blk_alloc ?_ _)); refine blk_put (cs := #[.bool t275, .bool t276, .bool t277, .bool false]) ?_ 3 _ rfl; (with_reducible repeat (first | refine blk_drewN ?_ _ | refine blk_drew ?_ | refine blk_alloc ?_ _)); refine blk_put (cs := #[.bool t275, .bool t276, .bool false, .bool false]) ?_ 2 _ rfl; (with_reducible repeat (first | refine blk_drewN ?_ _ | refine blk_drew ?_ | refine blk_alloc ?_ _)); refine blk_put (cs := #[.bool t275, .bool false, .bool false, .bool false]) ?_ 1 _ rfl; (with_reducible repeat (first | refine blk_drewN ?_ _ | refine blk_drew ?_ | refine blk_alloc ?_ _)); refine blk_put (cs := #[.bool false, .bool false, .bool false, .bool false]) ?_ 0 _ rfl; (with_reducible repeat (first | refine blk_drewN ?_ _ | refine blk_drew ?_ | refine blk_alloc ?_ _)); exact BK280.out) hb); have n4_ := Aside0.mk (below_step (by repeat (first | (with_reducible first | exact HB.out | apply below_alloc | apply pw_below_drewN | apply below_drew1 | refine below_set ?_ GE271.out | refine below_set ?_ GE272.out | refine below_set ?_ GE273.out | refine below_set ?_ GE280.out) | exact HB.out)) hb); have n5_ := Aside0.mk (hbox); have n6_ := Aside0.mk ((by rw [hg]; exact (below_size (by repeat (first | (with_reducible first | exact HB.out | apply below_alloc | apply pw_below_drewN | apply below_drew1 | refine below_set ?_ GE271.out | refine below_set ?_ GE272.out | refine below_set ?_ GE273.out | refine below_set ?_ GE280.out) | exact HB.out))) : w.heap.size ≤ gb283)); have n7_ := Aside0.mk ((by rw [hg]; exact (below_size (by repeat (first | (with_reducible first | exact HB.out | apply below_alloc | apply pw_below_drewN | apply below_drew1 | refine below_set ?_ GE271.out | refine below_set ?_ GE272.out | refine below_set ?_ GE273.out | refine below_set ?_ GE280.out) | exact HB.out))) : w.heap.size ≤ gb283)); have n8_ := Aside0.mk ((by rw [hg]; exact Nat.ne_of_lt (blk_lt (g := gb271) (o := .cells #[.int .i64 a0_0, .int .i64 a0_1, .int .i64 a0_2, .int .i64 a0_3, .int .i64 a0_4, .int .i64 a0_5, .int .u64 a0_6, .int .i64 a0_7, .int .i64 a0_8, .int .i64 a0_9] 25 (0, 0)) (by (with_reducible repeat (first | refine blk_drewN ?_ _ | refine blk_drew ?_ | refine blk_alloc ?_ _)); refine blk_far ?_ NB271_280.out _; (with_reducible repeat (first | refine blk_drewN ?_ _ | refine blk_drew ?_ | refine blk_alloc ?_ _)); refine blk_far ?_ NB271_280.out _; (with_reducible repeat (first | refine blk_drewN ?_ _ | refine blk_drew ?_ | refine blk_alloc ?_ _)); refine blk_far ?_ NB271_280.out _; (with_reducible repeat (first | refine blk_drewN ?_ _ | refine blk_drew ?_ | refine blk_alloc ?_ _)); refine blk_far ?_ NB271_280.out _; (with_reducible repeat (first | refine blk_drewN ?_ _ | refine blk_drew ?_ | refine blk_alloc ?_ _)); exact BK271.out)) : gb271 ≠ gb283)); have n9_ := Aside0.mk ((by rw [hg]; exact Nat.ne_of_gt (blk_lt (g := gb271) (o := .cells #[.int .i64 a0_0, .int .i64 a0_1, .int .i64 a0_2, .int .i64 a0_3, .int .i64 a0_4, .int .i64 a0_5, .int .u64 a0_6, .int .i64 a0_7, .int .i64 a0_8, .int .i64 a0_9] 25 (0, 0)) (by (with_reducible repeat (first | refine blk_drewN ?_ _ | refine blk_drew ?_ | refine blk_alloc ?_ _)); refine blk_far ?_ NB271_280.out _; (with_reducible repeat (first | refine blk_drewN ?_ _ | refine blk_drew ?_ | refine blk_alloc ?_ _)); refine blk_far ?_ NB271_280.out _; (with_reducible repeat (first | refine blk_drewN ?_ _ | refine blk_drew ?_ | refine blk_alloc ?_ _)); refine blk_far ?_ NB271_280.out _; (with_reducible repeat (first | refine blk_drewN ?_ _ | refine blk_drew ?_ | refine blk_alloc ?_ _)); refine blk_far ?_ NB271_280.out _; (with_reducible repeat (first | refine blk_drewN ?_ _ | refine blk_drew ?_ | refine blk_alloc ?_ _)); exact BK271.out)) : gb283 ≠ gb271)); have n10_ := Aside0.mk ((by rw [hg]; exact Nat.ne_of_lt (blk_lt (g := gb272) (o := .cells #[.int .u64 a1_0, .int .u64 a1_1, .int .u64 a1_2, .int .u64 a1_3] 29 (0, 0)) (by (with_reducible repeat (first | refine blk_drewN ?_ _ | refine blk_drew ?_ | refine blk_alloc ?_ _)); refine blk_far ?_ NB272_280.out _; (with_reducible repeat (first | refine blk_drewN ?_ _ | refine blk_drew ?_ | refine blk_alloc ?_ _)); refine blk_far ?_ NB272_280.out _; (with_reducible repeat (first | refine blk_drewN ?_ _ | refine blk_drew ?_ | refine blk_alloc ?_ _)); refine blk_far ?_ NB272_280.out _; (with_reducible repeat (first | refine blk_drewN ?_ _ | refine blk_drew ?_ | refine blk_alloc ?_ _)); refine blk_far ?_ NB272_280.out _; (with_reducible repeat (first | refine blk_drewN ?_ _ | refine blk_drew ?_ | refine blk_alloc ?_ _)); exact BK272.out)) : gb272 ≠ gb283)); have n11_ := Aside0.mk ((by rw [hg]; exact Nat.ne_of_gt (blk_lt (g := gb272) (o := .cells #[.int .u64 a1_0, .int .u64 a1_1, .int .u64 a1_2, .int .u64 a1_3] 29 (0, 0)) (by (with_reducible repeat (first | refine blk_drewN ?_ _ | refine blk_drew ?_ | refine blk_alloc ?_ _)); refine blk_far ?_ NB272_280.out _; (with_reducible repeat (first | refine blk_drewN ?_ _ | refine blk_drew ?_ | refine blk_alloc ?_ _)); refine blk_far ?_ NB272_280.out _; (with_reducible repeat (first | refine blk_drewN ?_ _ | refine blk_drew ?_ | refine blk_alloc ?_ _)); refine blk_far ?_ NB272_280.out _; (with_reducible repeat (first | refine blk_drewN ?_ _ | refine blk_drew ?_ | refine blk_alloc ?_ _)); refine blk_far ?_ NB272_280.out _; (with_reducible repeat (first | refine blk_drewN ?_ _ | refine blk_drew ?_ | refine blk_alloc ?_ _)); exact BK272.out)) : gb283 ≠ gb272)); have n12_ := Aside0.mk ((by rw [hg]; exact Nat.ne_of_lt (blk_lt (g := gb273) (o := .cells #[.bool a2_0, .bool a2_1, .bool a2_2, .bool a2_3] 35 (0, 0)) (by (with_reducible repeat (first | refine blk_drewN ?_ _ | refine blk_drew ?_ | refine blk_alloc ?_ _)); refine blk_far ?_ NB273_280.out _; (with_reducible repeat (first | refine blk_drewN ?_ _ | refine blk_drew ?_ | refine blk_alloc ?_ _)); refine blk_far ?_ NB273_280.out _; (with_reducible repeat (first | refine blk_drewN ?_ _ | refine blk_drew ?_ | refine blk_alloc ?_ _)); refine blk_far ?_ NB273_280.out _; (with_reducible repeat (first | refine blk_drewN ?_ _ | refine blk_drew ?_ | refine blk_alloc ?_ _)); refine blk_far ?_ NB273_280.out _; (with_reducible repeat (first | refine blk_drewN ?_ _ | refine blk_drew ?_ | refine blk_alloc ?_ _)); exact BK273.out)) : gb273 ≠ gb283)); have n13_ := Aside0.mk ((by rw [hg]; exact Nat.ne_of_gt (blk_lt (g := gb273) (o := .cells #[.bool a2_0, .bool a2_1, .bool a2_2, .bool a2_3] 35 (0, 0)) (by (with_reducible repeat (first | refine blk_drewN ?_ _ | refine blk_drew ?_ | refine blk_alloc ?_ _)); refine blk_far ?_ NB273_280.out _; (with_reducible repeat (first | refine blk_drewN ?_ _ | refine blk_drew ?_ | refine blk_alloc ?_ _)); refine blk_far ?_ NB273_280.out _; (with_reducible repeat (first | refine blk_drewN ?_ _ | refine blk_drew ?_ | refine blk_alloc ?_ _)); refine blk_far ?_ NB273_280.out _; (with_reducible repeat (first | refine blk_drewN ?_ _ | refine blk_drew ?_ | refine blk_alloc ?_ _)); refine blk_far ?_ NB273_280.out _; (with_reducible repeat (first | refine blk_drewN ?_ _ | refine blk_drew ?_ | refine blk_alloc ?_ _)); exact BK273.out)) : gb283 ≠ gb273)); have n14_ := Aside0.mk ((by rw [hg]; exact Nat.ne_of_lt (blk_lt (g := gb280) (o := .cells #[.bool t275, .bool t276, .bool t277, .bool t278] 35 (0, 0)) (by (with_reducible repeat (first | refine blk_drewN ?_ _ | refine blk_drew ?_ | refine blk_alloc ?_ _)); refine blk_put (cs := #[.bool t275, .bool t276, .bool t277, .bool false]) ?_ 3 _ rfl; (with_reducible repeat (first | refine blk_drewN ?_ _ | refine blk_drew ?_ | refine blk_alloc ?_ _)); refine blk_put (cs := #[.bool t275, .bool t276, .bool false, .bool false]) ?_ 2 _ rfl; (with_reducible repeat (first | refine blk_drewN ?_ _ | refine blk_drew ?_ | refine blk_alloc ?_ _)); refine blk_put (cs := #[.bool t275, .bool false, .bool false, .bool false]) ?_ 1 _ rfl; (with_reducible repeat (first | refine blk_drewN ?_ _ | refine blk_drew ?_ | refine blk_alloc ?_ _)); refine blk_put (cs := #[.bool false, .bool false, .bool false, .bool false]) ?_ 0 _ rfl; (with_reducible repeat (first | refine blk_drewN ?_ _ | refine blk_drew ?_ | refine blk_alloc ?_ _)); exact BK280.out)) : gb280 ≠ gb283)); have n15_ := Aside0.mk ((by rw [hg]; exact Nat.ne_of_gt (blk_lt (g := gb280) (o := .cells #[.bool t275, .bool t276, .bool t277, .bool t278] 35 (0, 0)) (by (with_reducible repeat (first | refine blk_drewN ?_ _ | refine blk_drew ?_ | refine blk_alloc ?_ _)); refine blk_put (cs := #[.bool t275, .bool t276, .bool t277, .bool false]) ?_ 3 _ rfl; (with_reducible repeat (first | refine blk_drewN ?_ _ | refine blk_drew ?_ | refine blk_alloc ?_ _)); refine blk_put (cs := #[.bool t275, .bool t276, .bool false, .bool false]) ?_ 2 _ rfl; (with_reducible repeat (first | refine blk_drewN ?_ _ | refine blk_drew ?_ | refine blk_alloc ?_ _)); refine blk_put (cs := #[.bool t275, .bool false, .bool false, .bool false]) ?_ 1 _ rfl; (with_reducible repeat (first | refine blk_drewN ?_ _ | refine blk_drew ?_ | refine blk_alloc ?_ _)); refine blk_put (cs := #[.bool false, .bool false, .bool false, .bool false]) ?_ 0 _ rfl; (with_reducible repeat (first | refine blk_drewN ?_ _ | refine blk_drew ?_ | refine blk_alloc ?_ _)); exact BK280.out)) : gb283 ≠ gb280)); clear BK271; clear BK272; clear BK273; clear BK280; clear HB; have BK271 := n0_; have BK272 := n1_; have BK273 := n2_; have BK280 := n3_; have HB := n4_; have BK283 := n5_; have GW283 := n6_; have GE283 := n7_; have NB271_283 := n8_; have NB283_271 := n9_; have NB272_283 := n10_; have NB283_272 := n11_; have NB273_283 := n12_; have NB283_273 := n13_; have NB280_283 := n14_; have NB283_280 := n15_; clear n0_ n1_ n2_ n3_ n4_ n5_ n6_ n7_ n8_ n9_ n10_ n11_ n12_ n13_ n14_ n15_; clear hb hbox hg; have hnb24 := NB283_271.out; have hnc24 := NB271_283.out; have hnb25 := NB283_272.out; have hnc25 := NB272_283.out; have hnb26 := NB283_273.out; have hnc26 := NB273_283.out; have hnb27 := NB283_280.out; have hnc27 := NB280_283.out; obtain ⟨hcz28_0, hcz28_1, hcz28_2, hcz28_3, hcz28_4, hcz28_5, hcz28_6, hcz28_7, hcz28_8, hcz28_9⟩ := cells10_ BK283.out; have hfz28_0 := fun j => blk_frozen BK283.out j; obtain ⟨hcz29_0, hcz29_1, hcz29_2, hcz29_3, hcz29_4, hcz29_5, hcz29_6, hcz29_7, hcz29_8, hcz29_9⟩ := cells10_ BK271.out; have hfz29_0 := fun j => blk_frozen BK271.out j))
  (try simp only [Act.put, List.setIfInBounds_toArray, List.set_cons_zero, List.set_cons_succ])
  go_cut [] (fun wc => ∃ (kq : Nat) (x284000_5 : Int), Aside0 (cleatlaw06_AluFlags.j2 kq t274 a0_0 a0_1 a0_2 a0_3 a0_4 a0_5 a0_6 a0_7 a0_8 a0_9 a1_0 a1_1 a1_2 a1_3 a2_0 a2_1 a2_2 a2_3 t275 t276 t277 t278 x284000_5 a0_1 a0_2 a0_3 a0_4 a0_5 a0_6 a0_7 a0_8 a0_9 = some r) ∧ Aside0 (kq ≤ k) ∧ Aside0 (wc.heap[gb271]? = some (.cells #[.int .i64 a0_0, .int .i64 a0_1, .int .i64 a0_2, .int .i64 a0_3, .int .i64 a0_4, .int .i64 a0_5, .int .u64 a0_6, .int .i64 a0_7, .int .i64 a0_8, .int .i64 a0_9] 25 (0, 0))) ∧ Aside0 (wc.heap[gb272]? = some (.cells #[.int .u64 a1_0, .int .u64 a1_1, .int .u64 a1_2, .int .u64 a1_3] 29 (0, 0))) ∧ Aside0 (wc.heap[gb273]? = some (.cells #[.bool a2_0, .bool a2_1, .bool a2_2, .bool a2_3] 35 (0, 0))) ∧ Aside0 (wc.heap[gb280]? = some (.cells #[.bool t275, .bool t276, .bool t277, .bool t278] 35 (0, 0))) ∧ Aside0 (wc.heap[gb283]? = some (.cells #[.int .i64 x284000_5, .int .i64 a0_1, .int .i64 a0_2, .int .i64 a0_3, .int .i64 a0_4, .int .i64 a0_5, .int .u64 a0_6, .int .i64 a0_7, .int .i64 a0_8, .int .i64 a0_9] 25 (0, 0))) ∧ Aside0 (Below w.heap.size w wc))
  case first =>
   have H := HC6.out
   clear HC6
   have HC30 := Aside0.mk H
   clear H
   go_upto_if 49 with (fail)
   go_cut [49] (fun v49 wc => ∃ (kq : Nat) (x49_29 : Bool), v49 = .bool x49_29 ∧ Aside0 (cleatlaw06_AluFlags.j0 kq t274 a0_0 x49_29 a0_0 a0_1 a0_2 a0_3 a0_4 a0_5 a0_6 a0_7 a0_8 a0_9 a1_0 a1_1 a1_2 a1_3 a2_0 a2_1 a2_2 a2_3 t275 t276 t277 t278 a0_0 a0_1 a0_2 a0_3 a0_4 a0_5 a0_6 a0_7 a0_8 a0_9 = some r) ∧ Aside0 (kq ≤ k) ∧ Aside0 (wc.heap[gb271]? = some (.cells #[.int .i64 a0_0, .int .i64 a0_1, .int .i64 a0_2, .int .i64 a0_3, .int .i64 a0_4, .int .i64 a0_5, .int .u64 a0_6, .int .i64 a0_7, .int .i64 a0_8, .int .i64 a0_9] 25 (0, 0))) ∧ Aside0 (wc.heap[gb272]? = some (.cells #[.int .u64 a1_0, .int .u64 a1_1, .int .u64 a1_2, .int .u64 a1_3] 29 (0, 0))) ∧ Aside0 (wc.heap[gb273]? = some (.cells #[.bool a2_0, .bool a2_1, .bool a2_2, .bool a2_3] 35 (0, 0))) ∧ Aside0 (wc.heap[gb280]? = some (.cells #[.bool t275, .bool t276, .bool t277, .bool t278] 35 (0, 0))) ∧ Aside0 (wc.heap[gb283]? = some (.cells #[.int .i64 a0_0, .int .i64 a0_1, .int .i64 a0_2, .int .i64 a0_3, .int .i64 a0_4, .int .i64 a0_5, .int .u64 a0_6, .int .i64 a0_7, .int .i64 a0_8, .int .i64 a0_9] 25 (0, 0))) ∧ Aside0 (Below w.heap.size w wc))
   case first =>
    have H := HC30.out
    clear HC30
    by_cases c31 : a0_0 = 6
    ·
     rw [if_pos c31] at H
     have c31b0 : (a0_0 == 6) = true := beq_iff_eq.mpr c31
     have c31b1 : (a0_0 != 6) = false := bne_eq_false_iff_eq.mpr c31
     clear c31
     (first | rw [c31b0] | (simp only [i64_w, i32_w]; rw [c31b0]) | skip)
     have H' := Aside0.mk H
     clear H
     go_wp2
     go_meet
     case rel => exact ⟨_, ((a0_0 == 6)), (by first | rfl | (simp; done) | (simp [*]; done)), H', ⟨by first | omega | exact Nat.le_refl _⟩, ⟨by (with_reducible repeat (first | refine blk_drewN ?_ _ | refine blk_drew ?_ | refine blk_alloc ?_ _)); refine blk_far ?_ NB271_283.out _; (with_reducible repeat (first | refine blk_drewN ?_ _ | refine blk_drew ?_ | refine blk_alloc ?_ _)); refine blk_far ?_ NB271_283.out _; (with_reducible repeat (first | refine blk_drewN ?_ _ | refine blk_drew ?_ | refine blk_alloc ?_ _)); refine blk_far ?_ NB271_283.out _; (with_reducible repeat (first | refine blk_drewN ?_ _ | refine blk_drew ?_ | refine blk_alloc ?_ _)); refine blk_far ?_ NB271_283.out _; (with_reducible repeat (first | refine blk_drewN ?_ _ | refine blk_drew ?_ | refine blk_alloc ?_ _)); refine blk_far ?_ NB271_283.out _; (with_reducible repeat (first | refine blk_drewN ?_ _ | refine blk_drew ?_ | refine blk_alloc ?_ _)); refine blk_far ?_ NB271_283.out _; (with_reducible repeat (first | refine blk_drewN ?_ _ | refine blk_drew ?_ | refine blk_alloc ?_ _)); refine blk_far ?_ NB271_283.out _; (with_reducible repeat (first | refine blk_drewN ?_ _ | refine blk_drew ?_ | refine blk_alloc ?_ _)); refine blk_far ?_ NB271_283.out _; (with_reducible repeat (first | refine blk_drewN ?_ _ | refine blk_drew ?_ | refine blk_alloc ?_ _)); refine blk_far ?_ NB271_283.out _; (with_reducible repeat (first | refine blk_drewN ?_ _ | refine blk_drew ?_ | refine blk_alloc ?_ _)); refine blk_far ?_ NB271_283.out _; (with_reducible repeat (first | refine blk_drewN ?_ _ | refine blk_drew ?_ | refine blk_alloc ?_ _)); exact BK271.out⟩, ⟨by (with_reducible repeat (first | refine blk_drewN ?_ _ | refine blk_drew ?_ | refine blk_alloc ?_ _)); refine blk_far ?_ NB272_283.out _; (with_reducible repeat (first | refine blk_drewN ?_ _ | refine blk_drew ?_ | refine blk_alloc ?_ _)); refine blk_far ?_ NB272_283.out _; (with_reducible repeat (first | refine blk_drewN ?_ _ | refine blk_drew ?_ | refine blk_alloc ?_ _)); refine blk_far ?_ NB272_283.out _; (with_reducible repeat (first | refine blk_drewN ?_ _ | refine blk_drew ?_ | refine blk_alloc ?_ _)); refine blk_far ?_ NB272_283.out _; (with_reducible repeat (first | refine blk_drewN ?_ _ | refine blk_drew ?_ | refine blk_alloc ?_ _)); refine blk_far ?_ NB272_283.out _; (with_reducible repeat (first | refine blk_drewN ?_ _ | refine blk_drew ?_ | refine blk_alloc ?_ _)); refine blk_far ?_ NB272_283.out _; (with_reducible repeat (first | refine blk_drewN ?_ _ | refine blk_drew ?_ | refine blk_alloc ?_ _)); refine blk_far ?_ NB272_283.out _; (with_reducible repeat (first | refine blk_drewN ?_ _ | refine blk_drew ?_ | refine blk_alloc ?_ _)); refine blk_far ?_ NB272_283.out _; (with_reducible repeat (first | refine blk_drewN ?_ _ | refine blk_drew ?_ | refine blk_alloc ?_ _)); refine blk_far ?_ NB272_283.out _; (with_reducible repeat (first | refine blk_drewN ?_ _ | refine blk_drew ?_ | refine blk_alloc ?_ _)); refine blk_far ?_ NB272_283.out _; (with_reducible repeat (first | refine blk_drewN ?_ _ | refine blk_drew ?_ | refine blk_alloc ?_ _)); exact BK272.out⟩, ⟨by (with_reducible repeat (first | refine blk_drewN ?_ _ | refine blk_drew ?_ | refine blk_alloc ?_ _)); refine blk_far ?_ NB273_283.out _; (with_reducible repeat (first | refine blk_drewN ?_ _ | refine blk_drew ?_ | refine blk_alloc ?_ _)); refine blk_far ?_ NB273_283.out _; (with_reducible repeat (first | refine blk_drewN ?_ _ | refine blk_drew ?_ | refine blk_alloc ?_ _)); refine blk_far ?_ NB273_283.out _; (with_reducible repeat (first | refine blk_drewN ?_ _ | refine blk_drew ?_ | refine blk_alloc ?_ _)); refine blk_far ?_ NB273_283.out _; (with_reducible repeat (first | refine blk_drewN ?_ _ | refine blk_drew ?_ | refine blk_alloc ?_ _)); refine blk_far ?_ NB273_283.out _; (with_reducible repeat (first | refine blk_drewN ?_ _ | refine blk_drew ?_ | refine blk_alloc ?_ _)); refine blk_far ?_ NB273_283.out _; (with_reducible repeat (first | refine blk_drewN ?_ _ | refine blk_drew ?_ | refine blk_alloc ?_ _)); refine blk_far ?_ NB273_283.out _; (with_reducible repeat (first | refine blk_drewN ?_ _ | refine blk_drew ?_ | refine blk_alloc ?_ _)); refine blk_far ?_ NB273_283.out _; (with_reducible repeat (first | refine blk_drewN ?_ _ | refine blk_drew ?_ | refine blk_alloc ?_ _)); refine blk_far ?_ NB273_283.out _; (with_reducible repeat (first | refine blk_drewN ?_ _ | refine blk_drew ?_ | refine blk_alloc ?_ _)); refine blk_far ?_ NB273_283.out _; (with_reducible repeat (first | refine blk_drewN ?_ _ | refine blk_drew ?_ | refine blk_alloc ?_ _)); exact BK273.out⟩, ⟨by (with_reducible repeat (first | refine blk_drewN ?_ _ | refine blk_drew ?_ | refine blk_alloc ?_ _)); refine blk_far ?_ NB280_283.out _; (with_reducible repeat (first | refine blk_drewN ?_ _ | refine blk_drew ?_ | refine blk_alloc ?_ _)); refine blk_far ?_ NB280_283.out _; (with_reducible repeat (first | refine blk_drewN ?_ _ | refine blk_drew ?_ | refine blk_alloc ?_ _)); refine blk_far ?_ NB280_283.out _; (with_reducible repeat (first | refine blk_drewN ?_ _ | refine blk_drew ?_ | refine blk_alloc ?_ _)); refine blk_far ?_ NB280_283.out _; (with_reducible repeat (first | refine blk_drewN ?_ _ | refine blk_drew ?_ | refine blk_alloc ?_ _)); refine blk_far ?_ NB280_283.out _; (with_reducible repeat (first | refine blk_drewN ?_ _ | refine blk_drew ?_ | refine blk_alloc ?_ _)); refine blk_far ?_ NB280_283.out _; (with_reducible repeat (first | refine blk_drewN ?_ _ | refine blk_drew ?_ | refine blk_alloc ?_ _)); refine blk_far ?_ NB280_283.out _; (with_reducible repeat (first | refine blk_drewN ?_ _ | refine blk_drew ?_ | refine blk_alloc ?_ _)); refine blk_far ?_ NB280_283.out _; (with_reducible repeat (first | refine blk_drewN ?_ _ | refine blk_drew ?_ | refine blk_alloc ?_ _)); refine blk_far ?_ NB280_283.out _; (with_reducible repeat (first | refine blk_drewN ?_ _ | refine blk_drew ?_ | refine blk_alloc ?_ _)); refine blk_far ?_ NB280_283.out _; (with_reducible repeat (first | refine blk_drewN ?_ _ | refine blk_drew ?_ | refine blk_alloc ?_ _)); exact BK280.out⟩, ⟨by (with_reducible repeat (first | refine blk_drewN ?_ _ | refine blk_drew ?_ | refine blk_alloc ?_ _)); refine blk_put (cs := #[.int .i64 a0_0, .int .i64 a0_1, .int .i64 a0_2, .int .i64 a0_3, .int .i64 a0_4, .int .i64 a0_5, .int .u64 a0_6, .int .i64 a0_7, .int .i64 a0_8, .int .i64 0]) ?_ 9 _ rfl; (with_reducible repeat (first | refine blk_drewN ?_ _ | refine blk_drew ?_ | refine blk_alloc ?_ _)); refine blk_put (cs := #[.int .i64 a0_0, .int .i64 a0_1, .int .i64 a0_2, .int .i64 a0_3, .int .i64 a0_4, .int .i64 a0_5, .int .u64 a0_6, .int .i64 a0_7, .int .i64 0, .int .i64 0]) ?_ 8 _ rfl; (with_reducible repeat (first | refine blk_drewN ?_ _ | refine blk_drew ?_ | refine blk_alloc ?_ _)); refine blk_put (cs := #[.int .i64 a0_0, .int .i64 a0_1, .int .i64 a0_2, .int .i64 a0_3, .int .i64 a0_4, .int .i64 a0_5, .int .u64 a0_6, .int .i64 0, .int .i64 0, .int .i64 0]) ?_ 7 _ rfl; (with_reducible repeat (first | refine blk_drewN ?_ _ | refine blk_drew ?_ | refine blk_alloc ?_ _)); refine blk_put (cs := #[.int .i64 a0_0, .int .i64 a0_1, .int .i64 a0_2, .int .i64 a0_3, .int .i64 a0_4, .int .i64 a0_5, .int .u64 0, .int .i64 0, .int .i64 0, .int .i64 0]) ?_ 6 _ rfl; (with_reducible repeat (first | refine blk_drewN ?_ _ | refine blk_drew ?_ | refine blk_alloc ?_ _)); refine blk_put (cs := #[.int .i64 a0_0, .int .i64 a0_1, .int .i64 a0_2, .int .i64 a0_3, .int .i64 a0_4, .int .i64 0, .int .u64 0, .int .i64 0, .int .i64 0, .int .i64 0]) ?_ 5 _ rfl; (with_reducible repeat (first | refine blk_drewN ?_ _ | refine blk_drew ?_ | refine blk_alloc ?_ _)); refine blk_put (cs := #[.int .i64 a0_0, .int .i64 a0_1, .int .i64 a0_2, .int .i64 a0_3, .int .i64 0, .int .i64 0, .int .u64 0, .int .i64 0, .int .i64 0, .int .i64 0]) ?_ 4 _ rfl; (with_reducible repeat (first | refine blk_drewN ?_ _ | refine blk_drew ?_ | refine blk_alloc ?_ _)); refine blk_put (cs := #[.int .i64 a0_0, .int .i64 a0_1, .int .i64 a0_2, .int .i64 0, .int .i64 0, .int .i64 0, .int .u64 0, .int .i64 0, .int .i64 0, .int .i64 0]) ?_ 3 _ rfl; (with_reducible repeat (first | refine blk_drewN ?_ _ | refine blk_drew ?_ | refine blk_alloc ?_ _)); refine blk_put (cs := #[.int .i64 a0_0, .int .i64 a0_1, .int .i64 0, .int .i64 0, .int .i64 0, .int .i64 0, .int .u64 0, .int .i64 0, .int .i64 0, .int .i64 0]) ?_ 2 _ rfl; (with_reducible repeat (first | refine blk_drewN ?_ _ | refine blk_drew ?_ | refine blk_alloc ?_ _)); refine blk_put (cs := #[.int .i64 a0_0, .int .i64 0, .int .i64 0, .int .i64 0, .int .i64 0, .int .i64 0, .int .u64 0, .int .i64 0, .int .i64 0, .int .i64 0]) ?_ 1 _ rfl; (with_reducible repeat (first | refine blk_drewN ?_ _ | refine blk_drew ?_ | refine blk_alloc ?_ _)); refine blk_put (cs := #[.int .i64 0, .int .i64 0, .int .i64 0, .int .i64 0, .int .i64 0, .int .i64 0, .int .u64 0, .int .i64 0, .int .i64 0, .int .i64 0]) ?_ 0 _ rfl; (with_reducible repeat (first | refine blk_drewN ?_ _ | refine blk_drew ?_ | refine blk_alloc ?_ _)); exact BK283.out⟩, ⟨by repeat (first | (with_reducible first | exact HB.out | apply below_alloc | apply pw_below_drewN | apply below_drew1 | refine below_set ?_ GE271.out | refine below_set ?_ GE272.out | refine below_set ?_ GE273.out | refine below_set ?_ GE280.out | refine below_set ?_ GE283.out) | exact HB.out)⟩⟩
    ·
     rw [if_neg c31] at H
     have c31b0 : (a0_0 == 6) = false := beq_eq_false_iff_ne.mpr c31
     have c31b1 : (a0_0 != 6) = true := bne_iff_ne.mpr c31
     (first | rw [c31b0] | (simp only [i64_w, i32_w]; rw [c31b0]) | skip)
     have H' := Aside0.mk H
     clear H
     go_wp2
     go_meet
     case rel => exact ⟨_, ((a0_0 == 7)), (by first | rfl | (simp; done) | (simp [*]; done)), H', ⟨by first | omega | exact Nat.le_refl _⟩, ⟨by (with_reducible repeat (first | refine blk_drewN ?_ _ | refine blk_drew ?_ | refine blk_alloc ?_ _)); refine blk_far ?_ NB271_283.out _; (with_reducible repeat (first | refine blk_drewN ?_ _ | refine blk_drew ?_ | refine blk_alloc ?_ _)); refine blk_far ?_ NB271_283.out _; (with_reducible repeat (first | refine blk_drewN ?_ _ | refine blk_drew ?_ | refine blk_alloc ?_ _)); refine blk_far ?_ NB271_283.out _; (with_reducible repeat (first | refine blk_drewN ?_ _ | refine blk_drew ?_ | refine blk_alloc ?_ _)); refine blk_far ?_ NB271_283.out _; (with_reducible repeat (first | refine blk_drewN ?_ _ | refine blk_drew ?_ | refine blk_alloc ?_ _)); refine blk_far ?_ NB271_283.out _; (with_reducible repeat (first | refine blk_drewN ?_ _ | refine blk_drew ?_ | refine blk_alloc ?_ _)); refine blk_far ?_ NB271_283.out _; (with_reducible repeat (first | refine blk_drewN ?_ _ | refine blk_drew ?_ | refine blk_alloc ?_ _)); refine blk_far ?_ NB271_283.out _; (with_reducible repeat (first | refine blk_drewN ?_ _ | refine blk_drew ?_ | refine blk_alloc ?_ _)); refine blk_far ?_ NB271_283.out _; (with_reducible repeat (first | refine blk_drewN ?_ _ | refine blk_drew ?_ | refine blk_alloc ?_ _)); refine blk_far ?_ NB271_283.out _; (with_reducible repeat (first | refine blk_drewN ?_ _ | refine blk_drew ?_ | refine blk_alloc ?_ _)); refine blk_far ?_ NB271_283.out _; (with_reducible repeat (first | refine blk_drewN ?_ _ | refine blk_drew ?_ | refine blk_alloc ?_ _)); exact BK271.out⟩, ⟨by (with_reducible repeat (first | refine blk_drewN ?_ _ | refine blk_drew ?_ | refine blk_alloc ?_ _)); refine blk_far ?_ NB272_283.out _; (with_reducible repeat (first | refine blk_drewN ?_ _ | refine blk_drew ?_ | refine blk_alloc ?_ _)); refine blk_far ?_ NB272_283.out _; (with_reducible repeat (first | refine blk_drewN ?_ _ | refine blk_drew ?_ | refine blk_alloc ?_ _)); refine blk_far ?_ NB272_283.out _; (with_reducible repeat (first | refine blk_drewN ?_ _ | refine blk_drew ?_ | refine blk_alloc ?_ _)); refine blk_far ?_ NB272_283.out _; (with_reducible repeat (first | refine blk_drewN ?_ _ | refine blk_drew ?_ | refine blk_alloc ?_ _)); refine blk_far ?_ NB272_283.out _; (with_reducible repeat (first | refine blk_drewN ?_ _ | refine blk_drew ?_ | refine blk_alloc ?_ _)); refine blk_far ?_ NB272_283.out _; (with_reducible repeat (first | refine blk_drewN ?_ _ | refine blk_drew ?_ | refine blk_alloc ?_ _)); refine blk_far ?_ NB272_283.out _; (with_reducible repeat (first | refine blk_drewN ?_ _ | refine blk_drew ?_ | refine blk_alloc ?_ _)); refine blk_far ?_ NB272_283.out _; (with_reducible repeat (first | refine blk_drewN ?_ _ | refine blk_drew ?_ | refine blk_alloc ?_ _)); refine blk_far ?_ NB272_283.out _; (with_reducible repeat (first | refine blk_drewN ?_ _ | refine blk_drew ?_ | refine blk_alloc ?_ _)); refine blk_far ?_ NB272_283.out _; (with_reducible repeat (first | refine blk_drewN ?_ _ | refine blk_drew ?_ | refine blk_alloc ?_ _)); exact BK272.out⟩, ⟨by (with_reducible repeat (first | refine blk_drewN ?_ _ | refine blk_drew ?_ | refine blk_alloc ?_ _)); refine blk_far ?_ NB273_283.out _; (with_reducible repeat (first | refine blk_drewN ?_ _ | refine blk_drew ?_ | refine blk_alloc ?_ _)); refine blk_far ?_ NB273_283.out _; (with_reducible repeat (first | refine blk_drewN ?_ _ | refine blk_drew ?_ | refine blk_alloc ?_ _)); refine blk_far ?_ NB273_283.out _; (with_reducible repeat (first | refine blk_drewN ?_ _ | refine blk_drew ?_ | refine blk_alloc ?_ _)); refine blk_far ?_ NB273_283.out _; (with_reducible repeat (first | refine blk_drewN ?_ _ | refine blk_drew ?_ | refine blk_alloc ?_ _)); refine blk_far ?_ NB273_283.out _; (with_reducible repeat (first | refine blk_drewN ?_ _ | refine blk_drew ?_ | refine blk_alloc ?_ _)); refine blk_far ?_ NB273_283.out _; (with_reducible repeat (first | refine blk_drewN ?_ _ | refine blk_drew ?_ | refine blk_alloc ?_ _)); refine blk_far ?_ NB273_283.out _; (with_reducible repeat (first | refine blk_drewN ?_ _ | refine blk_drew ?_ | refine blk_alloc ?_ _)); refine blk_far ?_ NB273_283.out _; (with_reducible repeat (first | refine blk_drewN ?_ _ | refine blk_drew ?_ | refine blk_alloc ?_ _)); refine blk_far ?_ NB273_283.out _; (with_reducible repeat (first | refine blk_drewN ?_ _ | refine blk_drew ?_ | refine blk_alloc ?_ _)); refine blk_far ?_ NB273_283.out _; (with_reducible repeat (first | refine blk_drewN ?_ _ | refine blk_drew ?_ | refine blk_alloc ?_ _)); exact BK273.out⟩, ⟨by (with_reducible repeat (first | refine blk_drewN ?_ _ | refine blk_drew ?_ | refine blk_alloc ?_ _)); refine blk_far ?_ NB280_283.out _; (with_reducible repeat (first | refine blk_drewN ?_ _ | refine blk_drew ?_ | refine blk_alloc ?_ _)); refine blk_far ?_ NB280_283.out _; (with_reducible repeat (first | refine blk_drewN ?_ _ | refine blk_drew ?_ | refine blk_alloc ?_ _)); refine blk_far ?_ NB280_283.out _; (with_reducible repeat (first | refine blk_drewN ?_ _ | refine blk_drew ?_ | refine blk_alloc ?_ _)); refine blk_far ?_ NB280_283.out _; (with_reducible repeat (first | refine blk_drewN ?_ _ | refine blk_drew ?_ | refine blk_alloc ?_ _)); refine blk_far ?_ NB280_283.out _; (with_reducible repeat (first | refine blk_drewN ?_ _ | refine blk_drew ?_ | refine blk_alloc ?_ _)); refine blk_far ?_ NB280_283.out _; (with_reducible repeat (first | refine blk_drewN ?_ _ | refine blk_drew ?_ | refine blk_alloc ?_ _)); refine blk_far ?_ NB280_283.out _; (with_reducible repeat (first | refine blk_drewN ?_ _ | refine blk_drew ?_ | refine blk_alloc ?_ _)); refine blk_far ?_ NB280_283.out _; (with_reducible repeat (first | refine blk_drewN ?_ _ | refine blk_drew ?_ | refine blk_alloc ?_ _)); refine blk_far ?_ NB280_283.out _; (with_reducible repeat (first | refine blk_drewN ?_ _ | refine blk_drew ?_ | refine blk_alloc ?_ _)); refine blk_far ?_ NB280_283.out _; (with_reducible repeat (first | refine blk_drewN ?_ _ | refine blk_drew ?_ | refine blk_alloc ?_ _)); exact BK280.out⟩, ⟨by (with_reducible repeat (first | refine blk_drewN ?_ _ | refine blk_drew ?_ | refine blk_alloc ?_ _)); refine blk_put (cs := #[.int .i64 a0_0, .int .i64 a0_1, .int .i64 a0_2, .int .i64 a0_3, .int .i64 a0_4, .int .i64 a0_5, .int .u64 a0_6, .int .i64 a0_7, .int .i64 a0_8, .int .i64 0]) ?_ 9 _ rfl; (with_reducible repeat (first | refine blk_drewN ?_ _ | refine blk_drew ?_ | refine blk_alloc ?_ _)); refine blk_put (cs := #[.int .i64 a0_0, .int .i64 a0_1, .int .i64 a0_2, .int .i64 a0_3, .int .i64 a0_4, .int .i64 a0_5, .int .u64 a0_6, .int .i64 a0_7, .int .i64 0, .int .i64 0]) ?_ 8 _ rfl; (with_reducible repeat (first | refine blk_drewN ?_ _ | refine blk_drew ?_ | refine blk_alloc ?_ _)); refine blk_put (cs := #[.int .i64 a0_0, .int .i64 a0_1, .int .i64 a0_2, .int .i64 a0_3, .int .i64 a0_4, .int .i64 a0_5, .int .u64 a0_6, .int .i64 0, .int .i64 0, .int .i64 0]) ?_ 7 _ rfl; (with_reducible repeat (first | refine blk_drewN ?_ _ | refine blk_drew ?_ | refine blk_alloc ?_ _)); refine blk_put (cs := #[.int .i64 a0_0, .int .i64 a0_1, .int .i64 a0_2, .int .i64 a0_3, .int .i64 a0_4, .int .i64 a0_5, .int .u64 0, .int .i64 0, .int .i64 0, .int .i64 0]) ?_ 6 _ rfl; (with_reducible repeat (first | refine blk_drewN ?_ _ | refine blk_drew ?_ | refine blk_alloc ?_ _)); refine blk_put (cs := #[.int .i64 a0_0, .int .i64 a0_1, .int .i64 a0_2, .int .i64 a0_3, .int .i64 a0_4, .int .i64 0, .int .u64 0, .int .i64 0, .int .i64 0, .int .i64 0]) ?_ 5 _ rfl; (with_reducible repeat (first | refine blk_drewN ?_ _ | refine blk_drew ?_ | refine blk_alloc ?_ _)); refine blk_put (cs := #[.int .i64 a0_0, .int .i64 a0_1, .int .i64 a0_2, .int .i64 a0_3, .int .i64 0, .int .i64 0, .int .u64 0, .int .i64 0, .int .i64 0, .int .i64 0]) ?_ 4 _ rfl; (with_reducible repeat (first | refine blk_drewN ?_ _ | refine blk_drew ?_ | refine blk_alloc ?_ _)); refine blk_put (cs := #[.int .i64 a0_0, .int .i64 a0_1, .int .i64 a0_2, .int .i64 0, .int .i64 0, .int .i64 0, .int .u64 0, .int .i64 0, .int .i64 0, .int .i64 0]) ?_ 3 _ rfl; (with_reducible repeat (first | refine blk_drewN ?_ _ | refine blk_drew ?_ | refine blk_alloc ?_ _)); refine blk_put (cs := #[.int .i64 a0_0, .int .i64 a0_1, .int .i64 0, .int .i64 0, .int .i64 0, .int .i64 0, .int .u64 0, .int .i64 0, .int .i64 0, .int .i64 0]) ?_ 2 _ rfl; (with_reducible repeat (first | refine blk_drewN ?_ _ | refine blk_drew ?_ | refine blk_alloc ?_ _)); refine blk_put (cs := #[.int .i64 a0_0, .int .i64 0, .int .i64 0, .int .i64 0, .int .i64 0, .int .i64 0, .int .u64 0, .int .i64 0, .int .i64 0, .int .i64 0]) ?_ 1 _ rfl; (with_reducible repeat (first | refine blk_drewN ?_ _ | refine blk_drew ?_ | refine blk_alloc ?_ _)); refine blk_put (cs := #[.int .i64 0, .int .i64 0, .int .i64 0, .int .i64 0, .int .i64 0, .int .i64 0, .int .u64 0, .int .i64 0, .int .i64 0, .int .i64 0]) ?_ 0 _ rfl; (with_reducible repeat (first | refine blk_drewN ?_ _ | refine blk_drew ?_ | refine blk_alloc ?_ _)); exact BK283.out⟩, ⟨by repeat (first | (with_reducible first | exact HB.out | apply below_alloc | apply pw_below_drewN | apply below_drew1 | refine below_set ?_ GE271.out | refine below_set ?_ GE272.out | refine below_set ?_ GE273.out | refine below_set ?_ GE280.out | refine below_set ?_ GE283.out) | exact HB.out)⟩⟩
   case rest =>
    clear HC30
    try clear c1
    try clear c2
    try clear p2
    try clear c3
    try clear c4
    try clear c5
    try clear c5b0
    try clear c5b1
    try clear c10
    try clear c11
    try clear c13
    try clear c18
    try clear c19
    try clear c20
    try clear c24
    try clear c25
    try clear c26
    try clear c27
    try clear c31
    try clear c31b0
    try clear c31b1
    try clear hcz12_0 hcz12_1 hcz12_2 hcz12_3 hcz12_4 hcz12_5 hcz12_6 hcz12_7 hcz12_8 hcz12_9
    try clear hcz14_0 hcz14_1 hcz14_2 hcz14_3
    try clear hcz15_0 hcz15_1 hcz15_2 hcz15_3
    try clear hcz21_0 hcz21_1 hcz21_2 hcz21_3
    try clear hcz22_0 hcz22_1 hcz22_2 hcz22_3 hcz22_4 hcz22_5 hcz22_6 hcz22_7 hcz22_8 hcz22_9
    try clear hcz28_0 hcz28_1 hcz28_2 hcz28_3 hcz28_4 hcz28_5 hcz28_6 hcz28_7 hcz28_8 hcz28_9
    try clear hcz29_0 hcz29_1 hcz29_2 hcz29_3 hcz29_4 hcz29_5 hcz29_6 hcz29_7 hcz29_8 hcz29_9
    try clear hfz12_0
    try clear hfz14_0
    try clear hfz15_0
    try clear hfz21_0
    try clear hfz22_0
    try clear hfz28_0
    try clear hfz29_0
    obtain ⟨kq, x49_29, rfl, HA, HJ29, BK271, BK272, BK273, BK280, BK283, HB⟩ := hcut
    cases kq with
    | zero => exact absurd HA.out (by simp [cleatlaw06_AluFlags.j0])
    | succ kj29 =>
     have H := HA.out
     clear HA
     simp only [cleatlaw06_AluFlags.j0] at H
     by_cases c32 : x49_29 = true
     ·
      subst c32
      have H1 : (cleatlaw06_AluFlags.j2 kj29 t274 a0_0 a0_1 a0_2 a0_3 a0_4 a0_5 a0_6 a0_7 a0_8 a0_9 a1_0 a1_1 a1_2 a1_3 a2_0 a2_1 a2_2 a2_3 t275 t276 t277 t278 (wrap64 (a0_0 - 2)) a0_1 a0_2 a0_3 a0_4 a0_5 a0_6 a0_7 a0_8 a0_9) = some r := by rw [if_pos rfl] at H; exact H
      clear H
      have H := H1
      clear H1
      have H' := Aside0.mk H
      clear H
      have hnb33 := NB271_272.out
      have hnc33 := NB272_271.out
      have hnb34 := NB271_273.out
      have hnc34 := NB273_271.out
      have hnb35 := NB271_280.out
      have hnc35 := NB280_271.out
      have hnb36 := NB271_283.out
      have hnc36 := NB283_271.out
      have hcz37_0 : wc.cell? ⟨gb271, 0, none⟩ = some (.int .i64 a0_0) := (blk_cell BK271.out 0).trans rfl
      have hcz37_1 : wc.cell? ⟨gb271, 1, none⟩ = some (.int .i64 a0_1) := (blk_cell BK271.out 1).trans rfl
      have hcz37_2 : wc.cell? ⟨gb271, 2, none⟩ = some (.int .i64 a0_2) := (blk_cell BK271.out 2).trans rfl
      have hcz37_3 : wc.cell? ⟨gb271, 3, none⟩ = some (.int .i64 a0_3) := (blk_cell BK271.out 3).trans rfl
      have hcz37_4 : wc.cell? ⟨gb271, 4, none⟩ = some (.int .i64 a0_4) := (blk_cell BK271.out 4).trans rfl
      have hcz37_5 : wc.cell? ⟨gb271, 5, none⟩ = some (.int .i64 a0_5) := (blk_cell BK271.out 5).trans rfl
      have hcz37_6 : wc.cell? ⟨gb271, 6, none⟩ = some (.int .u64 a0_6) := (blk_cell BK271.out 6).trans rfl
      have hcz37_7 : wc.cell? ⟨gb271, 7, none⟩ = some (.int .i64 a0_7) := (blk_cell BK271.out 7).trans rfl
      have hcz37_8 : wc.cell? ⟨gb271, 8, none⟩ = some (.int .i64 a0_8) := (blk_cell BK271.out 8).trans rfl
      have hcz37_9 : wc.cell? ⟨gb271, 9, none⟩ = some (.int .i64 a0_9) := (blk_cell BK271.out 9).trans rfl
      have hfz37_0 := blk_frozen BK271.out 0
      have hfz37_1 := blk_frozen BK271.out 1
      have hfz37_2 := blk_frozen BK271.out 2
      have hfz37_3 := blk_frozen BK271.out 3
      have hfz37_4 := blk_frozen BK271.out 4
      have hfz37_5 := blk_frozen BK271.out 5
      have hfz37_6 := blk_frozen BK271.out 6
      have hfz37_7 := blk_frozen BK271.out 7
      have hfz37_8 := blk_frozen BK271.out 8
      have hfz37_9 := blk_frozen BK271.out 9
      have hnb38 := NB283_272.out
      have hnc38 := NB272_283.out
      have hnb39 := NB283_273.out
      have hnc39 := NB273_283.out
      have hnb40 := NB283_280.out
      have hnc40 := NB280_283.out
      have hcz41_0 : wc.cell? ⟨gb283, 0, none⟩ = some (.int .i64 a0_0) := (blk_cell BK283.out 0).trans rfl
      have hcz41_1 : wc.cell? ⟨gb283, 1, none⟩ = some (.int .i64 a0_1) := (blk_cell BK283.out 1).trans rfl
      have hcz41_2 : wc.cell? ⟨gb283, 2, none⟩ = some (.int .i64 a0_2) := (blk_cell BK283.out 2).trans rfl
      have hcz41_3 : wc.cell? ⟨gb283, 3, none⟩ = some (.int .i64 a0_3) := (blk_cell BK283.out 3).trans rfl
      have hcz41_4 : wc.cell? ⟨gb283, 4, none⟩ = some (.int .i64 a0_4) := (blk_cell BK283.out 4).trans rfl
      have hcz41_5 : wc.cell? ⟨gb283, 5, none⟩ = some (.int .i64 a0_5) := (blk_cell BK283.out 5).trans rfl
      have hcz41_6 : wc.cell? ⟨gb283, 6, none⟩ = some (.int .u64 a0_6) := (blk_cell BK283.out 6).trans rfl
      have hcz41_7 : wc.cell? ⟨gb283, 7, none⟩ = some (.int .i64 a0_7) := (blk_cell BK283.out 7).trans rfl
      have hcz41_8 : wc.cell? ⟨gb283, 8, none⟩ = some (.int .i64 a0_8) := (blk_cell BK283.out 8).trans rfl
      have hcz41_9 : wc.cell? ⟨gb283, 9, none⟩ = some (.int .i64 a0_9) := (blk_cell BK283.out 9).trans rfl
      have hfz41_0 := blk_frozen BK283.out 0
      have hfz41_1 := blk_frozen BK283.out 1
      have hfz41_2 := blk_frozen BK283.out 2
      have hfz41_3 := blk_frozen BK283.out 3
      have hfz41_4 := blk_frozen BK283.out 4
      have hfz41_5 := blk_frozen BK283.out 5
      have hfz41_6 := blk_frozen BK283.out 6
      have hfz41_7 := blk_frozen BK283.out 7
      have hfz41_8 := blk_frozen BK283.out 8
      have hfz41_9 := blk_frozen BK283.out 9
      go_wp2
      go_meet
      case rel => exact ⟨_, (wrap64 (a0_0 - 2)), H', ⟨by have := HJ29.out; first | omega | exact Nat.le_refl _⟩, ⟨by (with_reducible repeat (first | refine blk_drewN ?_ _ | refine blk_drew ?_ | refine blk_alloc ?_ _)); refine blk_far ?_ NB271_283.out _; (with_reducible repeat (first | refine blk_drewN ?_ _ | refine blk_drew ?_ | refine blk_alloc ?_ _)); exact BK271.out⟩, ⟨by (with_reducible repeat (first | refine blk_drewN ?_ _ | refine blk_drew ?_ | refine blk_alloc ?_ _)); refine blk_far ?_ NB272_283.out _; (with_reducible repeat (first | refine blk_drewN ?_ _ | refine blk_drew ?_ | refine blk_alloc ?_ _)); exact BK272.out⟩, ⟨by (with_reducible repeat (first | refine blk_drewN ?_ _ | refine blk_drew ?_ | refine blk_alloc ?_ _)); refine blk_far ?_ NB273_283.out _; (with_reducible repeat (first | refine blk_drewN ?_ _ | refine blk_drew ?_ | refine blk_alloc ?_ _)); exact BK273.out⟩, ⟨by (with_reducible repeat (first | refine blk_drewN ?_ _ | refine blk_drew ?_ | refine blk_alloc ?_ _)); refine blk_far ?_ NB280_283.out _; (with_reducible repeat (first | refine blk_drewN ?_ _ | refine blk_drew ?_ | refine blk_alloc ?_ _)); exact BK280.out⟩, ⟨by (with_reducible repeat (first | refine blk_drewN ?_ _ | refine blk_drew ?_ | refine blk_alloc ?_ _)); refine blk_put (cs := #[.int .i64 a0_0, .int .i64 a0_1, .int .i64 a0_2, .int .i64 a0_3, .int .i64 a0_4, .int .i64 a0_5, .int .u64 a0_6, .int .i64 a0_7, .int .i64 a0_8, .int .i64 a0_9]) ?_ 0 _ rfl; (with_reducible repeat (first | refine blk_drewN ?_ _ | refine blk_drew ?_ | refine blk_alloc ?_ _)); exact BK283.out⟩, ⟨by repeat (first | (with_reducible first | exact HB.out | apply below_alloc | apply pw_below_drewN | apply below_drew1 | refine below_set ?_ GE271.out | refine below_set ?_ GE272.out | refine below_set ?_ GE273.out | refine below_set ?_ GE280.out | refine below_set ?_ GE283.out) | exact HB.out)⟩⟩
     ·
      replace c32 := Bool.eq_false_iff.mpr c32
      subst c32
      have H1 : (if a0_0 = 11 then (cleatlaw06_AluFlags.j2 kj29 t274 a0_0 a0_1 a0_2 a0_3 a0_4 a0_5 a0_6 a0_7 a0_8 a0_9 a1_0 a1_1 a1_2 a1_3 a2_0 a2_1 a2_2 a2_3 t275 t276 t277 t278 8 a0_1 a0_2 a0_3 a0_4 a0_5 a0_6 a0_7 a0_8 a0_9) else (if a0_0 = 14 then (cleatlaw06_AluFlags.j1 kj29 t274 a0_0 (a0_0 == 14) a0_0 a0_1 a0_2 a0_3 a0_4 a0_5 a0_6 a0_7 a0_8 a0_9 a1_0 a1_1 a1_2 a1_3 a2_0 a2_1 a2_2 a2_3 t275 t276 t277 t278 a0_0 a0_1 a0_2 a0_3 a0_4 a0_5 a0_6 a0_7 a0_8 a0_9) else (cleatlaw06_AluFlags.j1 kj29 t274 a0_0 (a0_0 == 15) a0_0 a0_1 a0_2 a0_3 a0_4 a0_5 a0_6 a0_7 a0_8 a0_9 a1_0 a1_1 a1_2 a1_3 a2_0 a2_1 a2_2 a2_3 t275 t276 t277 t278 a0_0 a0_1 a0_2 a0_3 a0_4 a0_5 a0_6 a0_7 a0_8 a0_9))) = some r := by rw [if_neg (show ¬ (false = true) by decide)] at H; exact H
      clear H
      have H := H1
      clear H1
      by_cases c42 : a0_0 = 11
      ·
       rw [if_pos c42] at H
       have c42b0 : (a0_0 == 11) = true := beq_iff_eq.mpr c42
       have c42b1 : (a0_0 != 11) = false := bne_eq_false_iff_eq.mpr c42
       clear c42
       have H' := Aside0.mk H
       clear H
       have hnb43 := NB283_271.out
       have hnc43 := NB271_283.out
       have hnb44 := NB283_272.out
       have hnc44 := NB272_283.out
       have hnb45 := NB283_273.out
       have hnc45 := NB273_283.out
       have hnb46 := NB283_280.out
       have hnc46 := NB280_283.out
       have hcz47_0 : wc.cell? ⟨gb283, 0, none⟩ = some (.int .i64 a0_0) := (blk_cell BK283.out 0).trans rfl
       have hcz47_1 : wc.cell? ⟨gb283, 1, none⟩ = some (.int .i64 a0_1) := (blk_cell BK283.out 1).trans rfl
       have hcz47_2 : wc.cell? ⟨gb283, 2, none⟩ = some (.int .i64 a0_2) := (blk_cell BK283.out 2).trans rfl
       have hcz47_3 : wc.cell? ⟨gb283, 3, none⟩ = some (.int .i64 a0_3) := (blk_cell BK283.out 3).trans rfl
       have hcz47_4 : wc.cell? ⟨gb283, 4, none⟩ = some (.int .i64 a0_4) := (blk_cell BK283.out 4).trans rfl
       have hcz47_5 : wc.cell? ⟨gb283, 5, none⟩ = some (.int .i64 a0_5) := (blk_cell BK283.out 5).trans rfl
       have hcz47_6 : wc.cell? ⟨gb283, 6, none⟩ = some (.int .u64 a0_6) := (blk_cell BK283.out 6).trans rfl
       have hcz47_7 : wc.cell? ⟨gb283, 7, none⟩ = some (.int .i64 a0_7) := (blk_cell BK283.out 7).trans rfl
       have hcz47_8 : wc.cell? ⟨gb283, 8, none⟩ = some (.int .i64 a0_8) := (blk_cell BK283.out 8).trans rfl
       have hcz47_9 : wc.cell? ⟨gb283, 9, none⟩ = some (.int .i64 a0_9) := (blk_cell BK283.out 9).trans rfl
       have hfz47_0 := blk_frozen BK283.out 0
       have hfz47_1 := blk_frozen BK283.out 1
       have hfz47_2 := blk_frozen BK283.out 2
       have hfz47_3 := blk_frozen BK283.out 3
       have hfz47_4 := blk_frozen BK283.out 4
       have hfz47_5 := blk_frozen BK283.out 5
       have hfz47_6 := blk_frozen BK283.out 6
       have hfz47_7 := blk_frozen BK283.out 7
       have hfz47_8 := blk_frozen BK283.out 8
       have hfz47_9 := blk_frozen BK283.out 9
       go_wp2
       go_meet
       case rel => exact ⟨_, (8), H', ⟨by have := HJ29.out; first | omega | exact Nat.le_refl _⟩, ⟨by (with_reducible repeat (first | refine blk_drewN ?_ _ | refine blk_drew ?_ | refine blk_alloc ?_ _)); refine blk_far ?_ NB271_283.out _; (with_reducible repeat (first | refine blk_drewN ?_ _ | refine blk_drew ?_ | refine blk_alloc ?_ _)); exact BK271.out⟩, ⟨by (with_reducible repeat (first | refine blk_drewN ?_ _ | refine blk_drew ?_ | refine blk_alloc ?_ _)); refine blk_far ?_ NB272_283.out _; (with_reducible repeat (first | refine blk_drewN ?_ _ | refine blk_drew ?_ | refine blk_alloc ?_ _)); exact BK272.out⟩, ⟨by (with_reducible repeat (first | refine blk_drewN ?_ _ | refine blk_drew ?_ | refine blk_alloc ?_ _)); refine blk_far ?_ NB273_283.out _; (with_reducible repeat (first | refine blk_drewN ?_ _ | refine blk_drew ?_ | refine blk_alloc ?_ _)); exact BK273.out⟩, ⟨by (with_reducible repeat (first | refine blk_drewN ?_ _ | refine blk_drew ?_ | refine blk_alloc ?_ _)); refine blk_far ?_ NB280_283.out _; (with_reducible repeat (first | refine blk_drewN ?_ _ | refine blk_drew ?_ | refine blk_alloc ?_ _)); exact BK280.out⟩, ⟨by (with_reducible repeat (first | refine blk_drewN ?_ _ | refine blk_drew ?_ | refine blk_alloc ?_ _)); refine blk_put (cs := #[.int .i64 a0_0, .int .i64 a0_1, .int .i64 a0_2, .int .i64 a0_3, .int .i64 a0_4, .int .i64 a0_5, .int .u64 a0_6, .int .i64 a0_7, .int .i64 a0_8, .int .i64 a0_9]) ?_ 0 _ rfl; (with_reducible repeat (first | refine blk_drewN ?_ _ | refine blk_drew ?_ | refine blk_alloc ?_ _)); exact BK283.out⟩, ⟨by repeat (first | (with_reducible first | exact HB.out | apply below_alloc | apply pw_below_drewN | apply below_drew1 | refine below_set ?_ GE271.out | refine below_set ?_ GE272.out | refine below_set ?_ GE273.out | refine below_set ?_ GE280.out | refine below_set ?_ GE283.out) | exact HB.out)⟩⟩
      ·
       rw [if_neg c42] at H
       have c42b0 : (a0_0 == 11) = false := beq_eq_false_iff_ne.mpr c42
       have c42b1 : (a0_0 != 11) = true := bne_iff_ne.mpr c42
       have HC48 := Aside0.mk H
       clear H
       go_upto_if 59 with (fail)
       go_cut [59] (fun v59 wc => ∃ (kq : Nat) (x59_47 : Bool), v59 = .bool x59_47 ∧ Aside0 (cleatlaw06_AluFlags.j1 kq t274 a0_0 x59_47 a0_0 a0_1 a0_2 a0_3 a0_4 a0_5 a0_6 a0_7 a0_8 a0_9 a1_0 a1_1 a1_2 a1_3 a2_0 a2_1 a2_2 a2_3 t275 t276 t277 t278 a0_0 a0_1 a0_2 a0_3 a0_4 a0_5 a0_6 a0_7 a0_8 a0_9 = some r) ∧ Aside0 (kq ≤ kj29) ∧ Aside0 (wc.heap[gb271]? = some (.cells #[.int .i64 a0_0, .int .i64 a0_1, .int .i64 a0_2, .int .i64 a0_3, .int .i64 a0_4, .int .i64 a0_5, .int .u64 a0_6, .int .i64 a0_7, .int .i64 a0_8, .int .i64 a0_9] 25 (0, 0))) ∧ Aside0 (wc.heap[gb272]? = some (.cells #[.int .u64 a1_0, .int .u64 a1_1, .int .u64 a1_2, .int .u64 a1_3] 29 (0, 0))) ∧ Aside0 (wc.heap[gb273]? = some (.cells #[.bool a2_0, .bool a2_1, .bool a2_2, .bool a2_3] 35 (0, 0))) ∧ Aside0 (wc.heap[gb280]? = some (.cells #[.bool t275, .bool t276, .bool t277, .bool t278] 35 (0, 0))) ∧ Aside0 (wc.heap[gb283]? = some (.cells #[.int .i64 a0_0, .int .i64 a0_1, .int .i64 a0_2, .int .i64 a0_3, .int .i64 a0_4, .int .i64 a0_5, .int .u64 a0_6, .int .i64 a0_7, .int .i64 a0_8, .int .i64 a0_9] 25 (0, 0))) ∧ Aside0 (Below w.heap.size w wc))
       case first =>
        have H := HC48.out
        clear HC48
        by_cases c49 : a0_0 = 14
        ·
         rw [if_pos c49] at H
         have c49b0 : (a0_0 == 14) = true := beq_iff_eq.mpr c49
         have c49b1 : (a0_0 != 14) = false := bne_eq_false_iff_eq.mpr c49
         clear c49
         (first | rw [c49b0] | (simp only [i64_w, i32_w]; rw [c49b0]) | skip)
         have H' := Aside0.mk H
         clear H
         go_wp2
         go_meet
         case rel => exact ⟨_, ((a0_0 == 14)), (by first | rfl | (simp; done) | (simp [*]; done)), H', ⟨by have := HJ29.out; first | omega | exact Nat.le_refl _⟩, ⟨by (with_reducible repeat (first | refine blk_drewN ?_ _ | refine blk_drew ?_ | refine blk_alloc ?_ _)); exact BK271.out⟩, ⟨by (with_reducible repeat (first | refine blk_drewN ?_ _ | refine blk_drew ?_ | refine blk_alloc ?_ _)); exact BK272.out⟩, ⟨by (with_reducible repeat (first | refine blk_drewN ?_ _ | refine blk_drew ?_ | refine blk_alloc ?_ _)); exact BK273.out⟩, ⟨by (with_reducible repeat (first | refine blk_drewN ?_ _ | refine blk_drew ?_ | refine blk_alloc ?_ _)); exact BK280.out⟩, ⟨by (with_reducible repeat (first | refine blk_drewN ?_ _ | refine blk_drew ?_ | refine blk_alloc ?_ _)); exact BK283.out⟩, ⟨by repeat (first | (with_reducible first | exact HB.out | apply below_alloc | apply pw_below_drewN | apply below_drew1 | refine below_set ?_ GE271.out | refine below_set ?_ GE272.out | refine below_set ?_ GE273.out | refine below_set ?_ GE280.out | refine below_set ?_ GE283.out) | exact HB.out)⟩⟩
        ·
         rw [if_neg c49] at H
         have c49b0 : (a0_0 == 14) = false := beq_eq_false_iff_ne.mpr c49
         have c49b1 : (a0_0 != 14) = true := bne_iff_ne.mpr c49
         (first | rw [c49b0] | (simp only [i64_w, i32_w]; rw [c49b0]) | skip)
         have H' := Aside0.mk H
         clear H
         go_wp2
         go_meet
         case rel => exact ⟨_, ((a0_0 == 15)), (by first | rfl | (simp; done) | (simp [*]; done)), H', ⟨by have := HJ29.out; first | omega | exact Nat.le_refl _⟩, ⟨by (with_reducible repeat (first | refine blk_drewN ?_ _ | refine blk_drew ?_ | refine blk_alloc ?_ _)); exact BK271.out⟩, ⟨by (with_reducible repeat (first | refine blk_drewN ?_ _ | refine blk_drew ?_ | refine blk_alloc ?_ _)); exact BK272.out⟩, ⟨by (with_reducible repeat (first | refine blk_drewN ?_ _ | refine blk_drew ?_ | refine blk_alloc ?_ _)); exact BK273.out⟩, ⟨by (with_reducible repeat (first | refine blk_drewN ?_ _ | refine blk_drew ?_ | refine blk_alloc ?_ _)); exact BK280.out⟩, ⟨by (with_reducible repeat (first | refine blk_drewN ?_ _ | refine blk_drew ?_ | refine blk_alloc ?_ _)); exact BK283.out⟩, ⟨by repeat (first | (with_reducible first | exact HB.out | apply below_alloc | apply pw_below_drewN | apply below_drew1 | refine below_set ?_ GE271.out | refine below_set ?_ GE272.out | refine below_set ?_ GE273.out | refine below_set ?_ GE280.out | refine below_set ?_ GE283.out) | exact HB.out)⟩⟩
       case rest =>
        clear HC48
        try clear c1
        try clear c2
        try clear p2
        try clear c3
        try clear c4
        try clear c5
        try clear c5b0
        try clear c5b1
        try clear p6
        try clear c10
        try clear c11
        try clear c13
        try clear c18
        try clear c19
        try clear c20
        try clear c24
        try clear c25
        try clear c26
        try clear c27
        try clear c31
        try clear c31b0
        try clear c31b1
        try clear c32
        try clear c33
        try clear c34
        try clear c35
        try clear c36
        try clear c38
        try clear c39
        try clear c40
        try clear c42
        try clear c42b0
        try clear c42b1
        try clear c43
        try clear c44
        try clear c45
        try clear c46
        try clear c49
        try clear c49b0
        try clear c49b1
        try clear hcz12_0 hcz12_1 hcz12_2 hcz12_3 hcz12_4 hcz12_5 hcz12_6 hcz12_7 hcz12_8 hcz12_9
        try clear hcz14_0 hcz14_1 hcz14_2 hcz14_3
        try clear hcz15_0 hcz15_1 hcz15_2 hcz15_3
        try clear hcz21_0 hcz21_1 hcz21_2 hcz21_3
        try clear hcz22_0 hcz22_1 hcz22_2 hcz22_3 hcz22_4 hcz22_5 hcz22_6 hcz22_7 hcz22_8 hcz22_9
        try clear hcz28_0 hcz28_1 hcz28_2 hcz28_3 hcz28_4 hcz28_5 hcz28_6 hcz28_7 hcz28_8 hcz28_9
        try clear hcz29_0 hcz29_1 hcz29_2 hcz29_3 hcz29_4 hcz29_5 hcz29_6 hcz29_7 hcz29_8 hcz29_9
        try clear hcz37_0 hcz37_1 hcz37_2 hcz37_3 hcz37_4 hcz37_5 hcz37_6 hcz37_7 hcz37_8 hcz37_9
        try clear hcz41_0 hcz41_1 hcz41_2 hcz41_3 hcz41_4 hcz41_5 hcz41_6 hcz41_7 hcz41_8 hcz41_9
        try clear hcz47_0 hcz47_1 hcz47_2 hcz47_3 hcz47_4 hcz47_5 hcz47_6 hcz47_7 hcz47_8 hcz47_9
        try clear hfz12_0
        try clear hfz14_0
        try clear hfz15_0
        try clear hfz21_0
        try clear hfz22_0
        try clear hfz28_0
        try clear hfz29_0
        try clear hfz37_0
        try clear hfz41_0
        try clear hfz47_0
        try clear p2
        obtain ⟨kq, x59_47, rfl, HA, HJ47, BK271, BK272, BK273, BK280, BK283, HB⟩ := hcut
        cases kq with
        | zero => exact absurd HA.out (by simp [cleatlaw06_AluFlags.j1])
        | succ kj47 =>
         have H := HA.out
         clear HA
         simp only [cleatlaw06_AluFlags.j1] at H
         by_cases c50 : x59_47 = true
         ·
          subst c50
          have H1 : (cleatlaw06_AluFlags.j2 kj47 t274 a0_0 a0_1 a0_2 a0_3 a0_4 a0_5 a0_6 a0_7 a0_8 a0_9 a1_0 a1_1 a1_2 a1_3 a2_0 a2_1 a2_2 a2_3 t275 t276 t277 t278 (wrap64 (a0_0 - 2)) a0_1 a0_2 a0_3 a0_4 a0_5 a0_6 a0_7 a0_8 a0_9) = some r := by rw [if_pos rfl] at H; exact H
          clear H
          have H := H1
          clear H1
          have H' := Aside0.mk H
          clear H
          have hnb51 := NB271_272.out
          have hnc51 := NB272_271.out
          have hnb52 := NB271_273.out
          have hnc52 := NB273_271.out
          have hnb53 := NB271_280.out
          have hnc53 := NB280_271.out
          have hnb54 := NB271_283.out
          have hnc54 := NB283_271.out
          have hcz55_0 : wc.cell? ⟨gb271, 0, none⟩ = some (.int .i64 a0_0) := (blk_cell BK271.out 0).trans rfl
          have hcz55_1 : wc.cell? ⟨gb271, 1, none⟩ = some (.int .i64 a0_1) := (blk_cell BK271.out 1).trans rfl
          have hcz55_2 : wc.cell? ⟨gb271, 2, none⟩ = some (.int .i64 a0_2) := (blk_cell BK271.out 2).trans rfl
          have hcz55_3 : wc.cell? ⟨gb271, 3, none⟩ = some (.int .i64 a0_3) := (blk_cell BK271.out 3).trans rfl
          have hcz55_4 : wc.cell? ⟨gb271, 4, none⟩ = some (.int .i64 a0_4) := (blk_cell BK271.out 4).trans rfl
          have hcz55_5 : wc.cell? ⟨gb271, 5, none⟩ = some (.int .i64 a0_5) := (blk_cell BK271.out 5).trans rfl
          have hcz55_6 : wc.cell? ⟨gb271, 6, none⟩ = some (.int .u64 a0_6) := (blk_cell BK271.out 6).trans rfl
          have hcz55_7 : wc.cell? ⟨gb271, 7, none⟩ = some (.int .i64 a0_7) := (blk_cell BK271.out 7).trans rfl
          have hcz55_8 : wc.cell? ⟨gb271, 8, none⟩ = some (.int .i64 a0_8) := (blk_cell BK271.out 8).trans rfl
          have hcz55_9 : wc.cell? ⟨gb271, 9, none⟩ = some (.int .i64 a0_9) := (blk_cell BK271.out 9).trans rfl
          have hfz55_0 := blk_frozen BK271.out 0
          have hfz55_1 := blk_frozen BK271.out 1
          have hfz55_2 := blk_frozen BK271.out 2
          have hfz55_3 := blk_frozen BK271.out 3
          have hfz55_4 := blk_frozen BK271.out 4
          have hfz55_5 := blk_frozen BK271.out 5
          have hfz55_6 := blk_frozen BK271.out 6
          have hfz55_7 := blk_frozen BK271.out 7
          have hfz55_8 := blk_frozen BK271.out 8
          have hfz55_9 := blk_frozen BK271.out 9
          have hnb56 := NB283_272.out
          have hnc56 := NB272_283.out
          have hnb57 := NB283_273.out
          have hnc57 := NB273_283.out
          have hnb58 := NB283_280.out
          have hnc58 := NB280_283.out
          have hcz59_0 : wc.cell? ⟨gb283, 0, none⟩ = some (.int .i64 a0_0) := (blk_cell BK283.out 0).trans rfl
          have hcz59_1 : wc.cell? ⟨gb283, 1, none⟩ = some (.int .i64 a0_1) := (blk_cell BK283.out 1).trans rfl
          have hcz59_2 : wc.cell? ⟨gb283, 2, none⟩ = some (.int .i64 a0_2) := (blk_cell BK283.out 2).trans rfl
          have hcz59_3 : wc.cell? ⟨gb283, 3, none⟩ = some (.int .i64 a0_3) := (blk_cell BK283.out 3).trans rfl
          have hcz59_4 : wc.cell? ⟨gb283, 4, none⟩ = some (.int .i64 a0_4) := (blk_cell BK283.out 4).trans rfl
          have hcz59_5 : wc.cell? ⟨gb283, 5, none⟩ = some (.int .i64 a0_5) := (blk_cell BK283.out 5).trans rfl
          have hcz59_6 : wc.cell? ⟨gb283, 6, none⟩ = some (.int .u64 a0_6) := (blk_cell BK283.out 6).trans rfl
          have hcz59_7 : wc.cell? ⟨gb283, 7, none⟩ = some (.int .i64 a0_7) := (blk_cell BK283.out 7).trans rfl
          have hcz59_8 : wc.cell? ⟨gb283, 8, none⟩ = some (.int .i64 a0_8) := (blk_cell BK283.out 8).trans rfl
          have hcz59_9 : wc.cell? ⟨gb283, 9, none⟩ = some (.int .i64 a0_9) := (blk_cell BK283.out 9).trans rfl
          have hfz59_0 := blk_frozen BK283.out 0
          have hfz59_1 := blk_frozen BK283.out 1
          have hfz59_2 := blk_frozen BK283.out 2
          have hfz59_3 := blk_frozen BK283.out 3
          have hfz59_4 := blk_frozen BK283.out 4
          have hfz59_5 := blk_frozen BK283.out 5
          have hfz59_6 := blk_frozen BK283.out 6
          have hfz59_7 := blk_frozen BK283.out 7
          have hfz59_8 := blk_frozen BK283.out 8
          have hfz59_9 := blk_frozen BK283.out 9
          go_wp2
          go_meet
          case rel => exact ⟨_, (wrap64 (a0_0 - 2)), H', ⟨by have := HJ29.out; have := HJ47.out; first | omega | exact Nat.le_refl _⟩, ⟨by (with_reducible repeat (first | refine blk_drewN ?_ _ | refine blk_drew ?_ | refine blk_alloc ?_ _)); refine blk_far ?_ NB271_283.out _; (with_reducible repeat (first | refine blk_drewN ?_ _ | refine blk_drew ?_ | refine blk_alloc ?_ _)); exact BK271.out⟩, ⟨by (with_reducible repeat (first | refine blk_drewN ?_ _ | refine blk_drew ?_ | refine blk_alloc ?_ _)); refine blk_far ?_ NB272_283.out _; (with_reducible repeat (first | refine blk_drewN ?_ _ | refine blk_drew ?_ | refine blk_alloc ?_ _)); exact BK272.out⟩, ⟨by (with_reducible repeat (first | refine blk_drewN ?_ _ | refine blk_drew ?_ | refine blk_alloc ?_ _)); refine blk_far ?_ NB273_283.out _; (with_reducible repeat (first | refine blk_drewN ?_ _ | refine blk_drew ?_ | refine blk_alloc ?_ _)); exact BK273.out⟩, ⟨by (with_reducible repeat (first | refine blk_drewN ?_ _ | refine blk_drew ?_ | refine blk_alloc ?_ _)); refine blk_far ?_ NB280_283.out _; (with_reducible repeat (first | refine blk_drewN ?_ _ | refine blk_drew ?_ | refine blk_alloc ?_ _)); exact BK280.out⟩, ⟨by (with_reducible repeat (first | refine blk_drewN ?_ _ | refine blk_drew ?_ | refine blk_alloc ?_ _)); refine blk_put (cs := #[.int .i64 a0_0, .int .i64 a0_1, .int .i64 a0_2, .int .i64 a0_3, .int .i64 a0_4, .int .i64 a0_5, .int .u64 a0_6, .int .i64 a0_7, .int .i64 a0_8, .int .i64 a0_9]) ?_ 0 _ rfl; (with_reducible repeat (first | refine blk_drewN ?_ _ | refine blk_drew ?_ | refine blk_alloc ?_ _)); exact BK283.out⟩, ⟨by repeat (first | (with_reducible first | exact HB.out | apply below_alloc | apply pw_below_drewN | apply below_drew1 | refine below_set ?_ GE271.out | refine below_set ?_ GE272.out | refine below_set ?_ GE273.out | refine below_set ?_ GE280.out | refine below_set ?_ GE283.out) | exact HB.out)⟩⟩
         ·
          replace c50 := Bool.eq_false_iff.mpr c50
          subst c50
          have H1 : (if a0_0 = 19 then (cleatlaw06_AluFlags.j2 kj47 t274 a0_0 a0_1 a0_2 a0_3 a0_4 a0_5 a0_6 a0_7 a0_8 a0_9 a1_0 a1_1 a1_2 a1_3 a2_0 a2_1 a2_2 a2_3 t275 t276 t277 t278 16 a0_1 a0_2 a0_3 a0_4 a0_5 a0_6 a0_7 a0_8 a0_9) else ((cleatlaw06_done.f kj47).bind fun t284 => (if t284 = true then (some (t275 == a2_0 && (t276 == a2_1 && (t277 == a2_2 && (t278 == a2_3))))) else (none)))) = some r := by rw [if_neg (show ¬ (false = true) by decide)] at H; exact H
          clear H
          have H := H1
          clear H1
          by_cases c60 : a0_0 = 19
          ·
           rw [if_pos c60] at H
           have c60b0 : (a0_0 == 19) = true := beq_iff_eq.mpr c60
           have c60b1 : (a0_0 != 19) = false := bne_eq_false_iff_eq.mpr c60
           clear c60
           have H' := Aside0.mk H
           clear H
           have hnb61 := NB283_271.out
           have hnc61 := NB271_283.out
           have hnb62 := NB283_272.out
           have hnc62 := NB272_283.out
           have hnb63 := NB283_273.out
           have hnc63 := NB273_283.out
           have hnb64 := NB283_280.out
           have hnc64 := NB280_283.out
           have hcz65_0 : wc.cell? ⟨gb283, 0, none⟩ = some (.int .i64 a0_0) := (blk_cell BK283.out 0).trans rfl
           have hcz65_1 : wc.cell? ⟨gb283, 1, none⟩ = some (.int .i64 a0_1) := (blk_cell BK283.out 1).trans rfl
           have hcz65_2 : wc.cell? ⟨gb283, 2, none⟩ = some (.int .i64 a0_2) := (blk_cell BK283.out 2).trans rfl
           have hcz65_3 : wc.cell? ⟨gb283, 3, none⟩ = some (.int .i64 a0_3) := (blk_cell BK283.out 3).trans rfl
           have hcz65_4 : wc.cell? ⟨gb283, 4, none⟩ = some (.int .i64 a0_4) := (blk_cell BK283.out 4).trans rfl
           have hcz65_5 : wc.cell? ⟨gb283, 5, none⟩ = some (.int .i64 a0_5) := (blk_cell BK283.out 5).trans rfl
           have hcz65_6 : wc.cell? ⟨gb283, 6, none⟩ = some (.int .u64 a0_6) := (blk_cell BK283.out 6).trans rfl
           have hcz65_7 : wc.cell? ⟨gb283, 7, none⟩ = some (.int .i64 a0_7) := (blk_cell BK283.out 7).trans rfl
           have hcz65_8 : wc.cell? ⟨gb283, 8, none⟩ = some (.int .i64 a0_8) := (blk_cell BK283.out 8).trans rfl
           have hcz65_9 : wc.cell? ⟨gb283, 9, none⟩ = some (.int .i64 a0_9) := (blk_cell BK283.out 9).trans rfl
           have hfz65_0 := blk_frozen BK283.out 0
           have hfz65_1 := blk_frozen BK283.out 1
           have hfz65_2 := blk_frozen BK283.out 2
           have hfz65_3 := blk_frozen BK283.out 3
           have hfz65_4 := blk_frozen BK283.out 4
           have hfz65_5 := blk_frozen BK283.out 5
           have hfz65_6 := blk_frozen BK283.out 6
           have hfz65_7 := blk_frozen BK283.out 7
           have hfz65_8 := blk_frozen BK283.out 8
           have hfz65_9 := blk_frozen BK283.out 9
           go_wp2
           go_meet
           case rel => exact ⟨_, (16), H', ⟨by have := HJ29.out; have := HJ47.out; first | omega | exact Nat.le_refl _⟩, ⟨by (with_reducible repeat (first | refine blk_drewN ?_ _ | refine blk_drew ?_ | refine blk_alloc ?_ _)); refine blk_far ?_ NB271_283.out _; (with_reducible repeat (first | refine blk_drewN ?_ _ | refine blk_drew ?_ | refine blk_alloc ?_ _)); exact BK271.out⟩, ⟨by (with_reducible repeat (first | refine blk_drewN ?_ _ | refine blk_drew ?_ | refine blk_alloc ?_ _)); refine blk_far ?_ NB272_283.out _; (with_reducible repeat (first | refine blk_drewN ?_ _ | refine blk_drew ?_ | refine blk_alloc ?_ _)); exact BK272.out⟩, ⟨by (with_reducible repeat (first | refine blk_drewN ?_ _ | refine blk_drew ?_ | refine blk_alloc ?_ _)); refine blk_far ?_ NB273_283.out _; (with_reducible repeat (first | refine blk_drewN ?_ _ | refine blk_drew ?_ | refine blk_alloc ?_ _)); exact BK273.out⟩, ⟨by (with_reducible repeat (first | refine blk_drewN ?_ _ | refine blk_drew ?_ | refine blk_alloc ?_ _)); refine blk_far ?_ NB280_283.out _; (with_reducible repeat (first | refine blk_drewN ?_ _ | refine blk_drew ?_ | refine blk_alloc ?_ _)); exact BK280.out⟩, ⟨by (with_reducible repeat (first | refine blk_drewN ?_ _ | refine blk_drew ?_ | refine blk_alloc ?_ _)); refine blk_put (cs := #[.int .i64 a0_0, .int .i64 a0_1, .int .i64 a0_2, .int .i64 a0_3, .int .i64 a0_4, .int .i64 a0_5, .int .u64 a0_6, .int .i64 a0_7, .int .i64 a0_8, .int .i64 a0_9]) ?_ 0 _ rfl; (with_reducible repeat (first | refine blk_drewN ?_ _ | refine blk_drew ?_ | refine blk_alloc ?_ _)); exact BK283.out⟩, ⟨by repeat (first | (with_reducible first | exact HB.out | apply below_alloc | apply pw_below_drewN | apply below_drew1 | refine below_set ?_ GE271.out | refine below_set ?_ GE272.out | refine below_set ?_ GE273.out | refine below_set ?_ GE280.out | refine below_set ?_ GE283.out) | exact HB.out)⟩⟩
          ·
           rw [if_neg c60] at H
           have c60b0 : (a0_0 == 19) = false := beq_eq_false_iff_ne.mpr c60
           have c60b1 : (a0_0 != 19) = true := bne_iff_ne.mpr c60
           replace H := Option.bind_eq_some_iff.mp H
           obtain ⟨t284, A660, H⟩ := H
           replace H : (if t284 = true then (some (t275 == a2_0 && (t276 == a2_1 && (t277 == a2_2 && (t278 == a2_3))))) else (none)) = some r := H
           have A66 := Aside0.mk A660
           clear A660
           by_cases c67 : t284 = true
           ·
            subst c67
            have H1 : (some (t275 == a2_0 && (t276 == a2_1 && (t277 == a2_2 && (t278 == a2_3))))) = some r := by rw [if_pos rfl] at H; exact H
            clear H
            have H := H1
            clear H1
            obtain rfl := Option.some.inj H
            go_wp2_with (first | ((with_reducible refine gate_callee (f := 7) rfl ?_); refine goesL_ (some 43) rfl rfl Tryd.func7 (by kernel_rfl) rfl #[] rfl (by (try simp only [List.map_toArray, List.map_cons, List.map_nil]); first | done | rfl | (simp only [List.length_drop, List.length_take]; rfl)) ?_; (with_reducible refine (cleatlaw06_done.calls kj47  true _ A66.out).mono ?_); rintro e w68 ⟨rfl, hb⟩; refine ⟨_, rfl, ?_⟩; have n0_ := Aside0.mk (blk_below (g := gb271) (o := .cells #[.int .i64 a0_0, .int .i64 a0_1, .int .i64 a0_2, .int .i64 a0_3, .int .i64 a0_4, .int .i64 a0_5, .int .u64 a0_6, .int .i64 a0_7, .int .i64 a0_8, .int .i64 a0_9] 25 (0, 0)) (by (with_reducible repeat (first | refine blk_drewN ?_ _ | refine blk_drew ?_ | refine blk_alloc ?_ _)); exact BK271.out) hb); have n1_ := Aside0.mk (blk_below (g := gb272) (o := .cells #[.int .u64 a1_0, .int .u64 a1_1, .int .u64 a1_2, .int .u64 a1_3] 29 (0, 0)) (by (with_reducible repeat (first | refine blk_drewN ?_ _ | refine blk_drew ?_ | refine blk_alloc ?_ _)); exact BK272.out) hb); have n2_ := Aside0.mk (blk_below (g := gb273) (o := .cells #[.bool a2_0, .bool a2_1, .bool a2_2, .bool a2_3] 35 (0, 0)) (by (with_reducible repeat (first | refine blk_drewN ?_ _ | refine blk_drew ?_ | refine blk_alloc ?_ _)); exact BK273.out) hb); have n3_ := Aside0.mk (blk_below (g := gb280) (o := .cells #[.bool t275, .bool t276, .bool t277, .bool t278] 35 (0, 0)) (by (with_reducible repeat (first | refine blk_drewN ?_ _ | refine blk_drew ?_ | refine blk_alloc ?_ _)); exact BK280.out) hb); have n4_ := Aside0.mk (blk_below (g := gb283) (o := .cells #[.int .i64 a0_0, .int .i64 a0_1, .int .i64 a0_2, .int .i64 a0_3, .int .i64 a0_4, .int .i64 a0_5, .int .u64 a0_6, .int .i64 a0_7, .int .i64 a0_8, .int .i64 a0_9] 25 (0, 0)) (by (with_reducible repeat (first | refine blk_drewN ?_ _ | refine blk_drew ?_ | refine blk_alloc ?_ _)); exact BK283.out) hb); have n5_ := Aside0.mk (below_step (by repeat (first | (with_reducible first | exact HB.out | apply below_alloc | apply pw_below_drewN | apply below_drew1 | refine below_set ?_ GE271.out | refine below_set ?_ GE272.out | refine below_set ?_ GE273.out | refine below_set ?_ GE280.out | refine below_set ?_ GE283.out) | exact HB.out)) hb); clear BK271; clear BK272; clear BK273; clear BK280; clear BK283; clear HB; have BK271 := n0_; have BK272 := n1_; have BK273 := n2_; have BK280 := n3_; have BK283 := n4_; have HB := n5_; clear n0_ n1_ n2_ n3_ n4_ n5_; (try clear hb); (try clear hb2); (try clear hk); (try clear hi); have hnb69 := NB280_271.out; have hnc69 := NB271_280.out; have hnb70 := NB280_272.out; have hnc70 := NB272_280.out; have hnb71 := NB280_273.out; have hnc71 := NB273_280.out; have hnb72 := NB280_283.out; have hnc72 := NB283_280.out; obtain ⟨hcz73_0, hcz73_1, hcz73_2, hcz73_3⟩ := cells4_ BK280.out; have hfz73_0 := fun j => blk_frozen BK280.out j; have hnb74 := NB273_271.out; have hnc74 := NB271_273.out; have hnb75 := NB273_272.out; have hnc75 := NB272_273.out; have hnb76 := NB273_283.out; have hnc76 := NB283_273.out; obtain ⟨hcz77_0, hcz77_1, hcz77_2, hcz77_3⟩ := cells4_ BK273.out; have hfz77_0 := fun j => blk_frozen BK273.out j))
            go_ret
            exact ⟨by first | rfl | (simp [errW_none, errW_some] <;> rfl) | (simp [*, errW_none, errW_some] <;> rfl), by repeat (first | (with_reducible first | exact HB.out | apply below_alloc | apply pw_below_drewN | apply below_drew1 | refine below_set ?_ GE271.out | refine below_set ?_ GE272.out | refine below_set ?_ GE273.out | refine below_set ?_ GE280.out | refine below_set ?_ GE283.out) | exact HB.out)⟩
           ·
            replace c67 := Bool.eq_false_iff.mpr c67
            subst c67
            have H1 : (none) = some r := by rw [if_neg (show ¬ (false = true) by decide)] at H; exact H
            clear H
            have H := H1
            clear H1
            exact absurd H (by simp)
  case rest =>
   clear HC6
   try clear c1
   try clear c2
   try clear p2
   try clear c3
   try clear c4
   try clear c5
   try clear c5b0
   try clear c5b1
   try clear c6
   try clear p6
   try clear c7
   try clear c10
   try clear c11
   try clear c13
   try clear c18
   try clear c19
   try clear c20
   try clear c24
   try clear c25
   try clear c26
   try clear c27
   try clear c31
   try clear c31b0
   try clear c31b1
   try clear c32
   try clear c33
   try clear c34
   try clear c35
   try clear c36
   try clear c38
   try clear c39
   try clear c40
   try clear c42
   try clear c42b0
   try clear c42b1
   try clear c43
   try clear c44
   try clear c45
   try clear c46
   try clear c49
   try clear c49b0
   try clear c49b1
   try clear c50
   try clear c51
   try clear c52
   try clear c53
   try clear c54
   try clear c56
   try clear c57
   try clear c58
   try clear c60
   try clear c60b0
   try clear c60b1
   try clear c61
   try clear c62
   try clear c63
   try clear c64
   try clear p64
   try clear c67
   try clear c69
   try clear c70
   try clear c71
   try clear c72
   try clear c74
   try clear c75
   try clear c76
   try clear hcz12_0 hcz12_1 hcz12_2 hcz12_3 hcz12_4 hcz12_5 hcz12_6 hcz12_7 hcz12_8 hcz12_9
   try clear hcz14_0 hcz14_1 hcz14_2 hcz14_3
   try clear hcz15_0 hcz15_1 hcz15_2 hcz15_3
   try clear hcz21_0 hcz21_1 hcz21_2 hcz21_3
   try clear hcz22_0 hcz22_1 hcz22_2 hcz22_3 hcz22_4 hcz22_5 hcz22_6 hcz22_7 hcz22_8 hcz22_9
   try clear hcz28_0 hcz28_1 hcz28_2 hcz28_3 hcz28_4 hcz28_5 hcz28_6 hcz28_7 hcz28_8 hcz28_9
   try clear hcz29_0 hcz29_1 hcz29_2 hcz29_3 hcz29_4 hcz29_5 hcz29_6 hcz29_7 hcz29_8 hcz29_9
   try clear hcz37_0 hcz37_1 hcz37_2 hcz37_3 hcz37_4 hcz37_5 hcz37_6 hcz37_7 hcz37_8 hcz37_9
   try clear hcz41_0 hcz41_1 hcz41_2 hcz41_3 hcz41_4 hcz41_5 hcz41_6 hcz41_7 hcz41_8 hcz41_9
   try clear hcz47_0 hcz47_1 hcz47_2 hcz47_3 hcz47_4 hcz47_5 hcz47_6 hcz47_7 hcz47_8 hcz47_9
   try clear hcz55_0 hcz55_1 hcz55_2 hcz55_3 hcz55_4 hcz55_5 hcz55_6 hcz55_7 hcz55_8 hcz55_9
   try clear hcz59_0 hcz59_1 hcz59_2 hcz59_3 hcz59_4 hcz59_5 hcz59_6 hcz59_7 hcz59_8 hcz59_9
   try clear hcz65_0 hcz65_1 hcz65_2 hcz65_3 hcz65_4 hcz65_5 hcz65_6 hcz65_7 hcz65_8 hcz65_9
   try clear hcz73_0 hcz73_1 hcz73_2 hcz73_3
   try clear hcz77_0 hcz77_1 hcz77_2 hcz77_3
   try clear hfz12_0
   try clear hfz14_0
   try clear hfz15_0
   try clear hfz21_0
   try clear hfz22_0
   try clear hfz28_0
   try clear hfz29_0
   try clear hfz37_0
   try clear hfz41_0
   try clear hfz47_0
   try clear hfz55_0
   try clear hfz59_0
   try clear hfz65_0
   try clear hfz73_0
   try clear hfz77_0
   try clear p2
   try clear p6
   obtain ⟨kq, x284000_5, HA, HJ5, BK271, BK272, BK273, BK280, BK283, HB⟩ := hcut
   cases kq with
   | zero => exact absurd HA.out (by simp [cleatlaw06_AluFlags.j2])
   | succ kj5 =>
    have H := HA.out
    clear HA
    simp only [cleatlaw06_AluFlags.j2] at H
    replace H := Option.bind_eq_some_iff.mp H
    obtain ⟨⟨t285, t286, t287, t288, t289, t290⟩, A780, H⟩ := H
    replace H : (if a0_0 = 11 then (cleatlaw06_AluFlags.j3 kj5 t274 t285 t290 true a2_0 a2_1 a2_2 a2_3 t275 t276 t277 t278 t286 t287 t288 t289) else (cleatlaw06_AluFlags.j3 kj5 t274 t285 t290 (a0_0 == 19) a2_0 a2_1 a2_2 a2_3 t275 t276 t277 t278 t286 t287 t288 t289)) = some r := H
    have A78 := Aside0.mk A780
    clear A780
    have HC79 := Aside0.mk H
    clear H
    have hnb80 := NB283_271.out
    have hnc80 := NB271_283.out
    have hnb81 := NB283_272.out
    have hnc81 := NB272_283.out
    have hnb82 := NB283_273.out
    have hnc82 := NB273_283.out
    have hnb83 := NB283_280.out
    have hnc83 := NB280_283.out
    have hcz84_0 : wc.cell? ⟨gb283, 0, none⟩ = some (.int .i64 x284000_5) := (blk_cell BK283.out 0).trans rfl
    have hcz84_1 : wc.cell? ⟨gb283, 1, none⟩ = some (.int .i64 a0_1) := (blk_cell BK283.out 1).trans rfl
    have hcz84_2 : wc.cell? ⟨gb283, 2, none⟩ = some (.int .i64 a0_2) := (blk_cell BK283.out 2).trans rfl
    have hcz84_3 : wc.cell? ⟨gb283, 3, none⟩ = some (.int .i64 a0_3) := (blk_cell BK283.out 3).trans rfl
    have hcz84_4 : wc.cell? ⟨gb283, 4, none⟩ = some (.int .i64 a0_4) := (blk_cell BK283.out 4).trans rfl
    have hcz84_5 : wc.cell? ⟨gb283, 5, none⟩ = some (.int .i64 a0_5) := (blk_cell BK283.out 5).trans rfl
    have hcz84_6 : wc.cell? ⟨gb283, 6, none⟩ = some (.int .u64 a0_6) := (blk_cell BK283.out 6).trans rfl
    have hcz84_7 : wc.cell? ⟨gb283, 7, none⟩ = some (.int .i64 a0_7) := (blk_cell BK283.out 7).trans rfl
    have hcz84_8 : wc.cell? ⟨gb283, 8, none⟩ = some (.int .i64 a0_8) := (blk_cell BK283.out 8).trans rfl
    have hcz84_9 : wc.cell? ⟨gb283, 9, none⟩ = some (.int .i64 a0_9) := (blk_cell BK283.out 9).trans rfl
    have hfz84_0 := blk_frozen BK283.out 0
    have hfz84_1 := blk_frozen BK283.out 1
    have hfz84_2 := blk_frozen BK283.out 2
    have hfz84_3 := blk_frozen BK283.out 3
    have hfz84_4 := blk_frozen BK283.out 4
    have hfz84_5 := blk_frozen BK283.out 5
    have hfz84_6 := blk_frozen BK283.out 6
    have hfz84_7 := blk_frozen BK283.out 7
    have hfz84_8 := blk_frozen BK283.out 8
    have hfz84_9 := blk_frozen BK283.out 9
    have hnb85 := NB272_271.out
    have hnc85 := NB271_272.out
    have hnb86 := NB272_273.out
    have hnc86 := NB273_272.out
    have hnb87 := NB272_280.out
    have hnc87 := NB280_272.out
    have hcz88_0 : wc.cell? ⟨gb272, 0, none⟩ = some (.int .u64 a1_0) := (blk_cell BK272.out 0).trans rfl
    have hcz88_1 : wc.cell? ⟨gb272, 1, none⟩ = some (.int .u64 a1_1) := (blk_cell BK272.out 1).trans rfl
    have hcz88_2 : wc.cell? ⟨gb272, 2, none⟩ = some (.int .u64 a1_2) := (blk_cell BK272.out 2).trans rfl
    have hcz88_3 : wc.cell? ⟨gb272, 3, none⟩ = some (.int .u64 a1_3) := (blk_cell BK272.out 3).trans rfl
    have hfz88_0 := blk_frozen BK272.out 0
    have hfz88_1 := blk_frozen BK272.out 1
    have hfz88_2 := blk_frozen BK272.out 2
    have hfz88_3 := blk_frozen BK272.out 3
    have hnb89 := NB273_271.out
    have hnc89 := NB271_273.out
    have hnb90 := NB273_280.out
    have hnc90 := NB280_273.out
    have hcz91_0 : wc.cell? ⟨gb273, 0, none⟩ = some (.bool a2_0) := (blk_cell BK273.out 0).trans rfl
    have hcz91_1 : wc.cell? ⟨gb273, 1, none⟩ = some (.bool a2_1) := (blk_cell BK273.out 1).trans rfl
    have hcz91_2 : wc.cell? ⟨gb273, 2, none⟩ = some (.bool a2_2) := (blk_cell BK273.out 2).trans rfl
    have hcz91_3 : wc.cell? ⟨gb273, 3, none⟩ = some (.bool a2_3) := (blk_cell BK273.out 3).trans rfl
    have hfz91_0 := blk_frozen BK273.out 0
    have hfz91_1 := blk_frozen BK273.out 1
    have hfz91_2 := blk_frozen BK273.out 2
    have hfz91_3 := blk_frozen BK273.out 3
    go_upto_region 18 with (first | ((with_reducible refine gate_callee (f := 11) rfl ?_); refine goesL_ (some 73) rfl rfl Tryd.func11 (by kernel_rfl) rfl #[.agg #[.int .i64 x284000_5, .int .i64 a0_1, .int .i64 a0_2, .int .i64 a0_3, .int .i64 a0_4, .int .i64 a0_5, .int .u64 a0_6, .int .i64 a0_7, .int .i64 a0_8, .int .i64 a0_9], .agg #[.int .u64 a1_0, .int .u64 a1_1, .int .u64 a1_2, .int .u64 a1_3], .agg #[.bool a2_0, .bool a2_1, .bool a2_2, .bool a2_3]] rfl (by (try simp only [List.map_toArray, List.map_cons, List.map_nil]); first | done | rfl | (simp only [List.length_drop, List.length_take]; rfl)) ?_; (with_reducible refine (alu_Do.calls kj5 x284000_5 a0_1 a0_2 a0_3 a0_4 a0_5 a0_6 a0_7 a0_8 a0_9 a1_0 a1_1 a1_2 a1_3 a2_0 a2_1 a2_2 a2_3 t285 t286 t287 t288 t289 t290 _ A78.out).mono ?_); rintro e w92 ⟨rfl, hb⟩; refine ⟨_, rfl, ?_⟩; have n0_ := Aside0.mk (blk_below (g := gb271) (o := .cells #[.int .i64 a0_0, .int .i64 a0_1, .int .i64 a0_2, .int .i64 a0_3, .int .i64 a0_4, .int .i64 a0_5, .int .u64 a0_6, .int .i64 a0_7, .int .i64 a0_8, .int .i64 a0_9] 25 (0, 0)) (by (with_reducible repeat (first | refine blk_drewN ?_ _ | refine blk_drew ?_ | refine blk_alloc ?_ _)); exact BK271.out) hb); have n1_ := Aside0.mk (blk_below (g := gb272) (o := .cells #[.int .u64 a1_0, .int .u64 a1_1, .int .u64 a1_2, .int .u64 a1_3] 29 (0, 0)) (by (with_reducible repeat (first | refine blk_drewN ?_ _ | refine blk_drew ?_ | refine blk_alloc ?_ _)); exact BK272.out) hb); have n2_ := Aside0.mk (blk_below (g := gb273) (o := .cells #[.bool a2_0, .bool a2_1, .bool a2_2, .bool a2_3] 35 (0, 0)) (by (with_reducible repeat (first | refine blk_drewN ?_ _ | refine blk_drew ?_ | refine blk_alloc ?_ _)); exact BK273.out) hb); have n3_ := Aside0.mk (blk_below (g := gb280) (o := .cells #[.bool t275, .bool t276, .bool t277, .bool t278] 35 (0, 0)) (by (with_reducible repeat (first | refine blk_drewN ?_ _ | refine blk_drew ?_ | refine blk_alloc ?_ _)); exact BK280.out) hb); have n4_ := Aside0.mk (blk_below (g := gb283) (o := .cells #[.int .i64 x284000_5, .int .i64 a0_1, .int .i64 a0_2, .int .i64 a0_3, .int .i64 a0_4, .int .i64 a0_5, .int .u64 a0_6, .int .i64 a0_7, .int .i64 a0_8, .int .i64 a0_9] 25 (0, 0)) (by (with_reducible repeat (first | refine blk_drewN ?_ _ | refine blk_drew ?_ | refine blk_alloc ?_ _)); exact BK283.out) hb); have n5_ := Aside0.mk (below_step (by repeat (first | (with_reducible first | exact HB.out | apply below_alloc | apply pw_below_drewN | apply below_drew1 | refine below_set ?_ GE271.out | refine below_set ?_ GE272.out | refine below_set ?_ GE273.out | refine below_set ?_ GE280.out | refine below_set ?_ GE283.out) | exact HB.out)) hb); clear BK271; clear BK272; clear BK273; clear BK280; clear BK283; clear HB; have BK271 := n0_; have BK272 := n1_; have BK273 := n2_; have BK280 := n3_; have BK283 := n4_; have HB := n5_; clear n0_ n1_ n2_ n3_ n4_ n5_; (try clear hb); (try clear hb2); (try clear hk); (try clear hi)) | ((with_reducible refine gate_dst (N := 12) rfl ?_); refine box_event ?hg (N := 12) ?hd (cs := #[.bool false, .bool false, .bool false, .bool false]) (t := 35) ?hr ?_; (case hd => rfl); (case hg => rfl); (case hr => first | (go_simp; done) | (go_simp; rfl)); intro gb291 hg w93 hbox hb; have n0_ := Aside0.mk (blk_below (g := gb271) (o := .cells #[.int .i64 a0_0, .int .i64 a0_1, .int .i64 a0_2, .int .i64 a0_3, .int .i64 a0_4, .int .i64 a0_5, .int .u64 a0_6, .int .i64 a0_7, .int .i64 a0_8, .int .i64 a0_9] 25 (0, 0)) (by (with_reducible repeat (first | refine blk_drewN ?_ _ | refine blk_drew ?_ | refine blk_alloc ?_ _)); exact BK271.out) hb); have n1_ := Aside0.mk (blk_below (g := gb272) (o := .cells #[.int .u64 a1_0, .int .u64 a1_1, .int .u64 a1_2, .int .u64 a1_3] 29 (0, 0)) (by (with_reducible repeat (first | refine blk_drewN ?_ _ | refine blk_drew ?_ | refine blk_alloc ?_ _)); exact BK272.out) hb); have n2_ := Aside0.mk (blk_below (g := gb273) (o := .cells #[.bool a2_0, .bool a2_1, .bool a2_2, .bool a2_3] 35 (0, 0)) (by (with_reducible repeat (first | refine blk_drewN ?_ _ | refine blk_drew ?_ | refine blk_alloc ?_ _)); exact BK273.out) hb); have n3_ := Aside0.mk (blk_below (g := gb280) (o := .cells #[.bool t275, .bool t276, .bool t277, .bool t278] 35 (0, 0)) (by (with_reducible repeat (first | refine blk_drewN ?_ _ | refine blk_drew ?_ | refine blk_alloc ?_ _)); exact BK280.out) hb); have n4_ := Aside0.mk (blk_below (g := gb283) (o := .cells #[.int .i64 x284000_5, .int .i64 a0_1, .int .i64 a0_2, .int .i64 a0_3, .int .i64 a0_4, .int .i64 a0_5, .int .u64 a0_6, .int .i64 a0_7, .int .i64 a0_8, .int .i64 a0_9] 25 (0, 0)) (by (with_reducible repeat (first | refine blk_drewN ?_ _ | refine blk_drew ?_ | refine blk_alloc ?_ _)); exact BK283.out) hb); have n5_ := Aside0.mk (below_step (by repeat (first | (with_reducible first | exact HB.out | apply below_alloc | apply pw_below_drewN | apply below_drew1 | refine below_set ?_ GE271.out | refine below_set ?_ GE272.out | refine below_set ?_ GE273.out | refine below_set ?_ GE280.out | refine below_set ?_ GE283.out) | exact HB.out)) hb); have n6_ := Aside0.mk (hbox); have n7_ := Aside0.mk ((by rw [hg]; exact (below_size (by repeat (first | (with_reducible first | exact HB.out | apply below_alloc | apply pw_below_drewN | apply below_drew1 | refine below_set ?_ GE271.out | refine below_set ?_ GE272.out | refine below_set ?_ GE273.out | refine below_set ?_ GE280.out | refine below_set ?_ GE283.out) | exact HB.out))) : w.heap.size ≤ gb291)); have n8_ := Aside0.mk ((by rw [hg]; exact (below_size (by repeat (first | (with_reducible first | exact HB.out | apply below_alloc | apply pw_below_drewN | apply below_drew1 | refine below_set ?_ GE271.out | refine below_set ?_ GE272.out | refine below_set ?_ GE273.out | refine below_set ?_ GE280.out | refine below_set ?_ GE283.out) | exact HB.out))) : w.heap.size ≤ gb291)); have n9_ := Aside0.mk ((by rw [hg]; exact Nat.ne_of_lt (blk_lt (g := gb271) (o := .cells #[.int .i64 a0_0, .int .i64 a0_1, .int .i64 a0_2, .int .i64 a0_3, .int .i64 a0_4, .int .i64 a0_5, .int .u64 a0_6, .int .i64 a0_7, .int .i64 a0_8, .int .i64 a0_9] 25 (0, 0)) (by (with_reducible repeat (first | refine blk_drewN ?_ _ | refine blk_drew ?_ | refine blk_alloc ?_ _)); exact BK271.out)) : gb271 ≠ gb291)); have n10_ := Aside0.mk ((by rw [hg]; exact Nat.ne_of_gt (blk_lt (g := gb271) (o := .cells #[.int .i64 a0_0, .int .i64 a0_1, .int .i64 a0_2, .int .i64 a0_3, .int .i64 a0_4, .int .i64 a0_5, .int .u64 a0_6, .int .i64 a0_7, .int .i64 a0_8, .int .i64 a0_9] 25 (0, 0)) (by (with_reducible repeat (first | refine blk_drewN ?_ _ | refine blk_drew ?_ | refine blk_alloc ?_ _)); exact BK271.out)) : gb291 ≠ gb271)); have n11_ := Aside0.mk ((by rw [hg]; exact Nat.ne_of_lt (blk_lt (g := gb272) (o := .cells #[.int .u64 a1_0, .int .u64 a1_1, .int .u64 a1_2, .int .u64 a1_3] 29 (0, 0)) (by (with_reducible repeat (first | refine blk_drewN ?_ _ | refine blk_drew ?_ | refine blk_alloc ?_ _)); exact BK272.out)) : gb272 ≠ gb291)); have n12_ := Aside0.mk ((by rw [hg]; exact Nat.ne_of_gt (blk_lt (g := gb272) (o := .cells #[.int .u64 a1_0, .int .u64 a1_1, .int .u64 a1_2, .int .u64 a1_3] 29 (0, 0)) (by (with_reducible repeat (first | refine blk_drewN ?_ _ | refine blk_drew ?_ | refine blk_alloc ?_ _)); exact BK272.out)) : gb291 ≠ gb272)); have n13_ := Aside0.mk ((by rw [hg]; exact Nat.ne_of_lt (blk_lt (g := gb273) (o := .cells #[.bool a2_0, .bool a2_1, .bool a2_2, .bool a2_3] 35 (0, 0)) (by (with_reducible repeat (first | refine blk_drewN ?_ _ | refine blk_drew ?_ | refine blk_alloc ?_ _)); exact BK273.out)) : gb273 ≠ gb291)); have n14_ := Aside0.mk ((by rw [hg]; exact Nat.ne_of_gt (blk_lt (g := gb273) (o := .cells #[.bool a2_0, .bool a2_1, .bool a2_2, .bool a2_3] 35 (0, 0)) (by (with_reducible repeat (first | refine blk_drewN ?_ _ | refine blk_drew ?_ | refine blk_alloc ?_ _)); exact BK273.out)) : gb291 ≠ gb273)); have n15_ := Aside0.mk ((by rw [hg]; exact Nat.ne_of_lt (blk_lt (g := gb280) (o := .cells #[.bool t275, .bool t276, .bool t277, .bool t278] 35 (0, 0)) (by (with_reducible repeat (first | refine blk_drewN ?_ _ | refine blk_drew ?_ | refine blk_alloc ?_ _)); exact BK280.out)) : gb280 ≠ gb291)); have n16_ := Aside0.mk ((by rw [hg]; exact Nat.ne_of_gt (blk_lt (g := gb280) (o := .cells #[.bool t275, .bool t276, .bool t277, .bool t278] 35 (0, 0)) (by (with_reducible repeat (first | refine blk_drewN ?_ _ | refine blk_drew ?_ | refine blk_alloc ?_ _)); exact BK280.out)) : gb291 ≠ gb280)); have n17_ := Aside0.mk ((by rw [hg]; exact Nat.ne_of_lt (blk_lt (g := gb283) (o := .cells #[.int .i64 x284000_5, .int .i64 a0_1, .int .i64 a0_2, .int .i64 a0_3, .int .i64 a0_4, .int .i64 a0_5, .int .u64 a0_6, .int .i64 a0_7, .int .i64 a0_8, .int .i64 a0_9] 25 (0, 0)) (by (with_reducible repeat (first | refine blk_drewN ?_ _ | refine blk_drew ?_ | refine blk_alloc ?_ _)); exact BK283.out)) : gb283 ≠ gb291)); have n18_ := Aside0.mk ((by rw [hg]; exact Nat.ne_of_gt (blk_lt (g := gb283) (o := .cells #[.int .i64 x284000_5, .int .i64 a0_1, .int .i64 a0_2, .int .i64 a0_3, .int .i64 a0_4, .int .i64 a0_5, .int .u64 a0_6, .int .i64 a0_7, .int .i64 a0_8, .int .i64 a0_9] 25 (0, 0)) (by (with_reducible repeat (first | refine blk_drewN ?_ _ | refine blk_drew ?_ | refine blk_alloc ?_ _)); exact BK283.out)) : gb291 ≠ gb283)); clear BK271; clear BK272; clear BK273; clear BK280; clear BK283; clear HB; have BK271 := n0_; have BK272 := n1_; have BK273 := n2_; have BK280 := n3_; have BK283 := n4_; have HB := n5_; have BK291 := n6_; have GW291 := n7_; have GE291 := n8_; have NB271_291 := n9_; have NB291_271 := n10_; have NB272_291 := n11_; have NB291_272 := n12_; have NB273_291 := n13_; have NB291_273 := n14_; have NB280_291 := n15_; have NB291_280 := n16_; have NB283_291 := n17_; have NB291_283 := n18_; clear n0_ n1_ n2_ n3_ n4_ n5_ n6_ n7_ n8_ n9_ n10_ n11_ n12_ n13_ n14_ n15_ n16_ n17_ n18_; clear hb hbox hg; have hnb94 := NB291_271.out; have hnc94 := NB271_291.out; have hnb95 := NB291_272.out; have hnc95 := NB272_291.out; have hnb96 := NB291_273.out; have hnc96 := NB273_291.out; have hnb97 := NB291_280.out; have hnc97 := NB280_291.out; have hnb98 := NB291_283.out; have hnc98 := NB283_291.out; obtain ⟨hcz99_0, hcz99_1, hcz99_2, hcz99_3⟩ := cells4_ BK291.out; have hfz99_0 := fun j => blk_frozen BK291.out j))
    (try simp only [Act.put, List.setIfInBounds_toArray, List.set_cons_zero, List.set_cons_succ])
    go_cut [14] (fun v14 wc => ∃ (kq : Nat) (x14_78 : Bool), v14 = .bool x14_78 ∧ Aside0 (cleatlaw06_AluFlags.j3 kq t274 t285 t290 x14_78 a2_0 a2_1 a2_2 a2_3 t275 t276 t277 t278 t286 t287 t288 t289 = some r) ∧ Aside0 (kq ≤ kj5) ∧ Aside0 (wc.heap[gb271]? = some (.cells #[.int .i64 a0_0, .int .i64 a0_1, .int .i64 a0_2, .int .i64 a0_3, .int .i64 a0_4, .int .i64 a0_5, .int .u64 a0_6, .int .i64 a0_7, .int .i64 a0_8, .int .i64 a0_9] 25 (0, 0))) ∧ Aside0 (wc.heap[gb272]? = some (.cells #[.int .u64 a1_0, .int .u64 a1_1, .int .u64 a1_2, .int .u64 a1_3] 29 (0, 0))) ∧ Aside0 (wc.heap[gb273]? = some (.cells #[.bool a2_0, .bool a2_1, .bool a2_2, .bool a2_3] 35 (0, 0))) ∧ Aside0 (wc.heap[gb280]? = some (.cells #[.bool t275, .bool t276, .bool t277, .bool t278] 35 (0, 0))) ∧ Aside0 (wc.heap[gb283]? = some (.cells #[.int .i64 x284000_5, .int .i64 a0_1, .int .i64 a0_2, .int .i64 a0_3, .int .i64 a0_4, .int .i64 a0_5, .int .u64 a0_6, .int .i64 a0_7, .int .i64 a0_8, .int .i64 a0_9] 25 (0, 0))) ∧ Aside0 (wc.heap[gb291]? = some (.cells #[.bool t286, .bool t287, .bool t288, .bool t289] 35 (0, 0))) ∧ Aside0 (Below w.heap.size w wc))
    case first =>
     have H := HC79.out
     clear HC79
     by_cases c100 : a0_0 = 11
     ·
      rw [if_pos c100] at H
      have c100b0 : (a0_0 == 11) = true := beq_iff_eq.mpr c100
      have c100b1 : (a0_0 != 11) = false := bne_eq_false_iff_eq.mpr c100
      clear c100
      (first | rw [c100b0] | (simp only [i64_w, i32_w]; rw [c100b0]) | skip)
      have H' := Aside0.mk H
      clear H
      have hnb101 := NB271_272.out
      have hnc101 := NB272_271.out
      have hnb102 := NB271_273.out
      have hnc102 := NB273_271.out
      have hnb103 := NB271_280.out
      have hnc103 := NB280_271.out
      have hnb104 := NB271_283.out
      have hnc104 := NB283_271.out
      have hnb105 := NB271_291.out
      have hnc105 := NB291_271.out
      have hcz106_0 : w93.cell? ⟨gb271, 0, none⟩ = some (.int .i64 a0_0) := (blk_cell BK271.out 0).trans rfl
      have hcz106_1 : w93.cell? ⟨gb271, 1, none⟩ = some (.int .i64 a0_1) := (blk_cell BK271.out 1).trans rfl
      have hcz106_2 : w93.cell? ⟨gb271, 2, none⟩ = some (.int .i64 a0_2) := (blk_cell BK271.out 2).trans rfl
      have hcz106_3 : w93.cell? ⟨gb271, 3, none⟩ = some (.int .i64 a0_3) := (blk_cell BK271.out 3).trans rfl
      have hcz106_4 : w93.cell? ⟨gb271, 4, none⟩ = some (.int .i64 a0_4) := (blk_cell BK271.out 4).trans rfl
      have hcz106_5 : w93.cell? ⟨gb271, 5, none⟩ = some (.int .i64 a0_5) := (blk_cell BK271.out 5).trans rfl
      have hcz106_6 : w93.cell? ⟨gb271, 6, none⟩ = some (.int .u64 a0_6) := (blk_cell BK271.out 6).trans rfl
      have hcz106_7 : w93.cell? ⟨gb271, 7, none⟩ = some (.int .i64 a0_7) := (blk_cell BK271.out 7).trans rfl
      have hcz106_8 : w93.cell? ⟨gb271, 8, none⟩ = some (.int .i64 a0_8) := (blk_cell BK271.out 8).trans rfl
      have hcz106_9 : w93.cell? ⟨gb271, 9, none⟩ = some (.int .i64 a0_9) := (blk_cell BK271.out 9).trans rfl
      have hfz106_0 := blk_frozen BK271.out 0
      have hfz106_1 := blk_frozen BK271.out 1
      have hfz106_2 := blk_frozen BK271.out 2
      have hfz106_3 := blk_frozen BK271.out 3
      have hfz106_4 := blk_frozen BK271.out 4
      have hfz106_5 := blk_frozen BK271.out 5
      have hfz106_6 := blk_frozen BK271.out 6
      have hfz106_7 := blk_frozen BK271.out 7
      have hfz106_8 := blk_frozen BK271.out 8
      have hfz106_9 := blk_frozen BK271.out 9
      go_wp2
      go_meet
      case rel => exact ⟨_, (true), (by first | rfl | (simp; done) | (simp [*]; done)), H', ⟨by have := HJ5.out; first | omega | exact Nat.le_refl _⟩, ⟨by (with_reducible repeat (first | refine blk_drewN ?_ _ | refine blk_drew ?_ | refine blk_alloc ?_ _)); refine blk_far ?_ NB271_291.out _; (with_reducible repeat (first | refine blk_drewN ?_ _ | refine blk_drew ?_ | refine blk_alloc ?_ _)); refine blk_far ?_ NB271_291.out _; (with_reducible repeat (first | refine blk_drewN ?_ _ | refine blk_drew ?_ | refine blk_alloc ?_ _)); refine blk_far ?_ NB271_291.out _; (with_reducible repeat (first | refine blk_drewN ?_ _ | refine blk_drew ?_ | refine blk_alloc ?_ _)); refine blk_far ?_ NB271_291.out _; (with_reducible repeat (first | refine blk_drewN ?_ _ | refine blk_drew ?_ | refine blk_alloc ?_ _)); exact BK271.out⟩, ⟨by (with_reducible repeat (first | refine blk_drewN ?_ _ | refine blk_drew ?_ | refine blk_alloc ?_ _)); refine blk_far ?_ NB272_291.out _; (with_reducible repeat (first | refine blk_drewN ?_ _ | refine blk_drew ?_ | refine blk_alloc ?_ _)); refine blk_far ?_ NB272_291.out _; (with_reducible repeat (first | refine blk_drewN ?_ _ | refine blk_drew ?_ | refine blk_alloc ?_ _)); refine blk_far ?_ NB272_291.out _; (with_reducible repeat (first | refine blk_drewN ?_ _ | refine blk_drew ?_ | refine blk_alloc ?_ _)); refine blk_far ?_ NB272_291.out _; (with_reducible repeat (first | refine blk_drewN ?_ _ | refine blk_drew ?_ | refine blk_alloc ?_ _)); exact BK272.out⟩, ⟨by (with_reducible repeat (first | refine blk_drewN ?_ _ | refine blk_drew ?_ | refine blk_alloc ?_ _)); refine blk_far ?_ NB273_291.out _; (with_reducible repeat (first | refine blk_drewN ?_ _ | refine blk_drew ?_ | refine blk_alloc ?_ _)); refine blk_far ?_ NB273_291.out _; (with_reducible repeat (first | refine blk_drewN ?_ _ | refine blk_drew ?_ | refine blk_alloc ?_ _)); refine blk_far ?_ NB273_291.out _; (with_reducible repeat (first | refine blk_drewN ?_ _ | refine blk_drew ?_ | refine blk_alloc ?_ _)); refine blk_far ?_ NB273_291.out _; (with_reducible repeat (first | refine blk_drewN ?_ _ | refine blk_drew ?_ | refine blk_alloc ?_ _)); exact BK273.out⟩, ⟨by (with_reducible repeat (first | refine blk_drewN ?_ _ | refine blk_drew ?_ | refine blk_alloc ?_ _)); refine blk_far ?_ NB280_291.out _; (with_reducible repeat (first | refine blk_drewN ?_ _ | refine blk_drew ?_ | refine blk_alloc ?_ _)); refine blk_far ?_ NB280_291.out _; (with_reducible repeat (first | refine blk_drewN ?_ _ | refine blk_drew ?_ | refine blk_alloc ?_ _)); refine blk_far ?_ NB280_291.out _; (with_reducible repeat (first | refine blk_drewN ?_ _ | refine blk_drew ?_ | refine blk_alloc ?_ _)); refine blk_far ?_ NB280_291.out _; (with_reducible repeat (first | refine blk_drewN ?_ _ | refine blk_drew ?_ | refine blk_alloc ?_ _)); exact BK280.out⟩, ⟨by (with_reducible repeat (first | refine blk_drewN ?_ _ | refine blk_drew ?_ | refine blk_alloc ?_ _)); refine blk_far ?_ NB283_291.out _; (with_reducible repeat (first | refine blk_drewN ?_ _ | refine blk_drew ?_ | refine blk_alloc ?_ _)); refine blk_far ?_ NB283_291.out _; (with_reducible repeat (first | refine blk_drewN ?_ _ | refine blk_drew ?_ | refine blk_alloc ?_ _)); refine blk_far ?_ NB283_291.out _; (with_reducible repeat (first | refine blk_drewN ?_ _ | refine blk_drew ?_ | refine blk_alloc ?_ _)); refine blk_far ?_ NB283_291.out _; (with_reducible repeat (first | refine blk_drewN ?_ _ | refine blk_drew ?_ | refine blk_alloc ?_ _)); exact BK283.out⟩, ⟨by (with_reducible repeat (first | refine blk_drewN ?_ _ | refine blk_drew ?_ | refine blk_alloc ?_ _)); refine blk_put (cs := #[.bool t286, .bool t287, .bool t288, .bool false]) ?_ 3 _ rfl; (with_reducible repeat (first | refine blk_drewN ?_ _ | refine blk_drew ?_ | refine blk_alloc ?_ _)); refine blk_put (cs := #[.bool t286, .bool t287, .bool false, .bool false]) ?_ 2 _ rfl; (with_reducible repeat (first | refine blk_drewN ?_ _ | refine blk_drew ?_ | refine blk_alloc ?_ _)); refine blk_put (cs := #[.bool t286, .bool false, .bool false, .bool false]) ?_ 1 _ rfl; (with_reducible repeat (first | refine blk_drewN ?_ _ | refine blk_drew ?_ | refine blk_alloc ?_ _)); refine blk_put (cs := #[.bool false, .bool false, .bool false, .bool false]) ?_ 0 _ rfl; (with_reducible repeat (first | refine blk_drewN ?_ _ | refine blk_drew ?_ | refine blk_alloc ?_ _)); exact BK291.out⟩, ⟨by repeat (first | (with_reducible first | exact HB.out | apply below_alloc | apply pw_below_drewN | apply below_drew1 | refine below_set ?_ GE271.out | refine below_set ?_ GE272.out | refine below_set ?_ GE273.out | refine below_set ?_ GE280.out | refine below_set ?_ GE283.out | refine below_set ?_ GE291.out) | exact HB.out)⟩⟩
     ·
      rw [if_neg c100] at H
      have c100b0 : (a0_0 == 11) = false := beq_eq_false_iff_ne.mpr c100
      have c100b1 : (a0_0 != 11) = true := bne_iff_ne.mpr c100
      (first | rw [c100b0] | (simp only [i64_w, i32_w]; rw [c100b0]) | skip)
      have H' := Aside0.mk H
      clear H
      have hnb107 := NB271_272.out
      have hnc107 := NB272_271.out
      have hnb108 := NB271_273.out
      have hnc108 := NB273_271.out
      have hnb109 := NB271_280.out
      have hnc109 := NB280_271.out
      have hnb110 := NB271_283.out
      have hnc110 := NB283_271.out
      have hnb111 := NB271_291.out
      have hnc111 := NB291_271.out
      have hcz112_0 : w93.cell? ⟨gb271, 0, none⟩ = some (.int .i64 a0_0) := (blk_cell BK271.out 0).trans rfl
      have hcz112_1 : w93.cell? ⟨gb271, 1, none⟩ = some (.int .i64 a0_1) := (blk_cell BK271.out 1).trans rfl
      have hcz112_2 : w93.cell? ⟨gb271, 2, none⟩ = some (.int .i64 a0_2) := (blk_cell BK271.out 2).trans rfl
      have hcz112_3 : w93.cell? ⟨gb271, 3, none⟩ = some (.int .i64 a0_3) := (blk_cell BK271.out 3).trans rfl
      have hcz112_4 : w93.cell? ⟨gb271, 4, none⟩ = some (.int .i64 a0_4) := (blk_cell BK271.out 4).trans rfl
      have hcz112_5 : w93.cell? ⟨gb271, 5, none⟩ = some (.int .i64 a0_5) := (blk_cell BK271.out 5).trans rfl
      have hcz112_6 : w93.cell? ⟨gb271, 6, none⟩ = some (.int .u64 a0_6) := (blk_cell BK271.out 6).trans rfl
      have hcz112_7 : w93.cell? ⟨gb271, 7, none⟩ = some (.int .i64 a0_7) := (blk_cell BK271.out 7).trans rfl
      have hcz112_8 : w93.cell? ⟨gb271, 8, none⟩ = some (.int .i64 a0_8) := (blk_cell BK271.out 8).trans rfl
      have hcz112_9 : w93.cell? ⟨gb271, 9, none⟩ = some (.int .i64 a0_9) := (blk_cell BK271.out 9).trans rfl
      have hfz112_0 := blk_frozen BK271.out 0
      have hfz112_1 := blk_frozen BK271.out 1
      have hfz112_2 := blk_frozen BK271.out 2
      have hfz112_3 := blk_frozen BK271.out 3
      have hfz112_4 := blk_frozen BK271.out 4
      have hfz112_5 := blk_frozen BK271.out 5
      have hfz112_6 := blk_frozen BK271.out 6
      have hfz112_7 := blk_frozen BK271.out 7
      have hfz112_8 := blk_frozen BK271.out 8
      have hfz112_9 := blk_frozen BK271.out 9
      go_wp2
      go_meet
      case rel => exact ⟨_, ((a0_0 == 19)), (by first | rfl | (simp; done) | (simp [*]; done)), H', ⟨by have := HJ5.out; first | omega | exact Nat.le_refl _⟩, ⟨by (with_reducible repeat (first | refine blk_drewN ?_ _ | refine blk_drew ?_ | refine blk_alloc ?_ _)); refine blk_far ?_ NB271_291.out _; (with_reducible repeat (first | refine blk_drewN ?_ _ | refine blk_drew ?_ | refine blk_alloc ?_ _)); refine blk_far ?_ NB271_291.out _; (with_reducible repeat (first | refine blk_drewN ?_ _ | refine blk_drew ?_ | refine blk_alloc ?_ _)); refine blk_far ?_ NB271_291.out _; (with_reducible repeat (first | refine blk_drewN ?_ _ | refine blk_drew ?_ | refine blk_alloc ?_ _)); refine blk_far ?_ NB271_291.out _; (with_reducible repeat (first | refine blk_drewN ?_ _ | refine blk_drew ?_ | refine blk_alloc ?_ _)); exact BK271.out⟩, ⟨by (with_reducible repeat (first | refine blk_drewN ?_ _ | refine blk_drew ?_ | refine blk_alloc ?_ _)); refine blk_far ?_ NB272_291.out _; (with_reducible repeat (first | refine blk_drewN ?_ _ | refine blk_drew ?_ | refine blk_alloc ?_ _)); refine blk_far ?_ NB272_291.out _; (with_reducible repeat (first | refine blk_drewN ?_ _ | refine blk_drew ?_ | refine blk_alloc ?_ _)); refine blk_far ?_ NB272_291.out _; (with_reducible repeat (first | refine blk_drewN ?_ _ | refine blk_drew ?_ | refine blk_alloc ?_ _)); refine blk_far ?_ NB272_291.out _; (with_reducible repeat (first | refine blk_drewN ?_ _ | refine blk_drew ?_ | refine blk_alloc ?_ _)); exact BK272.out⟩, ⟨by (with_reducible repeat (first | refine blk_drewN ?_ _ | refine blk_drew ?_ | refine blk_alloc ?_ _)); refine blk_far ?_ NB273_291.out _; (with_reducible repeat (first | refine blk_drewN ?_ _ | refine blk_drew ?_ | refine blk_alloc ?_ _)); refine blk_far ?_ NB273_291.out _; (with_reducible repeat (first | refine blk_drewN ?_ _ | refine blk_drew ?_ | refine blk_alloc ?_ _)); refine blk_far ?_ NB273_291.out _; (with_reducible repeat (first | refine blk_drewN ?_ _ | refine blk_drew ?_ | refine blk_alloc ?_ _)); refine blk_far ?_ NB273_291.out _; (with_reducible repeat (first | refine blk_drewN ?_ _ | refine blk_drew ?_ | refine blk_alloc ?_ _)); exact BK273.out⟩, ⟨by (with_reducible repeat (first | refine blk_drewN ?_ _ | refine blk_drew ?_ | refine blk_alloc ?_ _)); refine blk_far ?_ NB280_291.out _; (with_reducible repeat (first | refine blk_drewN ?_ _ | refine blk_drew ?_ | refine blk_alloc ?_ _)); refine blk_far ?_ NB280_291.out _; (with_reducible repeat (first | refine blk_drewN ?_ _ | refine blk_drew ?_ | refine blk_alloc ?_ _)); refine blk_far ?_ NB280_291.out _; (with_reducible repeat (first | refine blk_drewN ?_ _ | refine blk_drew ?_ | refine blk_alloc ?_ _)); refine blk_far ?_ NB280_291.out _; (with_reducible repeat (first | refine blk_drewN ?_ _ | refine blk_drew ?_ | refine blk_alloc ?_ _)); exact BK280.out⟩, ⟨by (with_reducible repeat (first | refine blk_drewN ?_ _ | refine blk_drew ?_ | refine blk_alloc ?_ _)); refine blk_far ?_ NB283_291.out _; (with_reducible repeat (first | refine blk_drewN ?_ _ | refine blk_drew ?_ | refine blk_alloc ?_ _)); refine blk_far ?_ NB283_291.out _; (with_reducible repeat (first | refine blk_drewN ?_ _ | refine blk_drew ?_ | refine blk_alloc ?_ _)); refine blk_far ?_ NB283_291.out _; (with_reducible repeat (first | refine blk_drewN ?_ _ | refine blk_drew ?_ | refine blk_alloc ?_ _)); refine blk_far ?_ NB283_291.out _; (with_reducible repeat (first | refine blk_drewN ?_ _ | refine blk_drew ?_ | refine blk_alloc ?_ _)); exact BK283.out⟩, ⟨by (with_reducible repeat (first | refine blk_drewN ?_ _ | refine blk_drew ?_ | refine blk_alloc ?_ _)); refine blk_put (cs := #[.bool t286, .bool t287, .bool t288, .bool false]) ?_ 3 _ rfl; (with_reducible repeat (first | refine blk_drewN ?_ _ | refine blk_drew ?_ | refine blk_alloc ?_ _)); refine blk_put (cs := #[.bool t286, .bool t287, .bool false, .bool false]) ?_ 2 _ rfl; (with_reducible repeat (first | refine blk_drewN ?_ _ | refine blk_drew ?_ | refine blk_alloc ?_ _)); refine blk_put (cs := #[.bool t286, .bool false, .bool false, .bool false]) ?_ 1 _ rfl; (with_reducible repeat (first | refine blk_drewN ?_ _ | refine blk_drew ?_ | refine blk_alloc ?_ _)); refine blk_put (cs := #[.bool false, .bool false, .bool false, .bool false]) ?_ 0 _ rfl; (with_reducible repeat (first | refine blk_drewN ?_ _ | refine blk_drew ?_ | refine blk_alloc ?_ _)); exact BK291.out⟩, ⟨by repeat (first | (with_reducible first | exact HB.out | apply below_alloc | apply pw_below_drewN | apply below_drew1 | refine below_set ?_ GE271.out | refine below_set ?_ GE272.out | refine below_set ?_ GE273.out | refine below_set ?_ GE280.out | refine below_set ?_ GE283.out | refine below_set ?_ GE291.out) | exact HB.out)⟩⟩
    case rest =>
     clear HC79
     try clear c1
     try clear c2
     try clear p2
     try clear c3
     try clear c4
     try clear c5
     try clear c5b0
     try clear c5b1
     try clear c6
     try clear p6
     try clear c7
     try clear c8
     try clear c9
     try clear c10
     try clear c11
     try clear c13
     try clear c18
     try clear c19
     try clear c20
     try clear c24
     try clear c25
     try clear c26
     try clear c27
     try clear c31
     try clear c31b0
     try clear c31b1
     try clear c32
     try clear c33
     try clear c34
     try clear c35
     try clear c36
     try clear c38
     try clear c39
     try clear c40
     try clear c42
     try clear c42b0
     try clear c42b1
     try clear c43
     try clear c44
     try clear c45
     try clear c46
     try clear c49
     try clear c49b0
     try clear c49b1
     try clear c50
     try clear c51
     try clear c52
     try clear c53
     try clear c54
     try clear c56
     try clear c57
     try clear c58
     try clear c60
     try clear c60b0
     try clear c60b1
     try clear c61
     try clear c62
     try clear c63
     try clear c64
     try clear p64
     try clear c67
     try clear c69
     try clear c70
     try clear c71
     try clear c72
     try clear c74
     try clear c75
     try clear c76
     try clear c80
     try clear c81
     try clear c82
     try clear c83
     try clear c85
     try clear c86
     try clear c87
     try clear c89
     try clear c90
     try clear c94
     try clear c95
     try clear c96
     try clear c97
     try clear c98
     try clear c100
     try clear c100b0
     try clear c100b1
     try clear c101
     try clear c102
     try clear c103
     try clear c104
     try clear c105
     try clear c107
     try clear c108
     try clear c109
     try clear c110
     try clear c111
     try clear hcz106_0 hcz106_1 hcz106_2 hcz106_3 hcz106_4 hcz106_5 hcz106_6 hcz106_7 hcz106_8 hcz106_9
     try clear hcz112_0 hcz112_1 hcz112_2 hcz112_3 hcz112_4 hcz112_5 hcz112_6 hcz112_7 hcz112_8 hcz112_9
     try clear hcz12_0 hcz12_1 hcz12_2 hcz12_3 hcz12_4 hcz12_5 hcz12_6 hcz12_7 hcz12_8 hcz12_9
     try clear hcz14_0 hcz14_1 hcz14_2 hcz14_3
     try clear hcz15_0 hcz15_1 hcz15_2 hcz15_3
     try clear hcz21_0 hcz21_1 hcz21_2 hcz21_3
     try clear hcz22_0 hcz22_1 hcz22_2 hcz22_3 hcz22_4 hcz22_5 hcz22_6 hcz22_7 hcz22_8 hcz22_9
     try clear hcz28_0 hcz28_1 hcz28_2 hcz28_3 hcz28_4 hcz28_5 hcz28_6 hcz28_7 hcz28_8 hcz28_9
     try clear hcz29_0 hcz29_1 hcz29_2 hcz29_3 hcz29_4 hcz29_5 hcz29_6 hcz29_7 hcz29_8 hcz29_9
     try clear hcz37_0 hcz37_1 hcz37_2 hcz37_3 hcz37_4 hcz37_5 hcz37_6 hcz37_7 hcz37_8 hcz37_9
     try clear hcz41_0 hcz41_1 hcz41_2 hcz41_3 hcz41_4 hcz41_5 hcz41_6 hcz41_7 hcz41_8 hcz41_9
     try clear hcz47_0 hcz47_1 hcz47_2 hcz47_3 hcz47_4 hcz47_5 hcz47_6 hcz47_7 hcz47_8 hcz47_9
     try clear hcz55_0 hcz55_1 hcz55_2 hcz55_3 hcz55_4 hcz55_5 hcz55_6 hcz55_7 hcz55_8 hcz55_9
     try clear hcz59_0 hcz59_1 hcz59_2 hcz59_3 hcz59_4 hcz59_5 hcz59_6 hcz59_7 hcz59_8 hcz59_9
     try clear hcz65_0 hcz65_1 hcz65_2 hcz65_3 hcz65_4 hcz65_5 hcz65_6 hcz65_7 hcz65_8 hcz65_9
     try clear hcz73_0 hcz73_1 hcz73_2 hcz73_3
     try clear hcz77_0 hcz77_1 hcz77_2 hcz77_3
     try clear hcz84_0 hcz84_1 hcz84_2 hcz84_3 hcz84_4 hcz84_5 hcz84_6 hcz84_7 hcz84_8 hcz84_9
     try clear hcz88_0 hcz88_1 hcz88_2 hcz88_3
     try clear hcz91_0 hcz91_1 hcz91_2 hcz91_3
     try clear hcz99_0 hcz99_1 hcz99_2 hcz99_3
     try clear hfz106_0
     try clear hfz112_0
     try clear hfz12_0
     try clear hfz14_0
     try clear hfz15_0
     try clear hfz21_0
     try clear hfz22_0
     try clear hfz28_0
     try clear hfz29_0
     try clear hfz37_0
     try clear hfz41_0
     try clear hfz47_0
     try clear hfz55_0
     try clear hfz59_0
     try clear hfz65_0
     try clear hfz73_0
     try clear hfz77_0
     try clear hfz84_0
     try clear hfz88_0
     try clear hfz91_0
     try clear hfz99_0
     try clear p2
     try clear p6
     try clear p64
     obtain ⟨kq, x14_78, rfl, HA, HJ78, BK271, BK272, BK273, BK280, BK283, BK291, HB⟩ := hcut
     cases kq with
     | zero => exact absurd HA.out (by simp [cleatlaw06_AluFlags.j3])
     | succ kj78 =>
      have H := HA.out
      clear HA
      simp only [cleatlaw06_AluFlags.j3] at H
      replace H := Option.bind_eq_some_iff.mp H
      obtain ⟨t292, A1130, H⟩ := H
      replace H : (if t292 = true then (if t290 = 0 then (if t274 = t285 then (if (t286 == a2_0 && (t287 == a2_1 && (t288 == a2_2 && (t289 == a2_3)))) = true then ((flag_Of.f t274).bind fun bt293 => (if (t275 == bt293.1) = true then ((flag_Of.f t274).bind fun bt297 => (if (t276 == bt297.2.1) = true then (if x14_78 = true then ((flag_Of.f t274).bind fun bt301 => (some (t275 == bt301.1 && (t276 == bt301.2.1 && (t277 == bt301.2.2.1 && (t278 == bt301.2.2.2)))))) else (some true)) else (none))) else (none))) else (none)) else (none)) else (none)) else (none)) = some r := H
      have A113 := Aside0.mk A1130
      clear A1130
      by_cases c114 : t292 = true
      ·
       subst c114
       have H1 : (if t290 = 0 then (if t274 = t285 then (if (t286 == a2_0 && (t287 == a2_1 && (t288 == a2_2 && (t289 == a2_3)))) = true then ((flag_Of.f t274).bind fun bt293 => (if (t275 == bt293.1) = true then ((flag_Of.f t274).bind fun bt297 => (if (t276 == bt297.2.1) = true then (if x14_78 = true then ((flag_Of.f t274).bind fun bt301 => (some (t275 == bt301.1 && (t276 == bt301.2.1 && (t277 == bt301.2.2.1 && (t278 == bt301.2.2.2)))))) else (some true)) else (none))) else (none))) else (none)) else (none)) else (none)) = some r := by rw [if_pos rfl] at H; exact H
       clear H
       have H := H1
       clear H1
       by_cases c115 : t290 = 0
       ·
        rw [if_pos c115] at H
        have c115b0 : (t290 == 0) = true := beq_iff_eq.mpr c115
        have c115b1 : (t290 != 0) = false := bne_eq_false_iff_eq.mpr c115
        clear c115
        by_cases c116 : t274 = t285
        ·
         rw [if_pos c116] at H
         have c116b0 : (t274 == t285) = true := beq_iff_eq.mpr c116
         have c116b1 : (t274 != t285) = false := bne_eq_false_iff_eq.mpr c116
         clear c116
         by_cases c117 : (t286 == a2_0 && (t287 == a2_1 && (t288 == a2_2 && (t289 == a2_3)))) = true
         ·
          rw [if_pos c117] at H
          have c117b0 : (t286 == a2_0 && (t287 == a2_1 && (t288 == a2_2 && (t289 == a2_3)))) = true := c117
          (try (have c117b1 : decide (t286 = a2_0 && (t287 == a2_1 && (t288 == a2_2 && (t289 == a2_3)))) = true := by simpa using c117))
          (try (have c117b2 : (t286 == a2_0 && (t287 == a2_1 && (t288 == a2_2 && (t289 == a2_3)))) = true := by simpa using c117))
          clear c117
          replace H := Option.bind_eq_some_iff.mp H
          obtain ⟨⟨t293, t294, t295, t296⟩, A1180, H⟩ := H
          replace H : (if (t275 == t293) = true then ((flag_Of.f t274).bind fun bt297 => (if (t276 == bt297.2.1) = true then (if x14_78 = true then ((flag_Of.f t274).bind fun bt301 => (some (t275 == bt301.1 && (t276 == bt301.2.1 && (t277 == bt301.2.2.1 && (t278 == bt301.2.2.2)))))) else (some true)) else (none))) else (none)) = some r := H
          have A118 := Aside0.mk A1180
          clear A1180
          by_cases c119 : (t275 == t293) = true
          ·
           rw [if_pos c119] at H
           have c119b0 : (t275 == t293) = true := c119
           (try (have c119b1 : decide (t275 = t293) = true := by simpa using c119))
           (try (have c119b2 : (t275 == t293) = true := by simpa using c119))
           clear c119
           replace H := Option.bind_eq_some_iff.mp H
           obtain ⟨⟨t297, t298, t299, t300⟩, A1200, H⟩ := H
           replace H : (if (t276 == t298) = true then (if x14_78 = true then ((flag_Of.f t274).bind fun bt301 => (some (t275 == bt301.1 && (t276 == bt301.2.1 && (t277 == bt301.2.2.1 && (t278 == bt301.2.2.2)))))) else (some true)) else (none)) = some r := H
           have A120 := Aside0.mk A1200
           clear A1200
           by_cases c121 : (t276 == t298) = true
           ·
            rw [if_pos c121] at H
            have c121b0 : (t276 == t298) = true := c121
            (try (have c121b1 : decide (t276 = t298) = true := by simpa using c121))
            (try (have c121b2 : (t276 == t298) = true := by simpa using c121))
            clear c121
            by_cases c122 : x14_78 = true
            ·
             subst c122
             have H1 : ((flag_Of.f t274).bind fun bt301 => (some (t275 == bt301.1 && (t276 == bt301.2.1 && (t277 == bt301.2.2.1 && (t278 == bt301.2.2.2)))))) = some r := by rw [if_pos rfl] at H; exact H
             clear H
             have H := H1
             clear H1
             replace H := Option.bind_eq_some_iff.mp H
             obtain ⟨⟨t301, t302, t303, t304⟩, A1230, H⟩ := H
             replace H : (some (t275 == t301 && (t276 == t302 && (t277 == t303 && (t278 == t304))))) = some r := H
             have A123 := Aside0.mk A1230
             clear A1230
             obtain rfl := Option.some.inj H
             try go_wp2
             have n0_ := Aside0.mk (blk_drew BK271.out)
             have n1_ := Aside0.mk (blk_drew BK272.out)
             have n2_ := Aside0.mk (blk_drew BK273.out)
             have n3_ := Aside0.mk (blk_drew BK280.out)
             have n4_ := Aside0.mk (blk_drew BK283.out)
             have n5_ := Aside0.mk (blk_drew BK291.out)
             have n6_ := Aside0.mk (below_drew1 HB.out)
             clear BK271
             clear BK272
             clear BK273
             clear BK280
             clear BK283
             clear BK291
             clear HB
             have BK271 := n0_
             have BK272 := n1_
             have BK273 := n2_
             have BK280 := n3_
             have BK283 := n4_
             have BK291 := n5_
             have HB := n6_
             clear n0_ n1_ n2_ n3_ n4_ n5_ n6_
             refine start_ (n := 42) (S := fun w' => w'.cell? ⟨gb291, 0, none⟩ = some (.bool t286) ∧ w'.cell? ⟨gb291, 1, none⟩ = some (.bool t287) ∧ w'.cell? ⟨gb291, 2, none⟩ = some (.bool t288) ∧ w'.cell? ⟨gb291, 3, none⟩ = some (.bool t289) ∧ w'.cell? ⟨gb273, 0, none⟩ = some (.bool a2_0) ∧ w'.cell? ⟨gb273, 1, none⟩ = some (.bool a2_1) ∧ w'.cell? ⟨gb273, 2, none⟩ = some (.bool a2_2) ∧ w'.cell? ⟨gb273, 3, none⟩ = some (.bool a2_3) ∧ w'.cell? ⟨gb280, 0, none⟩ = some (.bool t275) ∧ w'.cell? ⟨gb280, 1, none⟩ = some (.bool t276) ∧ w'.cell? ⟨gb280, 2, none⟩ = some (.bool t277) ∧ w'.cell? ⟨gb280, 3, none⟩ = some (.bool t278)) (ds := []) bb1_0 (by kernel_rfl) rfl rfl ⟨(blk_cell BK291.out 0).trans rfl, (blk_cell BK291.out 1).trans rfl, (blk_cell BK291.out 2).trans rfl, (blk_cell BK291.out 3).trans rfl, (blk_cell BK273.out 0).trans rfl, (blk_cell BK273.out 1).trans rfl, (blk_cell BK273.out 2).trans rfl, (blk_cell BK273.out 3).trans rfl, (blk_cell BK280.out 0).trans rfl, (blk_cell BK280.out 1).trans rfl, (blk_cell BK280.out 2).trans rfl, (blk_cell BK280.out 3).trans rfl⟩ (fun hHeld => ?_); refine with_tabW cleatlaw06_AluFlags.tab19 cleatlaw06_AluFlags.bits19 (fun HT_ HW_ => ?_)
             generalize wc.drew = w124 at BK271 BK272 BK273 BK280 BK283 BK291 HB hHeld ⊢
             refine one_ (i := 0) (N := some 85) bb1_1 rfl rfl (one_of HT_.out (by kernel_rfl)) (by decide) (fun K hK => ?_)
             refine goes_ Tryd.func7 (by kernel_rfl) rfl #[] (by rfl) rfl rfl (by (try simp only [List.map_toArray, List.map_cons, List.map_nil]); first | done | rfl | (simp only [List.length_drop, List.length_take]; rfl)) ?_
             with_reducible refine (cleatlaw06_done.calls kj78  true _ A113.out).mono ?_
             rintro e w125 ⟨rfl, hb⟩
             refine ⟨_, rfl, ?_⟩
             have n0_ := Aside0.mk (blk_below (g := gb271) (o := .cells #[.int .i64 a0_0, .int .i64 a0_1, .int .i64 a0_2, .int .i64 a0_3, .int .i64 a0_4, .int .i64 a0_5, .int .u64 a0_6, .int .i64 a0_7, .int .i64 a0_8, .int .i64 a0_9] 25 (0, 0)) (by (with_reducible repeat (first | refine blk_drewN ?_ _ | refine blk_drew ?_ | refine blk_alloc ?_ _)); exact BK271.out) hb)
             have n1_ := Aside0.mk (blk_below (g := gb272) (o := .cells #[.int .u64 a1_0, .int .u64 a1_1, .int .u64 a1_2, .int .u64 a1_3] 29 (0, 0)) (by (with_reducible repeat (first | refine blk_drewN ?_ _ | refine blk_drew ?_ | refine blk_alloc ?_ _)); exact BK272.out) hb)
             have n2_ := Aside0.mk (blk_below (g := gb273) (o := .cells #[.bool a2_0, .bool a2_1, .bool a2_2, .bool a2_3] 35 (0, 0)) (by (with_reducible repeat (first | refine blk_drewN ?_ _ | refine blk_drew ?_ | refine blk_alloc ?_ _)); exact BK273.out) hb)
             have n3_ := Aside0.mk (blk_below (g := gb280) (o := .cells #[.bool t275, .bool t276, .bool t277, .bool t278] 35 (0, 0)) (by (with_reducible repeat (first | refine blk_drewN ?_ _ | refine blk_drew ?_ | refine blk_alloc ?_ _)); exact BK280.out) hb)
             have n4_ := Aside0.mk (blk_below (g := gb283) (o := .cells #[.int .i64 x284000_5, .int .i64 a0_1, .int .i64 a0_2, .int .i64 a0_3, .int .i64 a0_4, .int .i64 a0_5, .int .u64 a0_6, .int .i64 a0_7, .int .i64 a0_8, .int .i64 a0_9] 25 (0, 0)) (by (with_reducible repeat (first | refine blk_drewN ?_ _ | refine blk_drew ?_ | refine blk_alloc ?_ _)); exact BK283.out) hb)
             have n5_ := Aside0.mk (blk_below (g := gb291) (o := .cells #[.bool t286, .bool t287, .bool t288, .bool t289] 35 (0, 0)) (by (with_reducible repeat (first | refine blk_drewN ?_ _ | refine blk_drew ?_ | refine blk_alloc ?_ _)); exact BK291.out) hb)
             have n6_ := Aside0.mk (below_step (by repeat (first | (with_reducible first | exact HB.out | apply below_alloc | apply pw_below_drewN | apply below_drew1 | refine below_set ?_ GE271.out | refine below_set ?_ GE272.out | refine below_set ?_ GE273.out | refine below_set ?_ GE280.out | refine below_set ?_ GE283.out | refine below_set ?_ GE291.out) | exact HB.out)) hb)
             clear BK271
             clear BK272
             clear BK273
             clear BK280
             clear BK283
             clear BK291
             clear HB
             have BK271 := n0_
             have BK272 := n1_
             have BK273 := n2_
             have BK280 := n3_
             have BK283 := n4_
             have BK291 := n5_
             have HB := n6_
             clear n0_ n1_ n2_ n3_ n4_ n5_ n6_
             (try clear hb)
             (try clear hb2)
             (try clear hk)
             (try clear hi)
             refine hK.out _ _ ⟨(blk_cell BK291.out 0).trans rfl, (blk_cell BK291.out 1).trans rfl, (blk_cell BK291.out 2).trans rfl, (blk_cell BK291.out 3).trans rfl, (blk_cell BK273.out 0).trans rfl, (blk_cell BK273.out 1).trans rfl, (blk_cell BK273.out 2).trans rfl, (blk_cell BK273.out 3).trans rfl, (blk_cell BK280.out 0).trans rfl, (blk_cell BK280.out 1).trans rfl, (blk_cell BK280.out 2).trans rfl, (blk_cell BK280.out 3).trans rfl⟩ (fun hHeld => ?_)
             clear hK K
             refine norm_ (a' := ?_) ?_ ?_
             rotate_left
             ·
              show Act.put _ (some 85) _ = _
              simp only [qa_, qb_, qc_, qd_, i64_w, i32_w]
              rfl
             refine pure_ (i := 1) (N := some 86) (v := ?_) (a' := ?_) bb1_2 rfl rfl (any_of HT_.out (by kernel_rfl)) (fun _ _ _ h => h) (Or.inl ⟨by rfl, ?_⟩) ?_ ?_
             rotate_left
             · intro w'; go_simp; with_reducible rfl
             rotate_left
             · simp only [qa_, qb_, qc_, qd_, i64_w, i32_w]; rfl
             refine pure_ (i := 2) (N := some 87) (v := ?_) (a' := ?_) bb1_3 rfl rfl (any_of HT_.out (by kernel_rfl)) (fun _ _ _ h => h) (Or.inl ⟨by rfl, ?_⟩) ?_ ?_
             rotate_left
             · intro w'; go_simp; with_reducible rfl
             rotate_left
             · simp only [qa_, qb_, qc_, qd_, i64_w, i32_w]; rfl
             refine pure_ (i := 3) (N := some 88) (v := ?_) (a' := ?_) bb1_4 rfl rfl (any_of HT_.out (by kernel_rfl)) (fun _ _ _ h => h) (Or.inl ⟨by rfl, ?_⟩) ?_ ?_
             rotate_left
             · intro w'; go_simp; with_reducible rfl
             rotate_left
             · simp only [qa_, qb_, qc_, qd_, i64_w, i32_w]; rfl
             refine pure_ (i := 4) (N := some 89) (v := ?_) (a' := ?_) bb1_5 rfl rfl (any_of HT_.out (by kernel_rfl)) (fun _ _ _ h => h) (Or.inl ⟨by rfl, ?_⟩) ?_ ?_
             rotate_left
             · intro w'; go_simp; with_reducible rfl
             rotate_left
             · simp only [qa_, qb_, qc_, qd_, i64_w, i32_w]; rfl
             refine pure_ (i := 5) (N := some 90) (v := ?_) (a' := ?_) bb1_6 rfl rfl (any_of HT_.out (by kernel_rfl)) (fun _ _ _ h => h) (Or.inl ⟨by rfl, ?_⟩) ?_ ?_
             rotate_left
             · intro w'; go_simp; with_reducible rfl
             rotate_left
             · simp only [qa_, qb_, qc_, qd_, i64_w, i32_w]; rfl
             refine pure_ (i := 6) (N := some 91) (v := ?_) (a' := ?_) bb1_7 rfl rfl (any_of HT_.out (by kernel_rfl)) (fun _ _ _ h => h) (Or.inl ⟨by rfl, ?_⟩) ?_ ?_
             rotate_left
             · intro w'; go_simp; with_reducible rfl
             rotate_left
             · simp only [qa_, qb_, qc_, qd_, i64_w, i32_w]; rfl
             refine pure_ (i := 7) (N := some 92) (v := ?_) (a' := ?_) bb1_8 rfl rfl (any_of HT_.out (by kernel_rfl)) (fun _ _ _ h => h) (Or.inl ⟨by rfl, ?_⟩) ?_ ?_
             rotate_left
             · intro w'; go_simp; with_reducible rfl
             rotate_left
             · simp only [qa_, qb_, qc_, qd_, i64_w, i32_w]; rfl
             refine pure_ (i := 8) (N := some 93) (v := ?_) (a' := ?_) bb1_9 rfl rfl (any_of HT_.out (by kernel_rfl)) (fun _ _ _ h => h) (Or.inl ⟨by rfl, ?_⟩) ?_ ?_
             rotate_left
             · intro w'; go_simp; with_reducible rfl
             rotate_left
             · simp only [qa_, qb_, qc_, qd_, i64_w, i32_w]; rfl
             refine pure_ (i := 9) (N := some 94) (v := ?_) (a' := ?_) bb1_10 rfl rfl (any_of HT_.out (by kernel_rfl)) (fun _ _ _ h => h) (Or.inl ⟨by rfl, ?_⟩) ?_ ?_
             rotate_left
             · intro w'; go_simp; with_reducible rfl
             rotate_left
             · simp only [qa_, qb_, qc_, qd_, i64_w, i32_w]; rfl
             refine pure_ (i := 10) (N := some 95) (v := ?_) (a' := ?_) bb1_11 rfl rfl (any_of HT_.out (by kernel_rfl)) (fun _ _ _ h => h) (Or.inl ⟨by rfl, ?_⟩) ?_ ?_
             rotate_left
             · intro w'; go_simp; with_reducible rfl
             rotate_left
             · simp only [qa_, qb_, qc_, qd_, i64_w, i32_w]; rfl
             refine take_ (i := 11) (N := some 96) (v := ?_) (a' := ?_) bb1_12 rfl rfl (take_ofW HT_.out HW_.out (by kernel_rfl)) (fun _ _ _ h => h) (Or.inl ⟨by rfl, ?_⟩) hHeld ?_ ?_
             rotate_left
             · rintro w' ⟨s0, s1, s2, s3, s4, s5, s6, s7, s8, s9, s10, s11⟩; go_simp; with_reducible rfl
             rotate_left
             · simp only [qa_, qb_, qc_, qd_, i64_w, i32_w]; rfl
             refine take_ (i := 12) (N := some 97) (v := ?_) (a' := ?_) bb1_13 rfl rfl (take_ofW HT_.out HW_.out (by kernel_rfl)) (fun _ _ _ h => h) (Or.inl ⟨by rfl, ?_⟩) hHeld ?_ ?_
             rotate_left
             · rintro w' ⟨s0, s1, s2, s3, s4, s5, s6, s7, s8, s9, s10, s11⟩; go_simp; with_reducible rfl
             rotate_left
             · simp only [qa_, qb_, qc_, qd_, i64_w, i32_w]; rfl
             refine pure_ (i := 13) (N := some 98) (v := ?_) (a' := ?_) bb1_14 rfl rfl (any_of HT_.out (by kernel_rfl)) (fun _ _ _ h => h) (Or.inl ⟨by rfl, ?_⟩) ?_ ?_
             rotate_left
             · intro w'; go_simp; with_reducible rfl
             rotate_left
             · simp only [qa_, qb_, qc_, qd_, i64_w, i32_w]; rfl
             refine pure_ (i := 14) (N := some 99) (v := ?_) (a' := ?_) bb1_15 rfl rfl (any_of HT_.out (by kernel_rfl)) (fun _ _ _ h => h) (Or.inl ⟨by rfl, ?_⟩) ?_ ?_
             rotate_left
             · intro w'; go_simp; with_reducible rfl
             rotate_left
             · simp only [qa_, qb_, qc_, qd_, i64_w, i32_w]; rfl
             refine pure_ (i := 15) (N := some 100) (v := ?_) (a' := ?_) bb1_16 rfl rfl (any_of HT_.out (by kernel_rfl)) (fun _ _ _ h => h) (Or.inl ⟨by rfl, ?_⟩) ?_ ?_
             rotate_left
             · intro w'; go_simp; with_reducible rfl
             rotate_left
             · simp only [qa_, qb_, qc_, qd_, i64_w, i32_w]; rfl
             refine pure_ (i := 16) (N := some 101) (v := ?_) (a' := ?_) bb1_17 rfl rfl (any_of HT_.out (by kernel_rfl)) (fun _ _ _ h => h) (Or.inl ⟨by rfl, ?_⟩) ?_ ?_
             rotate_left
             · intro w'; go_simp; with_reducible rfl
             rotate_left
             · simp only [qa_, qb_, qc_, qd_, i64_w, i32_w]; rfl
             refine pure_ (i := 18) (N := some 103) (v := ?_) (a' := ?_) bb1_18 rfl rfl (any_of HT_.out (by kernel_rfl)) (fun _ _ _ h => h) (Or.inl ⟨by rfl, ?_⟩) ?_ ?_
             rotate_left
             · intro w'; go_simp; with_reducible rfl
             rotate_left
             · simp only [qa_, qb_, qc_, qd_, i64_w, i32_w]; rfl
             refine take_ (i := 17) (N := some 102) (v := ?_) (a' := ?_) bb1_19 rfl rfl (take_ofW HT_.out HW_.out (by kernel_rfl)) (fun _ _ _ h => h) (Or.inl ⟨by rfl, ?_⟩) hHeld ?_ ?_
             rotate_left
             · rintro w' ⟨s0, s1, s2, s3, s4, s5, s6, s7, s8, s9, s10, s11⟩; go_simp; with_reducible rfl
             rotate_left
             · simp only [qa_, qb_, qc_, qd_, i64_w, i32_w]; rfl
             refine one_ (i := 19) (N := some 104) bb1_20 rfl rfl (one_of HT_.out (by kernel_rfl)) (by decide) (fun K hK => ?_)
             refine goes_ Tryd.func13 (by kernel_rfl) rfl #[.int .u64 t274] (by rfl) rfl rfl (by (try simp only [List.map_toArray, List.map_cons, List.map_nil]); first | done | rfl | (simp only [List.length_drop, List.length_take]; rfl)) ?_
             with_reducible refine (flag_Of.calls t274 t293 t294 t295 t296 _ A118.out).mono ?_
             rintro e w126 ⟨rfl, hb⟩
             refine ⟨_, rfl, ?_⟩
             have n0_ := Aside0.mk (blk_below (g := gb271) (o := .cells #[.int .i64 a0_0, .int .i64 a0_1, .int .i64 a0_2, .int .i64 a0_3, .int .i64 a0_4, .int .i64 a0_5, .int .u64 a0_6, .int .i64 a0_7, .int .i64 a0_8, .int .i64 a0_9] 25 (0, 0)) (by (with_reducible repeat (first | refine blk_drewN ?_ _ | refine blk_drew ?_ | refine blk_alloc ?_ _)); exact BK271.out) hb)
             have n1_ := Aside0.mk (blk_below (g := gb272) (o := .cells #[.int .u64 a1_0, .int .u64 a1_1, .int .u64 a1_2, .int .u64 a1_3] 29 (0, 0)) (by (with_reducible repeat (first | refine blk_drewN ?_ _ | refine blk_drew ?_ | refine blk_alloc ?_ _)); exact BK272.out) hb)
             have n2_ := Aside0.mk (blk_below (g := gb273) (o := .cells #[.bool a2_0, .bool a2_1, .bool a2_2, .bool a2_3] 35 (0, 0)) (by (with_reducible repeat (first | refine blk_drewN ?_ _ | refine blk_drew ?_ | refine blk_alloc ?_ _)); exact BK273.out) hb)
             have n3_ := Aside0.mk (blk_below (g := gb280) (o := .cells #[.bool t275, .bool t276, .bool t277, .bool t278] 35 (0, 0)) (by (with_reducible repeat (first | refine blk_drewN ?_ _ | refine blk_drew ?_ | refine blk_alloc ?_ _)); exact BK280.out) hb)
             have n4_ := Aside0.mk (blk_below (g := gb283) (o := .cells #[.int .i64 x284000_5, .int .i64 a0_1, .int .i64 a0_2, .int .i64 a0_3, .int .i64 a0_4, .int .i64 a0_5, .int .u64 a0_6, .int .i64 a0_7, .int .i64 a0_8, .int .i64 a0_9] 25 (0, 0)) (by (with_reducible repeat (first | refine blk_drewN ?_ _ | refine blk_drew ?_ | refine blk_alloc ?_ _)); exact BK283.out) hb)
             have n5_ := Aside0.mk (blk_below (g := gb291) (o := .cells #[.bool t286, .bool t287, .bool t288, .bool t289] 35 (0, 0)) (by (with_reducible repeat (first | refine blk_drewN ?_ _ | refine blk_drew ?_ | refine blk_alloc ?_ _)); exact BK291.out) hb)
             have n6_ := Aside0.mk (below_step (by repeat (first | (with_reducible first | exact HB.out | apply below_alloc | apply pw_below_drewN | apply below_drew1 | refine below_set ?_ GE271.out | refine below_set ?_ GE272.out | refine below_set ?_ GE273.out | refine below_set ?_ GE280.out | refine below_set ?_ GE283.out | refine below_set ?_ GE291.out) | exact HB.out)) hb)
             clear BK271
             clear BK272
             clear BK273
             clear BK280
             clear BK283
             clear BK291
             clear HB
             have BK271 := n0_
             have BK272 := n1_
             have BK273 := n2_
             have BK280 := n3_
             have BK283 := n4_
             have BK291 := n5_
             have HB := n6_
             clear n0_ n1_ n2_ n3_ n4_ n5_ n6_
             (try clear hb)
             (try clear hb2)
             (try clear hk)
             (try clear hi)
             refine hK.out _ _ ⟨(blk_cell BK291.out 0).trans rfl, (blk_cell BK291.out 1).trans rfl, (blk_cell BK291.out 2).trans rfl, (blk_cell BK291.out 3).trans rfl, (blk_cell BK273.out 0).trans rfl, (blk_cell BK273.out 1).trans rfl, (blk_cell BK273.out 2).trans rfl, (blk_cell BK273.out 3).trans rfl, (blk_cell BK280.out 0).trans rfl, (blk_cell BK280.out 1).trans rfl, (blk_cell BK280.out 2).trans rfl, (blk_cell BK280.out 3).trans rfl⟩ (fun hHeld => ?_)
             clear hK K
             refine norm_ (a' := ?_) ?_ ?_
             rotate_left
             ·
              show Act.put _ (some 104) _ = _
              simp only [qa_, qb_, qc_, qd_, i64_w, i32_w]
              rfl
             refine pure_ (i := 20) (N := some 105) (v := ?_) (a' := ?_) bb1_21 rfl rfl (any_of HT_.out (by kernel_rfl)) (fun _ _ _ h => h) (Or.inl ⟨by rfl, ?_⟩) ?_ ?_
             rotate_left
             · intro w'; go_simp; with_reducible rfl
             rotate_left
             · simp only [qa_, qb_, qc_, qd_, i64_w, i32_w]; rfl
             refine pure_ (i := 21) (N := some 106) (v := ?_) (a' := ?_) bb1_22 rfl rfl (any_of HT_.out (by kernel_rfl)) (fun _ _ _ h => h) (Or.inl ⟨by rfl, ?_⟩) ?_ ?_
             rotate_left
             · intro w'; go_simp; with_reducible rfl
             rotate_left
             · simp only [qa_, qb_, qc_, qd_, i64_w, i32_w]; rfl
             refine pure_ (i := 22) (N := some 107) (v := ?_) (a' := ?_) bb1_23 rfl rfl (any_of HT_.out (by kernel_rfl)) (fun _ _ _ h => h) (Or.inl ⟨by rfl, ?_⟩) ?_ ?_
             rotate_left
             · intro w'; go_simp; with_reducible rfl
             rotate_left
             · simp only [qa_, qb_, qc_, qd_, i64_w, i32_w]; rfl
             refine pure_ (i := 23) (N := some 108) (v := ?_) (a' := ?_) bb1_24 rfl rfl (any_of HT_.out (by kernel_rfl)) (fun _ _ _ h => h) (Or.inl ⟨by rfl, ?_⟩) ?_ ?_
             rotate_left
             · intro w'; go_simp; with_reducible rfl
             rotate_left
             · simp only [qa_, qb_, qc_, qd_, i64_w, i32_w]; rfl
             refine pure_ (i := 24) (N := some 109) (v := ?_) (a' := ?_) bb1_25 rfl rfl (any_of HT_.out (by kernel_rfl)) (fun _ _ _ h => h) (Or.inl ⟨by rfl, ?_⟩) ?_ ?_
             rotate_left
             · intro w'; go_simp; with_reducible rfl
             rotate_left
             · simp only [qa_, qb_, qc_, qd_, i64_w, i32_w]; rfl
             refine pure_ (i := 26) (N := some 111) (v := ?_) (a' := ?_) bb1_26 rfl rfl (any_of HT_.out (by kernel_rfl)) (fun _ _ _ h => h) (Or.inl ⟨by rfl, ?_⟩) ?_ ?_
             rotate_left
             · intro w'; go_simp; with_reducible rfl
             rotate_left
             · simp only [qa_, qb_, qc_, qd_, i64_w, i32_w]; rfl
             refine take_ (i := 25) (N := some 110) (v := ?_) (a' := ?_) bb1_27 rfl rfl (take_ofW HT_.out HW_.out (by kernel_rfl)) (fun _ _ _ h => h) (Or.inl ⟨by rfl, ?_⟩) hHeld ?_ ?_
             rotate_left
             · rintro w' ⟨s0, s1, s2, s3, s4, s5, s6, s7, s8, s9, s10, s11⟩; go_simp; with_reducible rfl
             rotate_left
             · simp only [qa_, qb_, qc_, qd_, i64_w, i32_w]; rfl
             refine one_ (i := 27) (N := some 112) bb1_28 rfl rfl (one_of HT_.out (by kernel_rfl)) (by decide) (fun K hK => ?_)
             refine goes_ Tryd.func13 (by kernel_rfl) rfl #[.int .u64 t274] (by rfl) rfl rfl (by (try simp only [List.map_toArray, List.map_cons, List.map_nil]); first | done | rfl | (simp only [List.length_drop, List.length_take]; rfl)) ?_
             with_reducible refine (flag_Of.calls t274 t297 t298 t299 t300 _ A120.out).mono ?_
             rintro e w127 ⟨rfl, hb⟩
             refine ⟨_, rfl, ?_⟩
             have n0_ := Aside0.mk (blk_below (g := gb271) (o := .cells #[.int .i64 a0_0, .int .i64 a0_1, .int .i64 a0_2, .int .i64 a0_3, .int .i64 a0_4, .int .i64 a0_5, .int .u64 a0_6, .int .i64 a0_7, .int .i64 a0_8, .int .i64 a0_9] 25 (0, 0)) (by (with_reducible repeat (first | refine blk_drewN ?_ _ | refine blk_drew ?_ | refine blk_alloc ?_ _)); exact BK271.out) hb)
             have n1_ := Aside0.mk (blk_below (g := gb272) (o := .cells #[.int .u64 a1_0, .int .u64 a1_1, .int .u64 a1_2, .int .u64 a1_3] 29 (0, 0)) (by (with_reducible repeat (first | refine blk_drewN ?_ _ | refine blk_drew ?_ | refine blk_alloc ?_ _)); exact BK272.out) hb)
             have n2_ := Aside0.mk (blk_below (g := gb273) (o := .cells #[.bool a2_0, .bool a2_1, .bool a2_2, .bool a2_3] 35 (0, 0)) (by (with_reducible repeat (first | refine blk_drewN ?_ _ | refine blk_drew ?_ | refine blk_alloc ?_ _)); exact BK273.out) hb)
             have n3_ := Aside0.mk (blk_below (g := gb280) (o := .cells #[.bool t275, .bool t276, .bool t277, .bool t278] 35 (0, 0)) (by (with_reducible repeat (first | refine blk_drewN ?_ _ | refine blk_drew ?_ | refine blk_alloc ?_ _)); exact BK280.out) hb)
             have n4_ := Aside0.mk (blk_below (g := gb283) (o := .cells #[.int .i64 x284000_5, .int .i64 a0_1, .int .i64 a0_2, .int .i64 a0_3, .int .i64 a0_4, .int .i64 a0_5, .int .u64 a0_6, .int .i64 a0_7, .int .i64 a0_8, .int .i64 a0_9] 25 (0, 0)) (by (with_reducible repeat (first | refine blk_drewN ?_ _ | refine blk_drew ?_ | refine blk_alloc ?_ _)); exact BK283.out) hb)
             have n5_ := Aside0.mk (blk_below (g := gb291) (o := .cells #[.bool t286, .bool t287, .bool t288, .bool t289] 35 (0, 0)) (by (with_reducible repeat (first | refine blk_drewN ?_ _ | refine blk_drew ?_ | refine blk_alloc ?_ _)); exact BK291.out) hb)
             have n6_ := Aside0.mk (below_step (by repeat (first | (with_reducible first | exact HB.out | apply below_alloc | apply pw_below_drewN | apply below_drew1 | refine below_set ?_ GE271.out | refine below_set ?_ GE272.out | refine below_set ?_ GE273.out | refine below_set ?_ GE280.out | refine below_set ?_ GE283.out | refine below_set ?_ GE291.out) | exact HB.out)) hb)
             clear BK271
             clear BK272
             clear BK273
             clear BK280
             clear BK283
             clear BK291
             clear HB
             have BK271 := n0_
             have BK272 := n1_
             have BK273 := n2_
             have BK280 := n3_
             have BK283 := n4_
             have BK291 := n5_
             have HB := n6_
             clear n0_ n1_ n2_ n3_ n4_ n5_ n6_
             (try clear hb)
             (try clear hb2)
             (try clear hk)
             (try clear hi)
             refine hK.out _ _ ⟨(blk_cell BK291.out 0).trans rfl, (blk_cell BK291.out 1).trans rfl, (blk_cell BK291.out 2).trans rfl, (blk_cell BK291.out 3).trans rfl, (blk_cell BK273.out 0).trans rfl, (blk_cell BK273.out 1).trans rfl, (blk_cell BK273.out 2).trans rfl, (blk_cell BK273.out 3).trans rfl, (blk_cell BK280.out 0).trans rfl, (blk_cell BK280.out 1).trans rfl, (blk_cell BK280.out 2).trans rfl, (blk_cell BK280.out 3).trans rfl⟩ (fun hHeld => ?_)
             clear hK K
             refine norm_ (a' := ?_) ?_ ?_
             rotate_left
             ·
              show Act.put _ (some 112) _ = _
              simp only [qa_, qb_, qc_, qd_, i64_w, i32_w]
              rfl
             refine pure_ (i := 28) (N := some 113) (v := ?_) (a' := ?_) bb1_29 rfl rfl (any_of HT_.out (by kernel_rfl)) (fun _ _ _ h => h) (Or.inl ⟨by rfl, ?_⟩) ?_ ?_
             rotate_left
             · intro w'; go_simp; with_reducible rfl
             rotate_left
             · simp only [qa_, qb_, qc_, qd_, i64_w, i32_w]; rfl
             refine pure_ (i := 29) (N := some 114) (v := ?_) (a' := ?_) bb1_30 rfl rfl (any_of HT_.out (by kernel_rfl)) (fun _ _ _ h => h) (Or.inl ⟨by rfl, ?_⟩) ?_ ?_
             rotate_left
             · intro w'; go_simp; with_reducible rfl
             rotate_left
             · simp only [qa_, qb_, qc_, qd_, i64_w, i32_w]; rfl
             refine pure_ (i := 30) (N := some 115) (v := ?_) (a' := ?_) bb1_31 rfl rfl (any_of HT_.out (by kernel_rfl)) (fun _ _ _ h => h) (Or.inl ⟨by rfl, ?_⟩) ?_ ?_
             rotate_left
             · intro w'; go_simp; with_reducible rfl
             rotate_left
             · simp only [qa_, qb_, qc_, qd_, i64_w, i32_w]; rfl
             refine pure_ (i := 31) (N := some 116) (v := ?_) (a' := ?_) bb1_32 rfl rfl (any_of HT_.out (by kernel_rfl)) (fun _ _ _ h => h) (Or.inl ⟨by rfl, ?_⟩) ?_ ?_
             rotate_left
             · intro w'; go_simp; with_reducible rfl
             rotate_left
             · simp only [qa_, qb_, qc_, qd_, i64_w, i32_w]; rfl
             refine pure_ (i := 32) (N := some 117) (v := ?_) (a' := ?_) bb1_33 rfl rfl (any_of HT_.out (by kernel_rfl)) (fun _ _ _ h => h) (Or.inl ⟨by rfl, ?_⟩) ?_ ?_
             rotate_left
             · intro w'; go_simp; with_reducible rfl
             rotate_left
             · simp only [qa_, qb_, qc_, qd_, i64_w, i32_w]; rfl
             refine pure_ (i := 33) (N := some 118) (v := ?_) (a' := ?_) bb1_34 rfl rfl (any_of HT_.out (by kernel_rfl)) (fun _ _ _ h => h) (Or.inl ⟨by rfl, ?_⟩) ?_ ?_
             rotate_left
             · intro w'; go_simp; with_reducible rfl
             rotate_left
             · simp only [qa_, qb_, qc_, qd_, i64_w, i32_w]; rfl
             refine pure_ (i := 34) (N := some 119) (v := ?_) (a' := ?_) bb1_35 rfl rfl (any_of HT_.out (by kernel_rfl)) (fun _ _ _ h => h) (Or.inl ⟨by rfl, ?_⟩) ?_ ?_
             rotate_left
             · intro w'; go_simp; with_reducible rfl
             rotate_left
             · simp only [qa_, qb_, qc_, qd_, i64_w, i32_w]; rfl
             refine pure_ (i := 36) (N := some 121) (v := ?_) (a' := ?_) #[true, true, true, true, true, true, true, true, true, true, true, true, true, true, true, true, true, true, true, true, true, true, true, true, true, true, true, true, true, true, true, true, true, true, true, false, true, false, false, false, false, false] rfl rfl (any_of HT_.out (by kernel_rfl)) (fun _ _ _ h => h) (Or.inl ⟨by rfl, ?_⟩) ?_ ?_
             rotate_left
             · intro w'; go_simp; with_reducible rfl
             rotate_left
             · simp only [qa_, qb_, qc_, qd_, i64_w, i32_w]; rfl
             refine take_ (i := 35) (N := some 120) (v := ?_) (a' := ?_) bb1_36 rfl rfl (take_ofW HT_.out HW_.out (by kernel_rfl)) (fun _ _ _ h => h) (Or.inl ⟨by rfl, ?_⟩) hHeld ?_ ?_
             rotate_left
             · rintro w' ⟨s0, s1, s2, s3, s4, s5, s6, s7, s8, s9, s10, s11⟩; go_simp; with_reducible rfl
             rotate_left
             · simp only [qa_, qb_, qc_, qd_, i64_w, i32_w]; rfl
             refine one_ (i := 37) (N := some 122) bb1_37 rfl rfl (one_of HT_.out (by kernel_rfl)) (by decide) (fun K hK => ?_)
             refine goes_ Tryd.func13 (by kernel_rfl) rfl #[.int .u64 t274] (by rfl) rfl rfl (by (try simp only [List.map_toArray, List.map_cons, List.map_nil]); first | done | rfl | (simp only [List.length_drop, List.length_take]; rfl)) ?_
             with_reducible refine (flag_Of.calls t274 t301 t302 t303 t304 _ A123.out).mono ?_
             rintro e w128 ⟨rfl, hb⟩
             refine ⟨_, rfl, ?_⟩
             have n0_ := Aside0.mk (blk_below (g := gb271) (o := .cells #[.int .i64 a0_0, .int .i64 a0_1, .int .i64 a0_2, .int .i64 a0_3, .int .i64 a0_4, .int .i64 a0_5, .int .u64 a0_6, .int .i64 a0_7, .int .i64 a0_8, .int .i64 a0_9] 25 (0, 0)) (by (with_reducible repeat (first | refine blk_drewN ?_ _ | refine blk_drew ?_ | refine blk_alloc ?_ _)); exact BK271.out) hb)
             have n1_ := Aside0.mk (blk_below (g := gb272) (o := .cells #[.int .u64 a1_0, .int .u64 a1_1, .int .u64 a1_2, .int .u64 a1_3] 29 (0, 0)) (by (with_reducible repeat (first | refine blk_drewN ?_ _ | refine blk_drew ?_ | refine blk_alloc ?_ _)); exact BK272.out) hb)
             have n2_ := Aside0.mk (blk_below (g := gb273) (o := .cells #[.bool a2_0, .bool a2_1, .bool a2_2, .bool a2_3] 35 (0, 0)) (by (with_reducible repeat (first | refine blk_drewN ?_ _ | refine blk_drew ?_ | refine blk_alloc ?_ _)); exact BK273.out) hb)
             have n3_ := Aside0.mk (blk_below (g := gb280) (o := .cells #[.bool t275, .bool t276, .bool t277, .bool t278] 35 (0, 0)) (by (with_reducible repeat (first | refine blk_drewN ?_ _ | refine blk_drew ?_ | refine blk_alloc ?_ _)); exact BK280.out) hb)
             have n4_ := Aside0.mk (blk_below (g := gb283) (o := .cells #[.int .i64 x284000_5, .int .i64 a0_1, .int .i64 a0_2, .int .i64 a0_3, .int .i64 a0_4, .int .i64 a0_5, .int .u64 a0_6, .int .i64 a0_7, .int .i64 a0_8, .int .i64 a0_9] 25 (0, 0)) (by (with_reducible repeat (first | refine blk_drewN ?_ _ | refine blk_drew ?_ | refine blk_alloc ?_ _)); exact BK283.out) hb)
             have n5_ := Aside0.mk (blk_below (g := gb291) (o := .cells #[.bool t286, .bool t287, .bool t288, .bool t289] 35 (0, 0)) (by (with_reducible repeat (first | refine blk_drewN ?_ _ | refine blk_drew ?_ | refine blk_alloc ?_ _)); exact BK291.out) hb)
             have n6_ := Aside0.mk (below_step (by repeat (first | (with_reducible first | exact HB.out | apply below_alloc | apply pw_below_drewN | apply below_drew1 | refine below_set ?_ GE271.out | refine below_set ?_ GE272.out | refine below_set ?_ GE273.out | refine below_set ?_ GE280.out | refine below_set ?_ GE283.out | refine below_set ?_ GE291.out) | exact HB.out)) hb)
             clear BK271
             clear BK272
             clear BK273
             clear BK280
             clear BK283
             clear BK291
             clear HB
             have BK271 := n0_
             have BK272 := n1_
             have BK273 := n2_
             have BK280 := n3_
             have BK283 := n4_
             have BK291 := n5_
             have HB := n6_
             clear n0_ n1_ n2_ n3_ n4_ n5_ n6_
             (try clear hb)
             (try clear hb2)
             (try clear hk)
             (try clear hi)
             refine hK.out _ _ ⟨(blk_cell BK291.out 0).trans rfl, (blk_cell BK291.out 1).trans rfl, (blk_cell BK291.out 2).trans rfl, (blk_cell BK291.out 3).trans rfl, (blk_cell BK273.out 0).trans rfl, (blk_cell BK273.out 1).trans rfl, (blk_cell BK273.out 2).trans rfl, (blk_cell BK273.out 3).trans rfl, (blk_cell BK280.out 0).trans rfl, (blk_cell BK280.out 1).trans rfl, (blk_cell BK280.out 2).trans rfl, (blk_cell BK280.out 3).trans rfl⟩ (fun hHeld => ?_)
             clear hK K
             refine norm_ (a' := ?_) ?_ ?_
             rotate_left
             ·
              show Act.put _ (some 122) _ = _
              simp only [qa_, qb_, qc_, qd_, i64_w, i32_w]
              rfl
             refine pure_ (i := 38) (N := some 123) (v := ?_) (a' := ?_) bb1_38 rfl rfl (any_of HT_.out (by kernel_rfl)) (fun _ _ _ h => h) (Or.inl ⟨by rfl, ?_⟩) ?_ ?_
             rotate_left
             · intro w'; go_simp; with_reducible rfl
             rotate_left
             · simp only [qa_, qb_, qc_, qd_, i64_w, i32_w]; rfl
             refine pure_ (i := 39) (N := some 124) (v := ?_) (a' := ?_) bb1_39 rfl rfl (any_of HT_.out (by kernel_rfl)) (fun _ _ _ h => h) (Or.inl ⟨by rfl, ?_⟩) ?_ ?_
             rotate_left
             · intro w'; go_simp; with_reducible rfl
             rotate_left
             · simp only [qa_, qb_, qc_, qd_, i64_w, i32_w]; rfl
             refine pure_ (i := 40) (N := some 125) (v := ?_) (a' := ?_) bb1_40 rfl rfl (any_of HT_.out (by kernel_rfl)) (fun _ _ _ h => h) (Or.inl ⟨by rfl, ?_⟩) ?_ ?_
             rotate_left
             · intro w'; go_simp; with_reducible rfl
             rotate_left
             · simp only [qa_, qb_, qc_, qd_, i64_w, i32_w]; rfl
             refine pure_ (i := 41) (N := some 6) (v := ?_) (a' := ?_) bb1_41 rfl rfl (any_of HT_.out (by kernel_rfl)) (fun _ _ _ h => h) (Or.inl ⟨by rfl, ?_⟩) ?_ ?_
             rotate_left
             · intro w'; go_simp; with_reducible rfl
             rotate_left
             · simp only [qa_, qb_, qc_, qd_, i64_w, i32_w]; rfl
             refine done_ (done_of HT_.out (by kernel_rfl)) ?_
             try go_wp2
             go_ret
             exact ⟨by first | rfl | (simp [errW_none, errW_some] <;> rfl) | (simp [*, errW_none, errW_some] <;> rfl), by repeat (first | (with_reducible first | exact HB.out | apply below_alloc | apply pw_below_drewN | apply below_drew1 | refine below_set ?_ GE271.out | refine below_set ?_ GE272.out | refine below_set ?_ GE273.out | refine below_set ?_ GE280.out | refine below_set ?_ GE283.out | refine below_set ?_ GE291.out) | exact HB.out)⟩
            ·
             replace c122 := Bool.eq_false_iff.mpr c122
             subst c122
             have H1 : (some true) = some r := by rw [if_neg (show ¬ (false = true) by decide)] at H; exact H
             clear H
             have H := H1
             clear H1
             obtain rfl := Option.some.inj H
             try go_wp2
             have n0_ := Aside0.mk (blk_drew BK271.out)
             have n1_ := Aside0.mk (blk_drew BK272.out)
             have n2_ := Aside0.mk (blk_drew BK273.out)
             have n3_ := Aside0.mk (blk_drew BK280.out)
             have n4_ := Aside0.mk (blk_drew BK283.out)
             have n5_ := Aside0.mk (blk_drew BK291.out)
             have n6_ := Aside0.mk (below_drew1 HB.out)
             clear BK271
             clear BK272
             clear BK273
             clear BK280
             clear BK283
             clear BK291
             clear HB
             have BK271 := n0_
             have BK272 := n1_
             have BK273 := n2_
             have BK280 := n3_
             have BK283 := n4_
             have BK291 := n5_
             have HB := n6_
             clear n0_ n1_ n2_ n3_ n4_ n5_ n6_
             refine start_ (n := 42) (S := fun w' => w'.cell? ⟨gb291, 0, none⟩ = some (.bool t286) ∧ w'.cell? ⟨gb291, 1, none⟩ = some (.bool t287) ∧ w'.cell? ⟨gb291, 2, none⟩ = some (.bool t288) ∧ w'.cell? ⟨gb291, 3, none⟩ = some (.bool t289) ∧ w'.cell? ⟨gb273, 0, none⟩ = some (.bool a2_0) ∧ w'.cell? ⟨gb273, 1, none⟩ = some (.bool a2_1) ∧ w'.cell? ⟨gb273, 2, none⟩ = some (.bool a2_2) ∧ w'.cell? ⟨gb273, 3, none⟩ = some (.bool a2_3) ∧ w'.cell? ⟨gb280, 0, none⟩ = some (.bool t275) ∧ w'.cell? ⟨gb280, 1, none⟩ = some (.bool t276) ∧ w'.cell? ⟨gb280, 2, none⟩ = some (.bool t277) ∧ w'.cell? ⟨gb280, 3, none⟩ = some (.bool t278)) (ds := []) bb1_0 (by kernel_rfl) rfl rfl ⟨(blk_cell BK291.out 0).trans rfl, (blk_cell BK291.out 1).trans rfl, (blk_cell BK291.out 2).trans rfl, (blk_cell BK291.out 3).trans rfl, (blk_cell BK273.out 0).trans rfl, (blk_cell BK273.out 1).trans rfl, (blk_cell BK273.out 2).trans rfl, (blk_cell BK273.out 3).trans rfl, (blk_cell BK280.out 0).trans rfl, (blk_cell BK280.out 1).trans rfl, (blk_cell BK280.out 2).trans rfl, (blk_cell BK280.out 3).trans rfl⟩ (fun hHeld => ?_); refine with_tabW cleatlaw06_AluFlags.tab19 cleatlaw06_AluFlags.bits19 (fun HT_ HW_ => ?_)
             generalize wc.drew = w129 at BK271 BK272 BK273 BK280 BK283 BK291 HB hHeld ⊢
             refine one_ (i := 0) (N := some 85) bb1_1 rfl rfl (one_of HT_.out (by kernel_rfl)) (by decide) (fun K hK => ?_)
             refine goes_ Tryd.func7 (by kernel_rfl) rfl #[] (by rfl) rfl rfl (by (try simp only [List.map_toArray, List.map_cons, List.map_nil]); first | done | rfl | (simp only [List.length_drop, List.length_take]; rfl)) ?_
             with_reducible refine (cleatlaw06_done.calls kj78  true _ A113.out).mono ?_
             rintro e w130 ⟨rfl, hb⟩
             refine ⟨_, rfl, ?_⟩
             have n0_ := Aside0.mk (blk_below (g := gb271) (o := .cells #[.int .i64 a0_0, .int .i64 a0_1, .int .i64 a0_2, .int .i64 a0_3, .int .i64 a0_4, .int .i64 a0_5, .int .u64 a0_6, .int .i64 a0_7, .int .i64 a0_8, .int .i64 a0_9] 25 (0, 0)) (by (with_reducible repeat (first | refine blk_drewN ?_ _ | refine blk_drew ?_ | refine blk_alloc ?_ _)); exact BK271.out) hb)
             have n1_ := Aside0.mk (blk_below (g := gb272) (o := .cells #[.int .u64 a1_0, .int .u64 a1_1, .int .u64 a1_2, .int .u64 a1_3] 29 (0, 0)) (by (with_reducible repeat (first | refine blk_drewN ?_ _ | refine blk_drew ?_ | refine blk_alloc ?_ _)); exact BK272.out) hb)
             have n2_ := Aside0.mk (blk_below (g := gb273) (o := .cells #[.bool a2_0, .bool a2_1, .bool a2_2, .bool a2_3] 35 (0, 0)) (by (with_reducible repeat (first | refine blk_drewN ?_ _ | refine blk_drew ?_ | refine blk_alloc ?_ _)); exact BK273.out) hb)
             have n3_ := Aside0.mk (blk_below (g := gb280) (o := .cells #[.bool t275, .bool t276, .bool t277, .bool t278] 35 (0, 0)) (by (with_reducible repeat (first | refine blk_drewN ?_ _ | refine blk_drew ?_ | refine blk_alloc ?_ _)); exact BK280.out) hb)
             have n4_ := Aside0.mk (blk_below (g := gb283) (o := .cells #[.int .i64 x284000_5, .int .i64 a0_1, .int .i64 a0_2, .int .i64 a0_3, .int .i64 a0_4, .int .i64 a0_5, .int .u64 a0_6, .int .i64 a0_7, .int .i64 a0_8, .int .i64 a0_9] 25 (0, 0)) (by (with_reducible repeat (first | refine blk_drewN ?_ _ | refine blk_drew ?_ | refine blk_alloc ?_ _)); exact BK283.out) hb)
             have n5_ := Aside0.mk (blk_below (g := gb291) (o := .cells #[.bool t286, .bool t287, .bool t288, .bool t289] 35 (0, 0)) (by (with_reducible repeat (first | refine blk_drewN ?_ _ | refine blk_drew ?_ | refine blk_alloc ?_ _)); exact BK291.out) hb)
             have n6_ := Aside0.mk (below_step (by repeat (first | (with_reducible first | exact HB.out | apply below_alloc | apply pw_below_drewN | apply below_drew1 | refine below_set ?_ GE271.out | refine below_set ?_ GE272.out | refine below_set ?_ GE273.out | refine below_set ?_ GE280.out | refine below_set ?_ GE283.out | refine below_set ?_ GE291.out) | exact HB.out)) hb)
             clear BK271
             clear BK272
             clear BK273
             clear BK280
             clear BK283
             clear BK291
             clear HB
             have BK271 := n0_
             have BK272 := n1_
             have BK273 := n2_
             have BK280 := n3_
             have BK283 := n4_
             have BK291 := n5_
             have HB := n6_
             clear n0_ n1_ n2_ n3_ n4_ n5_ n6_
             (try clear hb)
             (try clear hb2)
             (try clear hk)
             (try clear hi)
             refine hK.out _ _ ⟨(blk_cell BK291.out 0).trans rfl, (blk_cell BK291.out 1).trans rfl, (blk_cell BK291.out 2).trans rfl, (blk_cell BK291.out 3).trans rfl, (blk_cell BK273.out 0).trans rfl, (blk_cell BK273.out 1).trans rfl, (blk_cell BK273.out 2).trans rfl, (blk_cell BK273.out 3).trans rfl, (blk_cell BK280.out 0).trans rfl, (blk_cell BK280.out 1).trans rfl, (blk_cell BK280.out 2).trans rfl, (blk_cell BK280.out 3).trans rfl⟩ (fun hHeld => ?_)
             clear hK K
             refine norm_ (a' := ?_) ?_ ?_
             rotate_left
             ·
              show Act.put _ (some 85) _ = _
              simp only [qa_, qb_, qc_, qd_, i64_w, i32_w]
              rfl
             refine pure_ (i := 1) (N := some 86) (v := ?_) (a' := ?_) bb1_2 rfl rfl (any_of HT_.out (by kernel_rfl)) (fun _ _ _ h => h) (Or.inl ⟨by rfl, ?_⟩) ?_ ?_
             rotate_left
             · intro w'; go_simp; with_reducible rfl
             rotate_left
             · simp only [qa_, qb_, qc_, qd_, i64_w, i32_w]; rfl
             refine pure_ (i := 2) (N := some 87) (v := ?_) (a' := ?_) bb1_3 rfl rfl (any_of HT_.out (by kernel_rfl)) (fun _ _ _ h => h) (Or.inl ⟨by rfl, ?_⟩) ?_ ?_
             rotate_left
             · intro w'; go_simp; with_reducible rfl
             rotate_left
             · simp only [qa_, qb_, qc_, qd_, i64_w, i32_w]; rfl
             refine pure_ (i := 3) (N := some 88) (v := ?_) (a' := ?_) bb1_4 rfl rfl (any_of HT_.out (by kernel_rfl)) (fun _ _ _ h => h) (Or.inl ⟨by rfl, ?_⟩) ?_ ?_
             rotate_left
             · intro w'; go_simp; with_reducible rfl
             rotate_left
             · simp only [qa_, qb_, qc_, qd_, i64_w, i32_w]; rfl
             refine pure_ (i := 4) (N := some 89) (v := ?_) (a' := ?_) bb1_5 rfl rfl (any_of HT_.out (by kernel_rfl)) (fun _ _ _ h => h) (Or.inl ⟨by rfl, ?_⟩) ?_ ?_
             rotate_left
             · intro w'; go_simp; with_reducible rfl
             rotate_left
             · simp only [qa_, qb_, qc_, qd_, i64_w, i32_w]; rfl
             refine pure_ (i := 5) (N := some 90) (v := ?_) (a' := ?_) bb1_6 rfl rfl (any_of HT_.out (by kernel_rfl)) (fun _ _ _ h => h) (Or.inl ⟨by rfl, ?_⟩) ?_ ?_
             rotate_left
             · intro w'; go_simp; with_reducible rfl
             rotate_left
             · simp only [qa_, qb_, qc_, qd_, i64_w, i32_w]; rfl
             refine pure_ (i := 6) (N := some 91) (v := ?_) (a' := ?_) bb1_7 rfl rfl (any_of HT_.out (by kernel_rfl)) (fun _ _ _ h => h) (Or.inl ⟨by rfl, ?_⟩) ?_ ?_
             rotate_left
             · intro w'; go_simp; with_reducible rfl
             rotate_left
             · simp only [qa_, qb_, qc_, qd_, i64_w, i32_w]; rfl
             refine pure_ (i := 7) (N := some 92) (v := ?_) (a' := ?_) bb1_8 rfl rfl (any_of HT_.out (by kernel_rfl)) (fun _ _ _ h => h) (Or.inl ⟨by rfl, ?_⟩) ?_ ?_
             rotate_left
             · intro w'; go_simp; with_reducible rfl
             rotate_left
             · simp only [qa_, qb_, qc_, qd_, i64_w, i32_w]; rfl
             refine pure_ (i := 8) (N := some 93) (v := ?_) (a' := ?_) bb1_9 rfl rfl (any_of HT_.out (by kernel_rfl)) (fun _ _ _ h => h) (Or.inl ⟨by rfl, ?_⟩) ?_ ?_
             rotate_left
             · intro w'; go_simp; with_reducible rfl
             rotate_left
             · simp only [qa_, qb_, qc_, qd_, i64_w, i32_w]; rfl
             refine pure_ (i := 9) (N := some 94) (v := ?_) (a' := ?_) bb1_10 rfl rfl (any_of HT_.out (by kernel_rfl)) (fun _ _ _ h => h) (Or.inl ⟨by rfl, ?_⟩) ?_ ?_
             rotate_left
             · intro w'; go_simp; with_reducible rfl
             rotate_left
             · simp only [qa_, qb_, qc_, qd_, i64_w, i32_w]; rfl
             refine pure_ (i := 10) (N := some 95) (v := ?_) (a' := ?_) bb1_11 rfl rfl (any_of HT_.out (by kernel_rfl)) (fun _ _ _ h => h) (Or.inl ⟨by rfl, ?_⟩) ?_ ?_
             rotate_left
             · intro w'; go_simp; with_reducible rfl
             rotate_left
             · simp only [qa_, qb_, qc_, qd_, i64_w, i32_w]; rfl
             refine take_ (i := 11) (N := some 96) (v := ?_) (a' := ?_) bb1_12 rfl rfl (take_ofW HT_.out HW_.out (by kernel_rfl)) (fun _ _ _ h => h) (Or.inl ⟨by rfl, ?_⟩) hHeld ?_ ?_
             rotate_left
             · rintro w' ⟨s0, s1, s2, s3, s4, s5, s6, s7, s8, s9, s10, s11⟩; go_simp; with_reducible rfl
             rotate_left
             · simp only [qa_, qb_, qc_, qd_, i64_w, i32_w]; rfl
             refine take_ (i := 12) (N := some 97) (v := ?_) (a' := ?_) bb1_13 rfl rfl (take_ofW HT_.out HW_.out (by kernel_rfl)) (fun _ _ _ h => h) (Or.inl ⟨by rfl, ?_⟩) hHeld ?_ ?_
             rotate_left
             · rintro w' ⟨s0, s1, s2, s3, s4, s5, s6, s7, s8, s9, s10, s11⟩; go_simp; with_reducible rfl
             rotate_left
             · simp only [qa_, qb_, qc_, qd_, i64_w, i32_w]; rfl
             refine pure_ (i := 13) (N := some 98) (v := ?_) (a' := ?_) bb1_14 rfl rfl (any_of HT_.out (by kernel_rfl)) (fun _ _ _ h => h) (Or.inl ⟨by rfl, ?_⟩) ?_ ?_
             rotate_left
             · intro w'; go_simp; with_reducible rfl
             rotate_left
             · simp only [qa_, qb_, qc_, qd_, i64_w, i32_w]; rfl
             refine pure_ (i := 14) (N := some 99) (v := ?_) (a' := ?_) bb1_15 rfl rfl (any_of HT_.out (by kernel_rfl)) (fun _ _ _ h => h) (Or.inl ⟨by rfl, ?_⟩) ?_ ?_
             rotate_left
             · intro w'; go_simp; with_reducible rfl
             rotate_left
             · simp only [qa_, qb_, qc_, qd_, i64_w, i32_w]; rfl
             refine pure_ (i := 15) (N := some 100) (v := ?_) (a' := ?_) bb1_16 rfl rfl (any_of HT_.out (by kernel_rfl)) (fun _ _ _ h => h) (Or.inl ⟨by rfl, ?_⟩) ?_ ?_
             rotate_left
             · intro w'; go_simp; with_reducible rfl
             rotate_left
             · simp only [qa_, qb_, qc_, qd_, i64_w, i32_w]; rfl
             refine pure_ (i := 16) (N := some 101) (v := ?_) (a' := ?_) bb1_17 rfl rfl (any_of HT_.out (by kernel_rfl)) (fun _ _ _ h => h) (Or.inl ⟨by rfl, ?_⟩) ?_ ?_
             rotate_left
             · intro w'; go_simp; with_reducible rfl
             rotate_left
             · simp only [qa_, qb_, qc_, qd_, i64_w, i32_w]; rfl
             refine pure_ (i := 18) (N := some 103) (v := ?_) (a' := ?_) bb1_18 rfl rfl (any_of HT_.out (by kernel_rfl)) (fun _ _ _ h => h) (Or.inl ⟨by rfl, ?_⟩) ?_ ?_
             rotate_left
             · intro w'; go_simp; with_reducible rfl
             rotate_left
             · simp only [qa_, qb_, qc_, qd_, i64_w, i32_w]; rfl
             refine take_ (i := 17) (N := some 102) (v := ?_) (a' := ?_) bb1_19 rfl rfl (take_ofW HT_.out HW_.out (by kernel_rfl)) (fun _ _ _ h => h) (Or.inl ⟨by rfl, ?_⟩) hHeld ?_ ?_
             rotate_left
             · rintro w' ⟨s0, s1, s2, s3, s4, s5, s6, s7, s8, s9, s10, s11⟩; go_simp; with_reducible rfl
             rotate_left
             · simp only [qa_, qb_, qc_, qd_, i64_w, i32_w]; rfl
             refine one_ (i := 19) (N := some 104) bb1_20 rfl rfl (one_of HT_.out (by kernel_rfl)) (by decide) (fun K hK => ?_)
             refine goes_ Tryd.func13 (by kernel_rfl) rfl #[.int .u64 t274] (by rfl) rfl rfl (by (try simp only [List.map_toArray, List.map_cons, List.map_nil]); first | done | rfl | (simp only [List.length_drop, List.length_take]; rfl)) ?_
             with_reducible refine (flag_Of.calls t274 t293 t294 t295 t296 _ A118.out).mono ?_
             rintro e w131 ⟨rfl, hb⟩
             refine ⟨_, rfl, ?_⟩
             have n0_ := Aside0.mk (blk_below (g := gb271) (o := .cells #[.int .i64 a0_0, .int .i64 a0_1, .int .i64 a0_2, .int .i64 a0_3, .int .i64 a0_4, .int .i64 a0_5, .int .u64 a0_6, .int .i64 a0_7, .int .i64 a0_8, .int .i64 a0_9] 25 (0, 0)) (by (with_reducible repeat (first | refine blk_drewN ?_ _ | refine blk_drew ?_ | refine blk_alloc ?_ _)); exact BK271.out) hb)
             have n1_ := Aside0.mk (blk_below (g := gb272) (o := .cells #[.int .u64 a1_0, .int .u64 a1_1, .int .u64 a1_2, .int .u64 a1_3] 29 (0, 0)) (by (with_reducible repeat (first | refine blk_drewN ?_ _ | refine blk_drew ?_ | refine blk_alloc ?_ _)); exact BK272.out) hb)
             have n2_ := Aside0.mk (blk_below (g := gb273) (o := .cells #[.bool a2_0, .bool a2_1, .bool a2_2, .bool a2_3] 35 (0, 0)) (by (with_reducible repeat (first | refine blk_drewN ?_ _ | refine blk_drew ?_ | refine blk_alloc ?_ _)); exact BK273.out) hb)
             have n3_ := Aside0.mk (blk_below (g := gb280) (o := .cells #[.bool t275, .bool t276, .bool t277, .bool t278] 35 (0, 0)) (by (with_reducible repeat (first | refine blk_drewN ?_ _ | refine blk_drew ?_ | refine blk_alloc ?_ _)); exact BK280.out) hb)
             have n4_ := Aside0.mk (blk_below (g := gb283) (o := .cells #[.int .i64 x284000_5, .int .i64 a0_1, .int .i64 a0_2, .int .i64 a0_3, .int .i64 a0_4, .int .i64 a0_5, .int .u64 a0_6, .int .i64 a0_7, .int .i64 a0_8, .int .i64 a0_9] 25 (0, 0)) (by (with_reducible repeat (first | refine blk_drewN ?_ _ | refine blk_drew ?_ | refine blk_alloc ?_ _)); exact BK283.out) hb)
             have n5_ := Aside0.mk (blk_below (g := gb291) (o := .cells #[.bool t286, .bool t287, .bool t288, .bool t289] 35 (0, 0)) (by (with_reducible repeat (first | refine blk_drewN ?_ _ | refine blk_drew ?_ | refine blk_alloc ?_ _)); exact BK291.out) hb)
             have n6_ := Aside0.mk (below_step (by repeat (first | (with_reducible first | exact HB.out | apply below_alloc | apply pw_below_drewN | apply below_drew1 | refine below_set ?_ GE271.out | refine below_set ?_ GE272.out | refine below_set ?_ GE273.out | refine below_set ?_ GE280.out | refine below_set ?_ GE283.out | refine below_set ?_ GE291.out) | exact HB.out)) hb)
             clear BK271
             clear BK272
             clear BK273
             clear BK280
             clear BK283
             clear BK291
             clear HB
             have BK271 := n0_
             have BK272 := n1_
             have BK273 := n2_
             have BK280 := n3_
             have BK283 := n4_
             have BK291 := n5_
             have HB := n6_
             clear n0_ n1_ n2_ n3_ n4_ n5_ n6_
             (try clear hb)
             (try clear hb2)
             (try clear hk)
             (try clear hi)
             refine hK.out _ _ ⟨(blk_cell BK291.out 0).trans rfl, (blk_cell BK291.out 1).trans rfl, (blk_cell BK291.out 2).trans rfl, (blk_cell BK291.out 3).trans rfl, (blk_cell BK273.out 0).trans rfl, (blk_cell BK273.out 1).trans rfl, (blk_cell BK273.out 2).trans rfl, (blk_cell BK273.out 3).trans rfl, (blk_cell BK280.out 0).trans rfl, (blk_cell BK280.out 1).trans rfl, (blk_cell BK280.out 2).trans rfl, (blk_cell BK280.out 3).trans rfl⟩ (fun hHeld => ?_)
             clear hK K
             refine norm_ (a' := ?_) ?_ ?_
             rotate_left
             ·
              show Act.put _ (some 104) _ = _
              simp only [qa_, qb_, qc_, qd_, i64_w, i32_w]
              rfl
             refine pure_ (i := 20) (N := some 105) (v := ?_) (a' := ?_) bb1_21 rfl rfl (any_of HT_.out (by kernel_rfl)) (fun _ _ _ h => h) (Or.inl ⟨by rfl, ?_⟩) ?_ ?_
             rotate_left
             · intro w'; go_simp; with_reducible rfl
             rotate_left
             · simp only [qa_, qb_, qc_, qd_, i64_w, i32_w]; rfl
             refine pure_ (i := 21) (N := some 106) (v := ?_) (a' := ?_) bb1_22 rfl rfl (any_of HT_.out (by kernel_rfl)) (fun _ _ _ h => h) (Or.inl ⟨by rfl, ?_⟩) ?_ ?_
             rotate_left
             · intro w'; go_simp; with_reducible rfl
             rotate_left
             · simp only [qa_, qb_, qc_, qd_, i64_w, i32_w]; rfl
             refine pure_ (i := 22) (N := some 107) (v := ?_) (a' := ?_) bb1_23 rfl rfl (any_of HT_.out (by kernel_rfl)) (fun _ _ _ h => h) (Or.inl ⟨by rfl, ?_⟩) ?_ ?_
             rotate_left
             · intro w'; go_simp; with_reducible rfl
             rotate_left
             · simp only [qa_, qb_, qc_, qd_, i64_w, i32_w]; rfl
             refine pure_ (i := 23) (N := some 108) (v := ?_) (a' := ?_) bb1_24 rfl rfl (any_of HT_.out (by kernel_rfl)) (fun _ _ _ h => h) (Or.inl ⟨by rfl, ?_⟩) ?_ ?_
             rotate_left
             · intro w'; go_simp; with_reducible rfl
             rotate_left
             · simp only [qa_, qb_, qc_, qd_, i64_w, i32_w]; rfl
             refine pure_ (i := 24) (N := some 109) (v := ?_) (a' := ?_) bb1_25 rfl rfl (any_of HT_.out (by kernel_rfl)) (fun _ _ _ h => h) (Or.inl ⟨by rfl, ?_⟩) ?_ ?_
             rotate_left
             · intro w'; go_simp; with_reducible rfl
             rotate_left
             · simp only [qa_, qb_, qc_, qd_, i64_w, i32_w]; rfl
             refine pure_ (i := 26) (N := some 111) (v := ?_) (a' := ?_) bb1_26 rfl rfl (any_of HT_.out (by kernel_rfl)) (fun _ _ _ h => h) (Or.inl ⟨by rfl, ?_⟩) ?_ ?_
             rotate_left
             · intro w'; go_simp; with_reducible rfl
             rotate_left
             · simp only [qa_, qb_, qc_, qd_, i64_w, i32_w]; rfl
             refine take_ (i := 25) (N := some 110) (v := ?_) (a' := ?_) bb1_27 rfl rfl (take_ofW HT_.out HW_.out (by kernel_rfl)) (fun _ _ _ h => h) (Or.inl ⟨by rfl, ?_⟩) hHeld ?_ ?_
             rotate_left
             · rintro w' ⟨s0, s1, s2, s3, s4, s5, s6, s7, s8, s9, s10, s11⟩; go_simp; with_reducible rfl
             rotate_left
             · simp only [qa_, qb_, qc_, qd_, i64_w, i32_w]; rfl
             refine one_ (i := 27) (N := some 112) bb1_28 rfl rfl (one_of HT_.out (by kernel_rfl)) (by decide) (fun K hK => ?_)
             refine goes_ Tryd.func13 (by kernel_rfl) rfl #[.int .u64 t274] (by rfl) rfl rfl (by (try simp only [List.map_toArray, List.map_cons, List.map_nil]); first | done | rfl | (simp only [List.length_drop, List.length_take]; rfl)) ?_
             with_reducible refine (flag_Of.calls t274 t297 t298 t299 t300 _ A120.out).mono ?_
             rintro e w132 ⟨rfl, hb⟩
             refine ⟨_, rfl, ?_⟩
             have n0_ := Aside0.mk (blk_below (g := gb271) (o := .cells #[.int .i64 a0_0, .int .i64 a0_1, .int .i64 a0_2, .int .i64 a0_3, .int .i64 a0_4, .int .i64 a0_5, .int .u64 a0_6, .int .i64 a0_7, .int .i64 a0_8, .int .i64 a0_9] 25 (0, 0)) (by (with_reducible repeat (first | refine blk_drewN ?_ _ | refine blk_drew ?_ | refine blk_alloc ?_ _)); exact BK271.out) hb)
             have n1_ := Aside0.mk (blk_below (g := gb272) (o := .cells #[.int .u64 a1_0, .int .u64 a1_1, .int .u64 a1_2, .int .u64 a1_3] 29 (0, 0)) (by (with_reducible repeat (first | refine blk_drewN ?_ _ | refine blk_drew ?_ | refine blk_alloc ?_ _)); exact BK272.out) hb)
             have n2_ := Aside0.mk (blk_below (g := gb273) (o := .cells #[.bool a2_0, .bool a2_1, .bool a2_2, .bool a2_3] 35 (0, 0)) (by (with_reducible repeat (first | refine blk_drewN ?_ _ | refine blk_drew ?_ | refine blk_alloc ?_ _)); exact BK273.out) hb)
             have n3_ := Aside0.mk (blk_below (g := gb280) (o := .cells #[.bool t275, .bool t276, .bool t277, .bool t278] 35 (0, 0)) (by (with_reducible repeat (first | refine blk_drewN ?_ _ | refine blk_drew ?_ | refine blk_alloc ?_ _)); exact BK280.out) hb)
             have n4_ := Aside0.mk (blk_below (g := gb283) (o := .cells #[.int .i64 x284000_5, .int .i64 a0_1, .int .i64 a0_2, .int .i64 a0_3, .int .i64 a0_4, .int .i64 a0_5, .int .u64 a0_6, .int .i64 a0_7, .int .i64 a0_8, .int .i64 a0_9] 25 (0, 0)) (by (with_reducible repeat (first | refine blk_drewN ?_ _ | refine blk_drew ?_ | refine blk_alloc ?_ _)); exact BK283.out) hb)
             have n5_ := Aside0.mk (blk_below (g := gb291) (o := .cells #[.bool t286, .bool t287, .bool t288, .bool t289] 35 (0, 0)) (by (with_reducible repeat (first | refine blk_drewN ?_ _ | refine blk_drew ?_ | refine blk_alloc ?_ _)); exact BK291.out) hb)
             have n6_ := Aside0.mk (below_step (by repeat (first | (with_reducible first | exact HB.out | apply below_alloc | apply pw_below_drewN | apply below_drew1 | refine below_set ?_ GE271.out | refine below_set ?_ GE272.out | refine below_set ?_ GE273.out | refine below_set ?_ GE280.out | refine below_set ?_ GE283.out | refine below_set ?_ GE291.out) | exact HB.out)) hb)
             clear BK271
             clear BK272
             clear BK273
             clear BK280
             clear BK283
             clear BK291
             clear HB
             have BK271 := n0_
             have BK272 := n1_
             have BK273 := n2_
             have BK280 := n3_
             have BK283 := n4_
             have BK291 := n5_
             have HB := n6_
             clear n0_ n1_ n2_ n3_ n4_ n5_ n6_
             (try clear hb)
             (try clear hb2)
             (try clear hk)
             (try clear hi)
             refine hK.out _ _ ⟨(blk_cell BK291.out 0).trans rfl, (blk_cell BK291.out 1).trans rfl, (blk_cell BK291.out 2).trans rfl, (blk_cell BK291.out 3).trans rfl, (blk_cell BK273.out 0).trans rfl, (blk_cell BK273.out 1).trans rfl, (blk_cell BK273.out 2).trans rfl, (blk_cell BK273.out 3).trans rfl, (blk_cell BK280.out 0).trans rfl, (blk_cell BK280.out 1).trans rfl, (blk_cell BK280.out 2).trans rfl, (blk_cell BK280.out 3).trans rfl⟩ (fun hHeld => ?_)
             clear hK K
             refine norm_ (a' := ?_) ?_ ?_
             rotate_left
             ·
              show Act.put _ (some 112) _ = _
              simp only [qa_, qb_, qc_, qd_, i64_w, i32_w]
              rfl
             refine pure_ (i := 28) (N := some 113) (v := ?_) (a' := ?_) bb1_29 rfl rfl (any_of HT_.out (by kernel_rfl)) (fun _ _ _ h => h) (Or.inl ⟨by rfl, ?_⟩) ?_ ?_
             rotate_left
             · intro w'; go_simp; with_reducible rfl
             rotate_left
             · simp only [qa_, qb_, qc_, qd_, i64_w, i32_w]; rfl
             refine pure_ (i := 29) (N := some 114) (v := ?_) (a' := ?_) bb1_30 rfl rfl (any_of HT_.out (by kernel_rfl)) (fun _ _ _ h => h) (Or.inl ⟨by rfl, ?_⟩) ?_ ?_
             rotate_left
             · intro w'; go_simp; with_reducible rfl
             rotate_left
             · simp only [qa_, qb_, qc_, qd_, i64_w, i32_w]; rfl
             refine pure_ (i := 30) (N := some 115) (v := ?_) (a' := ?_) bb1_31 rfl rfl (any_of HT_.out (by kernel_rfl)) (fun _ _ _ h => h) (Or.inl ⟨by rfl, ?_⟩) ?_ ?_
             rotate_left
             · intro w'; go_simp; with_reducible rfl
             rotate_left
             · simp only [qa_, qb_, qc_, qd_, i64_w, i32_w]; rfl
             refine pure_ (i := 31) (N := some 116) (v := ?_) (a' := ?_) bb1_32 rfl rfl (any_of HT_.out (by kernel_rfl)) (fun _ _ _ h => h) (Or.inl ⟨by rfl, ?_⟩) ?_ ?_
             rotate_left
             · intro w'; go_simp; with_reducible rfl
             rotate_left
             · simp only [qa_, qb_, qc_, qd_, i64_w, i32_w]; rfl
             refine pure_ (i := 32) (N := some 117) (v := ?_) (a' := ?_) bb1_33 rfl rfl (any_of HT_.out (by kernel_rfl)) (fun _ _ _ h => h) (Or.inl ⟨by rfl, ?_⟩) ?_ ?_
             rotate_left
             · intro w'; go_simp; with_reducible rfl
             rotate_left
             · simp only [qa_, qb_, qc_, qd_, i64_w, i32_w]; rfl
             refine pure_ (i := 33) (N := some 118) (v := ?_) (a' := ?_) bb1_34 rfl rfl (any_of HT_.out (by kernel_rfl)) (fun _ _ _ h => h) (Or.inl ⟨by rfl, ?_⟩) ?_ ?_
             rotate_left
             · intro w'; go_simp; with_reducible rfl
             rotate_left
             · simp only [qa_, qb_, qc_, qd_, i64_w, i32_w]; rfl
             refine pure_ (i := 34) (N := some 119) (v := ?_) (a' := ?_) bb1_35 rfl rfl (any_of HT_.out (by kernel_rfl)) (fun _ _ _ h => h) (Or.inl ⟨by rfl, ?_⟩) ?_ ?_
             rotate_left
             · intro w'; go_simp; with_reducible rfl
             rotate_left
             · simp only [qa_, qb_, qc_, qd_, i64_w, i32_w]; rfl
             refine pure_ (i := 35) (N := some 120) (v := undef) (a' := ?_) #[true, true, true, true, true, true, true, true, true, true, true, true, true, true, true, true, true, true, true, true, true, true, true, true, true, true, true, true, true, true, true, true, true, true, true, true, false, false, false, false, false, false] rfl rfl (any_of HT_.out (by kernel_rfl)) (fun _ _ _ h => h) (Or.inr ⟨by rfl, rfl⟩) ?_ ?_
             rotate_left
             · simp only [qa_, qb_, qc_, qd_, i64_w, i32_w]; rfl
             refine pure_ (i := 36) (N := some 121) (v := undef) (a' := ?_) bb1_36 rfl rfl (any_of HT_.out (by kernel_rfl)) (fun _ _ _ h => h) (Or.inr ⟨by rfl, rfl⟩) ?_ ?_
             rotate_left
             · simp only [qa_, qb_, qc_, qd_, i64_w, i32_w]; rfl
             refine pure_ (i := 37) (N := some 122) (v := undef) (a' := ?_) bb1_37 rfl rfl (any_of HT_.out (by kernel_rfl)) (fun _ _ _ h => h) (Or.inr ⟨by rfl, rfl⟩) ?_ ?_
             rotate_left
             · simp only [qa_, qb_, qc_, qd_, i64_w, i32_w]; rfl
             refine pure_ (i := 38) (N := some 123) (v := undef) (a' := ?_) bb1_38 rfl rfl (any_of HT_.out (by kernel_rfl)) (fun _ _ _ h => h) (Or.inr ⟨by rfl, rfl⟩) ?_ ?_
             rotate_left
             · simp only [qa_, qb_, qc_, qd_, i64_w, i32_w]; rfl
             refine pure_ (i := 39) (N := some 124) (v := ?_) (a' := ?_) bb1_39 rfl rfl (any_of HT_.out (by kernel_rfl)) (fun _ _ _ h => h) (Or.inl ⟨by rfl, ?_⟩) ?_ ?_
             rotate_left
             · intro w'; go_simp; with_reducible rfl
             rotate_left
             · simp only [qa_, qb_, qc_, qd_, i64_w, i32_w]; rfl
             refine pure_ (i := 40) (N := some 125) (v := ?_) (a' := ?_) bb1_40 rfl rfl (any_of HT_.out (by kernel_rfl)) (fun _ _ _ h => h) (Or.inl ⟨by rfl, ?_⟩) ?_ ?_
             rotate_left
             · intro w'; go_simp; with_reducible rfl
             rotate_left
             · simp only [qa_, qb_, qc_, qd_, i64_w, i32_w]; rfl
             refine pure_ (i := 41) (N := some 6) (v := ?_) (a' := ?_) bb1_41 rfl rfl (any_of HT_.out (by kernel_rfl)) (fun _ _ _ h => h) (Or.inl ⟨by rfl, ?_⟩) ?_ ?_
             rotate_left
             · intro w'; go_simp; with_reducible rfl
             rotate_left
             · simp only [qa_, qb_, qc_, qd_, i64_w, i32_w]; rfl
             refine done_ (done_of HT_.out (by kernel_rfl)) ?_
             try go_wp2
             go_ret
             exact ⟨by first | rfl | (simp [errW_none, errW_some] <;> rfl) | (simp [*, errW_none, errW_some] <;> rfl), by repeat (first | (with_reducible first | exact HB.out | apply below_alloc | apply pw_below_drewN | apply below_drew1 | refine below_set ?_ GE271.out | refine below_set ?_ GE272.out | refine below_set ?_ GE273.out | refine below_set ?_ GE280.out | refine below_set ?_ GE283.out | refine below_set ?_ GE291.out) | exact HB.out)⟩
           ·
            rw [if_neg c121] at H
            exact absurd H (by simp)
          ·
           rw [if_neg c119] at H
           exact absurd H (by simp)
         ·
          rw [if_neg c117] at H
          exact absurd H (by simp)
        ·
         rw [if_neg c116] at H
         exact absurd H (by simp)
       ·
        rw [if_neg c115] at H
        exact absurd H (by simp)
      ·
       replace c114 := Bool.eq_false_iff.mpr c114
       subst c114
       have H1 : (none) = some r := by rw [if_neg (show ¬ (false = true) by decide)] at H; exact H
       clear H
       have H := H1
       clear H1
       exact absurd H (by simp)
 ·
  rw [if_neg c5] at H
  have c5b0 : (t279 == 0) = false := beq_eq_false_iff_ne.mpr c5
  have c5b1 : (t279 != 0) = true := bne_iff_ne.mpr c5
  replace H := Option.bind_eq_some_iff.mp H
  obtain ⟨t281, A1330, H⟩ := H
  replace H : (if t281 = true then ((alu_Is.f k a0_0 a0_1 a0_2 a0_3 a0_4 a0_5 a0_6 a0_7 a0_8 a0_9).bind fun t282 => (if t282 = true then (none) else (if t274 = 0 then (some (!t275 && (!t276 && (!t277 && (!t278))))) else (none)))) else (none)) = some r := H
  have A133 := Aside0.mk A1330
  clear A1330
  by_cases c134 : t281 = true
  ·
   subst c134
   have H1 : ((alu_Is.f k a0_0 a0_1 a0_2 a0_3 a0_4 a0_5 a0_6 a0_7 a0_8 a0_9).bind fun t282 => (if t282 = true then (none) else (if t274 = 0 then (some (!t275 && (!t276 && (!t277 && (!t278))))) else (none)))) = some r := by rw [if_pos rfl] at H; exact H
   clear H
   have H := H1
   clear H1
   replace H := Option.bind_eq_some_iff.mp H
   obtain ⟨t282, A1350, H⟩ := H
   replace H : (if t282 = true then (none) else (if t274 = 0 then (some (!t275 && (!t276 && (!t277 && (!t278))))) else (none))) = some r := H
   have A135 := Aside0.mk A1350
   clear A1350
   by_cases c136 : t282 = true
   ·
    subst c136
    have H1 : (none) = some r := by rw [if_pos rfl] at H; exact H
    clear H
    have H := H1
    clear H1
    exact absurd H (by simp)
   ·
    replace c136 := Bool.eq_false_iff.mpr c136
    subst c136
    have H1 : (if t274 = 0 then (some (!t275 && (!t276 && (!t277 && (!t278))))) else (none)) = some r := by rw [if_neg (show ¬ (false = true) by decide)] at H; exact H
    clear H
    have H := H1
    clear H1
    by_cases c137 : t274 = 0
    ·
     rw [if_pos c137] at H
     have c137b0 : (t274 == 0) = true := beq_iff_eq.mpr c137
     have c137b1 : (t274 != 0) = false := bne_eq_false_iff_eq.mpr c137
     clear c137
     obtain rfl := Option.some.inj H
     go_enter Tryd.func4, Tryd.ntmps4
     go_wp2_with (first | ((with_reducible refine gate_dst (N := 3) rfl ?_); refine box_event ?hg (N := 3) ?hd (cs := #[.int .i64 a0_0, .int .i64 a0_1, .int .i64 a0_2, .int .i64 a0_3, .int .i64 a0_4, .int .i64 a0_5, .int .u64 a0_6, .int .i64 a0_7, .int .i64 a0_8, .int .i64 a0_9]) (t := 25) ?hr ?_; (case hd => rfl); (case hg => rfl); (case hr => first | (go_simp; done) | (go_simp; rfl)); intro gb271 hg w138 hbox hb; have n0_ := Aside0.mk (below_step (by repeat (first | (with_reducible first | exact HB.out | apply below_alloc | apply pw_below_drewN | apply below_drew1) | exact HB.out)) hb); have n1_ := Aside0.mk (hbox); have n2_ := Aside0.mk ((by rw [hg]; exact (below_size (by repeat (first | (with_reducible first | exact HB.out | apply below_alloc | apply pw_below_drewN | apply below_drew1) | exact HB.out))) : w.heap.size ≤ gb271)); have n3_ := Aside0.mk ((by rw [hg]; exact (below_size (by repeat (first | (with_reducible first | exact HB.out | apply below_alloc | apply pw_below_drewN | apply below_drew1) | exact HB.out))) : w.heap.size ≤ gb271)); clear HB; have HB := n0_; have BK271 := n1_; have GW271 := n2_; have GE271 := n3_; clear n0_ n1_ n2_ n3_; clear hb hbox hg) | ((with_reducible refine gate_dst (N := 4) rfl ?_); refine box_event ?hg (N := 4) ?hd (cs := #[.int .u64 a1_0, .int .u64 a1_1, .int .u64 a1_2, .int .u64 a1_3]) (t := 29) ?hr ?_; (case hd => rfl); (case hg => rfl); (case hr => first | (go_simp; done) | (go_simp; rfl)); intro gb272 hg w139 hbox hb; have n0_ := Aside0.mk (blk_below (g := gb271) (o := .cells #[.int .i64 a0_0, .int .i64 a0_1, .int .i64 a0_2, .int .i64 a0_3, .int .i64 a0_4, .int .i64 a0_5, .int .u64 a0_6, .int .i64 a0_7, .int .i64 a0_8, .int .i64 a0_9] 25 (0, 0)) (by (with_reducible repeat (first | refine blk_drewN ?_ _ | refine blk_drew ?_ | refine blk_alloc ?_ _)); exact BK271.out) hb); have n1_ := Aside0.mk (below_step (by repeat (first | (with_reducible first | exact HB.out | apply below_alloc | apply pw_below_drewN | apply below_drew1 | refine below_set ?_ GE271.out) | exact HB.out)) hb); have n2_ := Aside0.mk (hbox); have n3_ := Aside0.mk ((by rw [hg]; exact (below_size (by repeat (first | (with_reducible first | exact HB.out | apply below_alloc | apply pw_below_drewN | apply below_drew1 | refine below_set ?_ GE271.out) | exact HB.out))) : w.heap.size ≤ gb272)); have n4_ := Aside0.mk ((by rw [hg]; exact (below_size (by repeat (first | (with_reducible first | exact HB.out | apply below_alloc | apply pw_below_drewN | apply below_drew1 | refine below_set ?_ GE271.out) | exact HB.out))) : w.heap.size ≤ gb272)); have n5_ := Aside0.mk ((by rw [hg]; exact Nat.ne_of_lt (blk_lt (g := gb271) (o := .cells #[.int .i64 a0_0, .int .i64 a0_1, .int .i64 a0_2, .int .i64 a0_3, .int .i64 a0_4, .int .i64 a0_5, .int .u64 a0_6, .int .i64 a0_7, .int .i64 a0_8, .int .i64 a0_9] 25 (0, 0)) (by (with_reducible repeat (first | refine blk_drewN ?_ _ | refine blk_drew ?_ | refine blk_alloc ?_ _)); exact BK271.out)) : gb271 ≠ gb272)); have n6_ := Aside0.mk ((by rw [hg]; exact Nat.ne_of_gt (blk_lt (g := gb271) (o := .cells #[.int .i64 a0_0, .int .i64 a0_1, .int .i64 a0_2, .int .i64 a0_3, .int .i64 a0_4, .int .i64 a0_5, .int .u64 a0_6, .int .i64 a0_7, .int .i64 a0_8, .int .i64 a0_9] 25 (0, 0)) (by (with_reducible repeat (first | refine blk_drewN ?_ _ | refine blk_drew ?_ | refine blk_alloc ?_ _)); exact BK271.out)) : gb272 ≠ gb271)); clear BK271; clear HB; have BK271 := n0_; have HB := n1_; have BK272 := n2_; have GW272 := n3_; have GE272 := n4_; have NB271_272 := n5_; have NB272_271 := n6_; clear n0_ n1_ n2_ n3_ n4_ n5_ n6_; clear hb hbox hg) | ((with_reducible refine gate_dst (N := 5) rfl ?_); refine box_event ?hg (N := 5) ?hd (cs := #[.bool a2_0, .bool a2_1, .bool a2_2, .bool a2_3]) (t := 35) ?hr ?_; (case hd => rfl); (case hg => rfl); (case hr => first | (go_simp; done) | (go_simp; rfl)); intro gb273 hg w140 hbox hb; have n0_ := Aside0.mk (blk_below (g := gb271) (o := .cells #[.int .i64 a0_0, .int .i64 a0_1, .int .i64 a0_2, .int .i64 a0_3, .int .i64 a0_4, .int .i64 a0_5, .int .u64 a0_6, .int .i64 a0_7, .int .i64 a0_8, .int .i64 a0_9] 25 (0, 0)) (by (with_reducible repeat (first | refine blk_drewN ?_ _ | refine blk_drew ?_ | refine blk_alloc ?_ _)); exact BK271.out) hb); have n1_ := Aside0.mk (blk_below (g := gb272) (o := .cells #[.int .u64 a1_0, .int .u64 a1_1, .int .u64 a1_2, .int .u64 a1_3] 29 (0, 0)) (by (with_reducible repeat (first | refine blk_drewN ?_ _ | refine blk_drew ?_ | refine blk_alloc ?_ _)); exact BK272.out) hb); have n2_ := Aside0.mk (below_step (by repeat (first | (with_reducible first | exact HB.out | apply below_alloc | apply pw_below_drewN | apply below_drew1 | refine below_set ?_ GE271.out | refine below_set ?_ GE272.out) | exact HB.out)) hb); have n3_ := Aside0.mk (hbox); have n4_ := Aside0.mk ((by rw [hg]; exact (below_size (by repeat (first | (with_reducible first | exact HB.out | apply below_alloc | apply pw_below_drewN | apply below_drew1 | refine below_set ?_ GE271.out | refine below_set ?_ GE272.out) | exact HB.out))) : w.heap.size ≤ gb273)); have n5_ := Aside0.mk ((by rw [hg]; exact (below_size (by repeat (first | (with_reducible first | exact HB.out | apply below_alloc | apply pw_below_drewN | apply below_drew1 | refine below_set ?_ GE271.out | refine below_set ?_ GE272.out) | exact HB.out))) : w.heap.size ≤ gb273)); have n6_ := Aside0.mk ((by rw [hg]; exact Nat.ne_of_lt (blk_lt (g := gb271) (o := .cells #[.int .i64 a0_0, .int .i64 a0_1, .int .i64 a0_2, .int .i64 a0_3, .int .i64 a0_4, .int .i64 a0_5, .int .u64 a0_6, .int .i64 a0_7, .int .i64 a0_8, .int .i64 a0_9] 25 (0, 0)) (by (with_reducible repeat (first | refine blk_drewN ?_ _ | refine blk_drew ?_ | refine blk_alloc ?_ _)); exact BK271.out)) : gb271 ≠ gb273)); have n7_ := Aside0.mk ((by rw [hg]; exact Nat.ne_of_gt (blk_lt (g := gb271) (o := .cells #[.int .i64 a0_0, .int .i64 a0_1, .int .i64 a0_2, .int .i64 a0_3, .int .i64 a0_4, .int .i64 a0_5, .int .u64 a0_6, .int .i64 a0_7, .int .i64 a0_8, .int .i64 a0_9] 25 (0, 0)) (by (with_reducible repeat (first | refine blk_drewN ?_ _ | refine blk_drew ?_ | refine blk_alloc ?_ _)); exact BK271.out)) : gb273 ≠ gb271)); have n8_ := Aside0.mk ((by rw [hg]; exact Nat.ne_of_lt (blk_lt (g := gb272) (o := .cells #[.int .u64 a1_0, .int .u64 a1_1, .int .u64 a1_2, .int .u64 a1_3] 29 (0, 0)) (by (with_reducible repeat (first | refine blk_drewN ?_ _ | refine blk_drew ?_ | refine blk_alloc ?_ _)); exact BK272.out)) : gb272 ≠ gb273)); have n9_ := Aside0.mk ((by rw [hg]; exact Nat.ne_of_gt (blk_lt (g := gb272) (o := .cells #[.int .u64 a1_0, .int .u64 a1_1, .int .u64 a1_2, .int .u64 a1_3] 29 (0, 0)) (by (with_reducible repeat (first | refine blk_drewN ?_ _ | refine blk_drew ?_ | refine blk_alloc ?_ _)); exact BK272.out)) : gb273 ≠ gb272)); clear BK271; clear BK272; clear HB; have BK271 := n0_; have BK272 := n1_; have HB := n2_; have BK273 := n3_; have GW273 := n4_; have GE273 := n5_; have NB271_273 := n6_; have NB273_271 := n7_; have NB272_273 := n8_; have NB273_272 := n9_; clear n0_ n1_ n2_ n3_ n4_ n5_ n6_ n7_ n8_ n9_; clear hb hbox hg; have hnb141 := NB271_272.out; have hnc141 := NB272_271.out; have hnb142 := NB271_273.out; have hnc142 := NB273_271.out; obtain ⟨hcz143_0, hcz143_1, hcz143_2, hcz143_3, hcz143_4, hcz143_5, hcz143_6, hcz143_7, hcz143_8, hcz143_9⟩ := cells10_ BK271.out; have hfz143_0 := fun j => blk_frozen BK271.out j; have hnb144 := NB272_273.out; have hnc144 := NB273_272.out; obtain ⟨hcz145_0, hcz145_1, hcz145_2, hcz145_3⟩ := cells4_ BK272.out; have hfz145_0 := fun j => blk_frozen BK272.out j; obtain ⟨hcz146_0, hcz146_1, hcz146_2, hcz146_3⟩ := cells4_ BK273.out; have hfz146_0 := fun j => blk_frozen BK273.out j) | ((with_reducible refine gate_callee (f := 11) rfl ?_); refine goesL_ (some 19) rfl rfl Tryd.func11 (by kernel_rfl) rfl #[.agg #[.int .i64 a0_0, .int .i64 a0_1, .int .i64 a0_2, .int .i64 a0_3, .int .i64 a0_4, .int .i64 a0_5, .int .u64 a0_6, .int .i64 a0_7, .int .i64 a0_8, .int .i64 a0_9], .agg #[.int .u64 a1_0, .int .u64 a1_1, .int .u64 a1_2, .int .u64 a1_3], .agg #[.bool a2_0, .bool a2_1, .bool a2_2, .bool a2_3]] rfl (by (try simp only [List.map_toArray, List.map_cons, List.map_nil]); first | done | rfl | (simp only [List.length_drop, List.length_take]; rfl)) ?_; (with_reducible refine (alu_Do.calls k a0_0 a0_1 a0_2 a0_3 a0_4 a0_5 a0_6 a0_7 a0_8 a0_9 a1_0 a1_1 a1_2 a1_3 a2_0 a2_1 a2_2 a2_3 t274 t275 t276 t277 t278 t279 _ A4.out).mono ?_); rintro e w147 ⟨rfl, hb⟩; refine ⟨_, rfl, ?_⟩; have n0_ := Aside0.mk (blk_below (g := gb271) (o := .cells #[.int .i64 a0_0, .int .i64 a0_1, .int .i64 a0_2, .int .i64 a0_3, .int .i64 a0_4, .int .i64 a0_5, .int .u64 a0_6, .int .i64 a0_7, .int .i64 a0_8, .int .i64 a0_9] 25 (0, 0)) (by (with_reducible repeat (first | refine blk_drewN ?_ _ | refine blk_drew ?_ | refine blk_alloc ?_ _)); exact BK271.out) hb); have n1_ := Aside0.mk (blk_below (g := gb272) (o := .cells #[.int .u64 a1_0, .int .u64 a1_1, .int .u64 a1_2, .int .u64 a1_3] 29 (0, 0)) (by (with_reducible repeat (first | refine blk_drewN ?_ _ | refine blk_drew ?_ | refine blk_alloc ?_ _)); exact BK272.out) hb); have n2_ := Aside0.mk (blk_below (g := gb273) (o := .cells #[.bool a2_0, .bool a2_1, .bool a2_2, .bool a2_3] 35 (0, 0)) (by (with_reducible repeat (first | refine blk_drewN ?_ _ | refine blk_drew ?_ | refine blk_alloc ?_ _)); exact BK273.out) hb); have n3_ := Aside0.mk (below_step (by repeat (first | (with_reducible first | exact HB.out | apply below_alloc | apply pw_below_drewN | apply below_drew1 | refine below_set ?_ GE271.out | refine below_set ?_ GE272.out | refine below_set ?_ GE273.out) | exact HB.out)) hb); clear BK271; clear BK272; clear BK273; clear HB; have BK271 := n0_; have BK272 := n1_; have BK273 := n2_; have HB := n3_; clear n0_ n1_ n2_ n3_; (try clear hb); (try clear hb2); (try clear hk); (try clear hi)) | ((with_reducible refine gate_dst (N := 8) rfl ?_); refine box_event ?hg (N := 8) ?hd (cs := #[.bool false, .bool false, .bool false, .bool false]) (t := 35) ?hr ?_; (case hd => rfl); (case hg => rfl); (case hr => first | (go_simp; done) | (go_simp; rfl)); intro gb280 hg w148 hbox hb; have n0_ := Aside0.mk (blk_below (g := gb271) (o := .cells #[.int .i64 a0_0, .int .i64 a0_1, .int .i64 a0_2, .int .i64 a0_3, .int .i64 a0_4, .int .i64 a0_5, .int .u64 a0_6, .int .i64 a0_7, .int .i64 a0_8, .int .i64 a0_9] 25 (0, 0)) (by (with_reducible repeat (first | refine blk_drewN ?_ _ | refine blk_drew ?_ | refine blk_alloc ?_ _)); exact BK271.out) hb); have n1_ := Aside0.mk (blk_below (g := gb272) (o := .cells #[.int .u64 a1_0, .int .u64 a1_1, .int .u64 a1_2, .int .u64 a1_3] 29 (0, 0)) (by (with_reducible repeat (first | refine blk_drewN ?_ _ | refine blk_drew ?_ | refine blk_alloc ?_ _)); exact BK272.out) hb); have n2_ := Aside0.mk (blk_below (g := gb273) (o := .cells #[.bool a2_0, .bool a2_1, .bool a2_2, .bool a2_3] 35 (0, 0)) (by (with_reducible repeat (first | refine blk_drewN ?_ _ | refine blk_drew ?_ | refine blk_alloc ?_ _)); exact BK273.out) hb); have n3_ := Aside0.mk (below_step (by repeat (first | (with_reducible first | exact HB.out | apply below_alloc | apply pw_below_drewN | apply below_drew1 | refine below_set ?_ GE271.out | refine below_set ?_ GE272.out | refine below_set ?_ GE273.out) | exact HB.out)) hb); have n4_ := Aside0.mk (hbox); have n5_ := Aside0.mk ((by rw [hg]; exact (below_size (by repeat (first | (with_reducible first | exact HB.out | apply below_alloc | apply pw_below_drewN | apply below_drew1 | refine below_set ?_ GE271.out | refine below_set ?_ GE272.out | refine below_set ?_ GE273.out) | exact HB.out))) : w.heap.size ≤ gb280)); have n6_ := Aside0.mk ((by rw [hg]; exact (below_size (by repeat (first | (with_reducible first | exact HB.out | apply below_alloc | apply pw_below_drewN | apply below_drew1 | refine below_set ?_ GE271.out | refine below_set ?_ GE272.out | refine below_set ?_ GE273.out) | exact HB.out))) : w.heap.size ≤ gb280)); have n7_ := Aside0.mk ((by rw [hg]; exact Nat.ne_of_lt (blk_lt (g := gb271) (o := .cells #[.int .i64 a0_0, .int .i64 a0_1, .int .i64 a0_2, .int .i64 a0_3, .int .i64 a0_4, .int .i64 a0_5, .int .u64 a0_6, .int .i64 a0_7, .int .i64 a0_8, .int .i64 a0_9] 25 (0, 0)) (by (with_reducible repeat (first | refine blk_drewN ?_ _ | refine blk_drew ?_ | refine blk_alloc ?_ _)); exact BK271.out)) : gb271 ≠ gb280)); have n8_ := Aside0.mk ((by rw [hg]; exact Nat.ne_of_gt (blk_lt (g := gb271) (o := .cells #[.int .i64 a0_0, .int .i64 a0_1, .int .i64 a0_2, .int .i64 a0_3, .int .i64 a0_4, .int .i64 a0_5, .int .u64 a0_6, .int .i64 a0_7, .int .i64 a0_8, .int .i64 a0_9] 25 (0, 0)) (by (with_reducible repeat (first | refine blk_drewN ?_ _ | refine blk_drew ?_ | refine blk_alloc ?_ _)); exact BK271.out)) : gb280 ≠ gb271)); have n9_ := Aside0.mk ((by rw [hg]; exact Nat.ne_of_lt (blk_lt (g := gb272) (o := .cells #[.int .u64 a1_0, .int .u64 a1_1, .int .u64 a1_2, .int .u64 a1_3] 29 (0, 0)) (by (with_reducible repeat (first | refine blk_drewN ?_ _ | refine blk_drew ?_ | refine blk_alloc ?_ _)); exact BK272.out)) : gb272 ≠ gb280)); have n10_ := Aside0.mk ((by rw [hg]; exact Nat.ne_of_gt (blk_lt (g := gb272) (o := .cells #[.int .u64 a1_0, .int .u64 a1_1, .int .u64 a1_2, .int .u64 a1_3] 29 (0, 0)) (by (with_reducible repeat (first | refine blk_drewN ?_ _ | refine blk_drew ?_ | refine blk_alloc ?_ _)); exact BK272.out)) : gb280 ≠ gb272)); have n11_ := Aside0.mk ((by rw [hg]; exact Nat.ne_of_lt (blk_lt (g := gb273) (o := .cells #[.bool a2_0, .bool a2_1, .bool a2_2, .bool a2_3] 35 (0, 0)) (by (with_reducible repeat (first | refine blk_drewN ?_ _ | refine blk_drew ?_ | refine blk_alloc ?_ _)); exact BK273.out)) : gb273 ≠ gb280)); have n12_ := Aside0.mk ((by rw [hg]; exact Nat.ne_of_gt (blk_lt (g := gb273) (o := .cells #[.bool a2_0, .bool a2_1, .bool a2_2, .bool a2_3] 35 (0, 0)) (by (with_reducible repeat (first | refine blk_drewN ?_ _ | refine blk_drew ?_ | refine blk_alloc ?_ _)); exact BK273.out)) : gb280 ≠ gb273)); clear BK271; clear BK272; clear BK273; clear HB; have BK271 := n0_; have BK272 := n1_; have BK273 := n2_; have HB := n3_; have BK280 := n4_; have GW280 := n5_; have GE280 := n6_; have NB271_280 := n7_; have NB280_271 := n8_; have NB272_280 := n9_; have NB280_272 := n10_; have NB273_280 := n11_; have NB280_273 := n12_; clear n0_ n1_ n2_ n3_ n4_ n5_ n6_ n7_ n8_ n9_ n10_ n11_ n12_; clear hb hbox hg; have hnb149 := NB280_271.out; have hnc149 := NB271_280.out; have hnb150 := NB280_272.out; have hnc150 := NB272_280.out; have hnb151 := NB280_273.out; have hnc151 := NB273_280.out; obtain ⟨hcz152_0, hcz152_1, hcz152_2, hcz152_3⟩ := cells4_ BK280.out; have hfz152_0 := fun j => blk_frozen BK280.out j) | ((with_reducible refine gate_callee (f := 7) rfl ?_); refine goesL_ (some 25) rfl rfl Tryd.func7 (by kernel_rfl) rfl #[] rfl (by (try simp only [List.map_toArray, List.map_cons, List.map_nil]); first | done | rfl | (simp only [List.length_drop, List.length_take]; rfl)) ?_; (with_reducible refine (cleatlaw06_done.calls k  true _ A133.out).mono ?_); rintro e w153 ⟨rfl, hb⟩; refine ⟨_, rfl, ?_⟩; have n0_ := Aside0.mk (blk_below (g := gb271) (o := .cells #[.int .i64 a0_0, .int .i64 a0_1, .int .i64 a0_2, .int .i64 a0_3, .int .i64 a0_4, .int .i64 a0_5, .int .u64 a0_6, .int .i64 a0_7, .int .i64 a0_8, .int .i64 a0_9] 25 (0, 0)) (by (with_reducible repeat (first | refine blk_drewN ?_ _ | refine blk_drew ?_ | refine blk_alloc ?_ _)); refine blk_far ?_ NB271_280.out _; (with_reducible repeat (first | refine blk_drewN ?_ _ | refine blk_drew ?_ | refine blk_alloc ?_ _)); refine blk_far ?_ NB271_280.out _; (with_reducible repeat (first | refine blk_drewN ?_ _ | refine blk_drew ?_ | refine blk_alloc ?_ _)); refine blk_far ?_ NB271_280.out _; (with_reducible repeat (first | refine blk_drewN ?_ _ | refine blk_drew ?_ | refine blk_alloc ?_ _)); refine blk_far ?_ NB271_280.out _; (with_reducible repeat (first | refine blk_drewN ?_ _ | refine blk_drew ?_ | refine blk_alloc ?_ _)); exact BK271.out) hb); have n1_ := Aside0.mk (blk_below (g := gb272) (o := .cells #[.int .u64 a1_0, .int .u64 a1_1, .int .u64 a1_2, .int .u64 a1_3] 29 (0, 0)) (by (with_reducible repeat (first | refine blk_drewN ?_ _ | refine blk_drew ?_ | refine blk_alloc ?_ _)); refine blk_far ?_ NB272_280.out _; (with_reducible repeat (first | refine blk_drewN ?_ _ | refine blk_drew ?_ | refine blk_alloc ?_ _)); refine blk_far ?_ NB272_280.out _; (with_reducible repeat (first | refine blk_drewN ?_ _ | refine blk_drew ?_ | refine blk_alloc ?_ _)); refine blk_far ?_ NB272_280.out _; (with_reducible repeat (first | refine blk_drewN ?_ _ | refine blk_drew ?_ | refine blk_alloc ?_ _)); refine blk_far ?_ NB272_280.out _; (with_reducible repeat (first | refine blk_drewN ?_ _ | refine blk_drew ?_ | refine blk_alloc ?_ _)); exact BK272.out) hb); have n2_ := Aside0.mk (blk_below (g := gb273) (o := .cells #[.bool a2_0, .bool a2_1, .bool a2_2, .bool a2_3] 35 (0, 0)) (by (with_reducible repeat (first | refine blk_drewN ?_ _ | refine blk_drew ?_ | refine blk_alloc ?_ _)); refine blk_far ?_ NB273_280.out _; (with_reducible repeat (first | refine blk_drewN ?_ _ | refine blk_drew ?_ | refine blk_alloc ?_ _)); refine blk_far ?_ NB273_280.out _; (with_reducible repeat (first | refine blk_drewN ?_ _ | refine blk_drew ?_ | refine blk_alloc ?_ _)); refine blk_far ?_ NB273_280.out _; (with_reducible repeat (first | refine blk_drewN ?_ _ | refine blk_drew ?_ | refine blk_alloc ?_ _)); refine blk_far ?_ NB273_280.out _; (with_reducible repeat (first | refine blk_drewN ?_ _ | refine blk_drew ?_ | refine blk_alloc ?_ _)); exact BK273.out) hb); have n3_ := Aside0.mk (blk_below (g := gb280) (o := .cells #[.bool t275, .bool t276, .bool t277, .bool t278] 35 (0, 0)) (by (with_reducible repeat (first | refine blk_drewN ?_ _ | refine blk_drew ?_ | refine blk_alloc ?_ _)); refine blk_put (cs := #[.bool t275, .bool t276, .bool t277, .bool false]) ?_ 3 _ rfl; (with_reducible repeat (first | refine blk_drewN ?_ _ | refine blk_drew ?_ | refine blk_alloc ?_ _)); refine blk_put (cs := #[.bool t275, .bool t276, .bool false, .bool false]) ?_ 2 _ rfl; (with_reducible repeat (first | refine blk_drewN ?_ _ | refine blk_drew ?_ | refine blk_alloc ?_ _)); refine blk_put (cs := #[.bool t275, .bool false, .bool false, .bool false]) ?_ 1 _ rfl; (with_reducible repeat (first | refine blk_drewN ?_ _ | refine blk_drew ?_ | refine blk_alloc ?_ _)); refine blk_put (cs := #[.bool false, .bool false, .bool false, .bool false]) ?_ 0 _ rfl; (with_reducible repeat (first | refine blk_drewN ?_ _ | refine blk_drew ?_ | refine blk_alloc ?_ _)); exact BK280.out) hb); have n4_ := Aside0.mk (below_step (by repeat (first | (with_reducible first | exact HB.out | apply below_alloc | apply pw_below_drewN | apply below_drew1 | refine below_set ?_ GE271.out | refine below_set ?_ GE272.out | refine below_set ?_ GE273.out | refine below_set ?_ GE280.out) | exact HB.out)) hb); clear BK271; clear BK272; clear BK273; clear BK280; clear HB; have BK271 := n0_; have BK272 := n1_; have BK273 := n2_; have BK280 := n3_; have HB := n4_; clear n0_ n1_ n2_ n3_ n4_; (try clear hb); (try clear hb2); (try clear hk); (try clear hi); obtain ⟨hcz154_0, hcz154_1, hcz154_2, hcz154_3, hcz154_4, hcz154_5, hcz154_6, hcz154_7, hcz154_8, hcz154_9⟩ := cells10_ BK271.out; have hfz154_0 := fun j => blk_frozen BK271.out j) | (go_at_call 12; (with_reducible refine (alu_Is.calls k a0_0 a0_1 a0_2 a0_3 a0_4 a0_5 a0_6 a0_7 a0_8 a0_9 false _ A135.out).mono ?_); rintro e w155 ⟨rfl, hb⟩; have n0_ := Aside0.mk (blk_below (g := gb271) (o := .cells #[.int .i64 a0_0, .int .i64 a0_1, .int .i64 a0_2, .int .i64 a0_3, .int .i64 a0_4, .int .i64 a0_5, .int .u64 a0_6, .int .i64 a0_7, .int .i64 a0_8, .int .i64 a0_9] 25 (0, 0)) (by (with_reducible repeat (first | refine blk_drewN ?_ _ | refine blk_drew ?_ | refine blk_alloc ?_ _)); exact BK271.out) hb); have n1_ := Aside0.mk (blk_below (g := gb272) (o := .cells #[.int .u64 a1_0, .int .u64 a1_1, .int .u64 a1_2, .int .u64 a1_3] 29 (0, 0)) (by (with_reducible repeat (first | refine blk_drewN ?_ _ | refine blk_drew ?_ | refine blk_alloc ?_ _)); exact BK272.out) hb); have n2_ := Aside0.mk (blk_below (g := gb273) (o := .cells #[.bool a2_0, .bool a2_1, .bool a2_2, .bool a2_3] 35 (0, 0)) (by (with_reducible repeat (first | refine blk_drewN ?_ _ | refine blk_drew ?_ | refine blk_alloc ?_ _)); exact BK273.out) hb); have n3_ := Aside0.mk (blk_below (g := gb280) (o := .cells #[.bool t275, .bool t276, .bool t277, .bool t278] 35 (0, 0)) (by (with_reducible repeat (first | refine blk_drewN ?_ _ | refine blk_drew ?_ | refine blk_alloc ?_ _)); exact BK280.out) hb); have n4_ := Aside0.mk (below_step (by repeat (first | (with_reducible first | exact HB.out | apply below_alloc | apply pw_below_drewN | apply below_drew1 | refine below_set ?_ GE271.out | refine below_set ?_ GE272.out | refine below_set ?_ GE273.out | refine below_set ?_ GE280.out) | exact HB.out)) hb); clear BK271; clear BK272; clear BK273; clear BK280; clear HB; have BK271 := n0_; have BK272 := n1_; have BK273 := n2_; have BK280 := n3_; have HB := n4_; clear n0_ n1_ n2_ n3_ n4_; (try clear hb); (try clear hb2); (try clear hk); (try clear hi); obtain ⟨hcz156_0, hcz156_1, hcz156_2, hcz156_3⟩ := cells4_ BK280.out; have hfz156_0 := fun j => blk_frozen BK280.out j))
     go_ret
     exact ⟨by first | rfl | (simp [errW_none, errW_some] <;> rfl) | (simp [*, errW_none, errW_some] <;> rfl), by repeat (first | (with_reducible first | exact HB.out | apply below_alloc | apply pw_below_drewN | apply below_drew1 | refine below_set ?_ GE271.out | refine below_set ?_ GE272.out | refine below_set ?_ GE273.out | refine below_set ?_ GE280.out) | exact HB.out)⟩
    ·
     rw [if_neg c137] at H
     exact absurd H (by simp)
  ·
   replace c134 := Bool.eq_false_iff.mpr c134
   subst c134
   have H1 : (none) = some r := by rw [if_neg (show ¬ (false = true) by decide)] at H; exact H
   clear H
   have H := H1
   clear H1
   exact absurd H (by simp)

end Go.Proofs.YtkmochnefidlmaaDoor.P
