/- Written for this claim by a program of this session: what the claim uses of lemmas and proved contracts of Go functions. -/
import Derived.Test.YtbklmlbmbnnjkaaDoorZOwnRx0
import Derived.Test.YtbklmlbmbnnjkaaDoorZOwnRx6
import Derived.Test.YtbklmlbmbnnjkaaDoorZOwnRx7
import Derived.Test.YtbklmlbmbnnjkaaDoorZOwnRx14
import Derived.Test.YtbklmlbmbnnjkaaDoorZOwnRx17
namespace Go.Proofs.YtbklmlbmbnnjkaaDoor.R
open Go.RowKit Go.Proofs.YtbklmlbmbnnjkaaDoorW.PrintWords Go.Proofs.YtbklmlbmbnnjkaaDoorW.PrintLast Go.Proofs.YtbklmlbmbnnjkaaDoorW.PrintMore
attribute [local go_sem] max2_int min2_int max_two min_two max_three min_three max_four min_four   -- for this text's walks alone
set_option linter.unusedVariables false
set_option linter.unusedSimpArgs false
def bb1_0 : Array Bool := #[false, false, false, false, false, false, false, false, false, false, false, false, false, false, false, false, false, false, false, false, false, false, false, false, false, false, false, false, false, false, false, false, false, false, false, false, false, false, false, false, false, false, false, false, false, false, false, false, false]
def bb1_1 : Array Bool := #[true, false, false, false, false, false, false, false, false, false, false, false, false, false, false, false, false, false, false, false, false, false, false, false, false, false, false, false, false, false, false, false, false, false, false, false, false, false, false, false, false, false, false, false, false, false, false, false, false]
def bb1_2 : Array Bool := #[true, true, false, false, false, false, false, false, false, false, false, false, false, false, false, false, false, false, false, false, false, false, false, false, false, false, false, false, false, false, false, false, false, false, false, false, false, false, false, false, false, false, false, false, false, false, false, false, false]
def bb1_3 : Array Bool := #[true, true, true, false, false, false, false, false, false, false, false, false, false, false, false, false, false, false, false, false, false, false, false, false, false, false, false, false, false, false, false, false, false, false, false, false, false, false, false, false, false, false, false, false, false, false, false, false, false]
def bb1_4 : Array Bool := #[true, true, true, true, false, false, false, false, false, false, false, false, false, false, false, false, false, false, false, false, false, false, false, false, false, false, false, false, false, false, false, false, false, false, false, false, false, false, false, false, false, false, false, false, false, false, false, false, false]
def bb1_5 : Array Bool := #[true, true, true, true, true, false, false, false, false, false, false, false, false, false, false, false, false, false, false, false, false, false, false, false, false, false, false, false, false, false, false, false, false, false, false, false, false, false, false, false, false, false, false, false, false, false, false, false, false]
def bb1_6 : Array Bool := #[true, true, true, true, true, true, false, false, false, false, false, false, false, false, false, false, false, false, false, false, false, false, false, false, false, false, false, false, false, false, false, false, false, false, false, false, false, false, false, false, false, false, false, false, false, false, false, false, false]
def bb1_7 : Array Bool := #[true, true, true, true, true, true, true, false, false, false, false, false, false, false, false, false, false, false, false, false, false, false, false, false, false, false, false, false, false, false, false, false, false, false, false, false, false, false, false, false, false, false, false, false, false, false, false, false, false]
def bb1_8 : Array Bool := #[true, true, true, true, true, true, true, true, false, false, false, false, false, false, false, false, false, false, false, false, false, false, false, false, false, false, false, false, false, false, false, false, false, false, false, false, false, false, false, false, false, false, false, false, false, false, false, false, false]
def bb1_9 : Array Bool := #[true, true, true, true, true, true, true, true, true, false, false, false, false, false, false, false, false, false, false, false, false, false, false, false, false, false, false, false, false, false, false, false, false, false, false, false, false, false, false, false, false, false, false, false, false, false, false, false, false]
def bb1_10 : Array Bool := #[true, true, true, true, true, true, true, true, true, true, false, false, false, false, false, false, false, false, false, false, false, false, false, false, false, false, false, false, false, false, false, false, false, false, false, false, false, false, false, false, false, false, false, false, false, false, false, false, false]
def bb1_11 : Array Bool := #[true, true, true, true, true, true, true, true, true, true, true, false, false, false, false, false, false, false, false, false, false, false, false, false, false, false, false, false, false, false, false, false, false, false, false, false, false, false, false, false, false, false, false, false, false, false, false, false, false]
def bb1_12 : Array Bool := #[true, true, true, true, true, true, true, true, true, true, true, true, false, false, false, false, false, false, false, false, false, false, false, false, false, false, false, false, false, false, false, false, false, false, false, false, false, false, false, false, false, false, false, false, false, false, false, false, false]
def bb1_13 : Array Bool := #[true, true, true, true, true, true, true, true, true, true, true, true, true, false, false, false, false, false, false, false, false, false, false, false, false, false, false, false, false, false, false, false, false, false, false, false, false, false, false, false, false, false, false, false, false, false, false, false, false]
def bb1_14 : Array Bool := #[true, true, true, true, true, true, true, true, true, true, true, true, true, true, false, false, false, false, false, false, false, false, false, false, false, false, false, false, false, false, false, false, false, false, false, false, false, false, false, false, false, false, false, false, false, false, false, false, false]
def bb1_15 : Array Bool := #[true, true, true, true, true, true, true, true, true, true, true, true, true, true, true, false, false, false, false, false, false, false, false, false, false, false, false, false, false, false, false, false, false, false, false, false, false, false, false, false, false, false, false, false, false, false, false, false, false]
def bb1_16 : Array Bool := #[true, true, true, true, true, true, true, true, true, true, true, true, true, true, true, true, false, false, false, false, false, false, false, false, false, false, false, false, false, false, false, false, false, false, false, false, false, false, false, false, false, false, false, false, false, false, false, false, false]
def bb1_17 : Array Bool := #[true, true, true, true, true, true, true, true, true, true, true, true, true, true, true, true, true, false, false, false, false, false, false, false, false, false, false, false, false, false, false, false, false, false, false, false, false, false, false, false, false, false, false, false, false, false, false, false, false]
def bb1_18 : Array Bool := #[true, true, true, true, true, true, true, true, true, true, true, true, true, true, true, true, true, true, false, false, false, false, false, false, false, false, false, false, false, false, false, false, false, false, false, false, false, false, false, false, false, false, false, false, false, false, false, false, false]
def bb1_19 : Array Bool := #[true, true, true, true, true, true, true, true, true, true, true, true, true, true, true, true, true, true, true, false, false, false, false, false, false, false, false, false, false, false, false, false, false, false, false, false, false, false, false, false, false, false, false, false, false, false, false, false, false]
def bb1_20 : Array Bool := #[true, true, true, true, true, true, true, true, true, true, true, true, true, true, true, true, true, true, true, true, false, false, false, false, false, false, false, false, false, false, false, false, false, false, false, false, false, false, false, false, false, false, false, false, false, false, false, false, false]
def bb1_21 : Array Bool := #[true, true, true, true, true, true, true, true, true, true, true, true, true, true, true, true, true, true, true, true, true, false, false, false, false, false, false, false, false, false, false, false, false, false, false, false, false, false, false, false, false, false, false, false, false, false, false, false, false]
def bb1_22 : Array Bool := #[true, true, true, true, true, true, true, true, true, true, true, true, true, true, true, true, true, true, true, true, true, true, false, false, false, false, false, false, false, false, false, false, false, false, false, false, false, false, false, false, false, false, false, false, false, false, false, false, false]
def bb1_23 : Array Bool := #[true, true, true, true, true, true, true, true, true, true, true, true, true, true, true, true, true, true, true, true, true, true, true, false, false, false, false, false, false, false, false, false, false, false, false, false, false, false, false, false, false, false, false, false, false, false, false, false, false]
def bb1_24 : Array Bool := #[true, true, true, true, true, true, true, true, true, true, true, true, true, true, true, true, true, true, true, true, true, true, true, true, false, false, false, false, false, false, false, false, false, false, false, false, false, false, false, false, false, false, false, false, false, false, false, false, false]
def bb1_25 : Array Bool := #[true, true, true, true, true, true, true, true, true, true, true, true, true, true, true, true, true, true, true, true, true, true, true, true, true, false, false, false, false, false, false, false, false, false, false, false, false, false, false, false, false, false, false, false, false, false, false, false, false]
def bb1_26 : Array Bool := #[true, true, true, true, true, true, true, true, true, true, true, true, true, true, true, true, true, true, true, true, true, true, true, true, true, true, false, false, false, false, false, false, false, false, false, false, false, false, false, false, false, false, false, false, false, false, false, false, false]
def bb1_27 : Array Bool := #[true, true, true, true, true, true, true, true, true, true, true, true, true, true, true, true, true, true, true, true, true, true, true, true, true, true, true, false, false, false, false, false, false, false, false, false, false, false, false, false, false, false, false, false, false, false, false, false, false]
def bb1_28 : Array Bool := #[true, true, true, true, true, true, true, true, true, true, true, true, true, true, true, true, true, true, true, true, true, true, true, true, true, true, true, true, false, false, false, false, false, false, false, false, false, false, false, false, false, false, false, false, false, false, false, false, false]
def bb1_29 : Array Bool := #[true, true, true, true, true, true, true, true, true, true, true, true, true, true, true, true, true, true, true, true, true, true, true, true, true, true, true, true, true, false, false, false, false, false, false, false, false, false, false, false, false, false, false, false, false, false, false, false, false]
def bb1_30 : Array Bool := #[true, true, true, true, true, true, true, true, true, true, true, true, true, true, true, true, true, true, true, true, true, true, true, true, true, true, true, true, true, true, false, false, false, false, false, false, false, false, false, false, false, false, false, false, false, false, false, false, false]
def bb1_31 : Array Bool := #[true, true, true, true, true, true, true, true, true, true, true, true, true, true, true, true, true, true, true, true, true, true, true, true, true, true, true, true, true, true, true, false, false, false, false, false, false, false, false, false, false, false, false, false, false, false, false, false, false]
def bb1_32 : Array Bool := #[true, true, true, true, true, true, true, true, true, true, true, true, true, true, true, true, true, true, true, true, true, true, true, true, true, true, true, true, true, true, true, true, false, false, false, false, false, false, false, false, false, false, false, false, false, false, false, false, false]
def bb1_33 : Array Bool := #[true, true, true, true, true, true, true, true, true, true, true, true, true, true, true, true, true, true, true, true, true, true, true, true, true, true, true, true, true, true, true, true, true, false, false, false, false, false, false, false, false, false, false, false, false, false, false, false, false]
def bb1_34 : Array Bool := #[true, true, true, true, true, true, true, true, true, true, true, true, true, true, true, true, true, true, true, true, true, true, true, true, true, true, true, true, true, true, true, true, true, true, false, false, false, false, false, false, false, false, false, false, false, false, false, false, false]
def bb1_35 : Array Bool := #[true, true, true, true, true, true, true, true, true, true, true, true, true, true, true, true, true, true, true, true, true, true, true, true, true, true, true, true, true, true, true, true, true, true, true, false, false, false, false, false, false, false, false, false, false, false, false, false, false]
def bb1_36 : Array Bool := #[true, true, true, true, true, true, true, true, true, true, true, true, true, true, true, true, true, true, true, true, true, true, true, true, true, true, true, true, true, true, true, true, true, true, true, true, false, false, false, false, false, false, false, false, false, false, false, false, false]
def bb1_37 : Array Bool := #[true, true, true, true, true, true, true, true, true, true, true, true, true, true, true, true, true, true, true, true, true, true, true, true, true, true, true, true, true, true, true, true, true, true, true, true, true, false, false, false, false, false, false, false, false, false, false, false, false]
def bb1_38 : Array Bool := #[true, true, true, true, true, true, true, true, true, true, true, true, true, true, true, true, true, true, true, true, true, true, true, true, true, true, true, true, true, true, true, true, true, true, true, true, true, true, false, false, false, false, false, false, false, false, false, false, false]
def bb1_39 : Array Bool := #[true, true, true, true, true, true, true, true, true, true, true, true, true, true, true, true, true, true, true, true, true, true, true, true, true, true, true, true, true, true, true, true, true, true, true, true, true, true, true, false, false, false, false, false, false, false, false, false, false]
def bb1_40 : Array Bool := #[true, true, true, true, true, true, true, true, true, true, true, true, true, true, true, true, true, true, true, true, true, true, true, true, true, true, true, true, true, true, true, true, true, true, true, true, true, true, true, true, false, false, false, false, false, false, false, false, false]
def bb1_41 : Array Bool := #[true, true, true, true, true, true, true, true, true, true, true, true, true, true, true, true, true, true, true, true, true, true, true, true, true, true, true, true, true, true, true, true, true, true, true, true, true, true, true, true, true, false, false, false, false, false, false, false, false]
def bb1_42 : Array Bool := #[true, true, true, true, true, true, true, true, true, true, true, true, true, true, true, true, true, true, true, true, true, true, true, true, true, true, true, true, true, true, true, true, true, true, true, true, true, true, true, true, true, true, false, false, false, false, false, false, false]
def bb1_43 : Array Bool := #[true, true, true, true, true, true, true, true, true, true, true, true, true, true, true, true, true, true, true, true, true, true, true, true, true, true, true, true, true, true, true, true, true, true, true, true, true, true, true, true, true, true, true, false, false, false, false, false, false]
def bb1_44 : Array Bool := #[true, true, true, true, true, true, true, true, true, true, true, true, true, true, true, true, true, true, true, true, true, true, true, true, true, true, true, true, true, true, true, true, true, true, true, true, true, true, true, true, true, true, true, true, false, false, false, false, false]
def bb1_45 : Array Bool := #[true, true, true, true, true, true, true, true, true, true, true, true, true, true, true, true, true, true, true, true, true, true, true, true, true, true, true, true, true, true, true, true, true, true, true, true, true, true, true, true, true, true, true, true, true, false, false, false, false]
def bb1_46 : Array Bool := #[true, true, true, true, true, true, true, true, true, true, true, true, true, true, true, true, true, true, true, true, true, true, true, true, true, true, true, true, true, true, true, true, true, true, true, true, true, true, true, true, true, true, true, true, true, true, false, false, false]
def bb1_47 : Array Bool := #[true, true, true, true, true, true, true, true, true, true, true, true, true, true, true, true, true, true, true, true, true, true, true, true, true, true, true, true, true, true, true, true, true, true, true, true, true, true, true, true, true, true, true, true, true, true, true, false, false]
def bb1_48 : Array Bool := #[true, true, true, true, true, true, true, true, true, true, true, true, true, true, true, true, true, true, true, true, true, true, true, true, true, true, true, true, true, true, true, true, true, true, true, true, true, true, true, true, true, true, true, true, true, true, true, true, false]
def bb1_49 : Array Bool := #[true, true, true, true, true, true, true, true, true, true, true, true, true, true, true, true, true, true, true, true, true, true, true, true, true, true, true, true, true, true, true, true, true, true, true, true, true, true, true, true, true, true, true, true, true, true, true, true, true]
def bb1_50 : Array Bool := #[true, true, true, true, true, true, true, true, true, true, true, true, true, true, true, true, true, true, true, true, false, true, false, false, false, false, false, false, false, false, false, false, false, false, false, false, false, false, false, false, false, false, false, false, false, false, false, false, false]
def bb1_51 : Array Bool := #[true, true, true, true, true, true, true, true, true, true, true, true, true, true, true, true, true, true, true, true, false, true, true, false, false, false, false, false, false, false, false, false, false, false, false, false, false, false, false, false, false, false, false, false, false, false, false, false, false]
def bb1_52 : Array Bool := #[true, true, true, true, true, true, true, true, true, true, true, true, true, true, true, true, true, true, true, true, false, true, true, true, false, false, false, false, false, false, false, false, false, false, false, false, false, false, false, false, false, false, false, false, false, false, false, false, false]
mutual
def cleatlaw04_InstOwn.l0 : Nat → List Int → Int → Bool → List Int → Int → Int → Int → Int → Int → Int → Int → Int → Int → Int → Int → Option (Bool)
 | 0, _, _, _, _, _, _, _, _, _, _, _, _, _, _, _ => none
 | k + 1, x3, x4, x5, x6, x7, x323000, x323001, x323002, x323003, x323004, x323005, x323006, x323007, x323008, x323009 => if x7 < (x3.length : Int) then (if 0 ≤ x7 then (if (rd x3 x7) < 0 then (cleatlaw04_InstOwn.j1 k x3 x4 x5 x6 x7 true x323000 x323001 x323002 x323003 x323004 x323005 x323006 x323007 x323008 x323009) else (if (rd x3 x7) > 31 then (cleatlaw04_InstOwn.j1 k x3 x4 x5 x6 x7 true x323000 x323001 x323002 x323003 x323004 x323005 x323006 x323007 x323008 x323009) else (if x7 > 0 then (if 0 ≤ (wrap64 (x7 - 1)) then (if (wrap64 (x7 - 1)) < (x3.length : Int) then (if (rd x3 (wrap64 (x7 - 1))) ≥ (rd x3 x7) then (cleatlaw04_InstOwn.j1 k x3 x4 x5 x6 x7 true x323000 x323001 x323002 x323003 x323004 x323005 x323006 x323007 x323008 x323009) else ((cleatlaw04_has.f k x6 (rd x3 x7)).bind fun t338 => (if t338 = true then (cleatlaw04_InstOwn.j1 k x3 x4 x5 x6 x7 false x323000 x323001 x323002 x323003 x323004 x323005 x323006 x323007 x323008 x323009) else (if x323000 = 37 then (cleatlaw04_InstOwn.j1 k x3 x4 x5 x6 x7 ((rd x3 x7) != 0) x323000 x323001 x323002 x323003 x323004 x323005 x323006 x323007 x323008 x323009) else (cleatlaw04_InstOwn.j1 k x3 x4 x5 x6 x7 true x323000 x323001 x323002 x323003 x323004 x323005 x323006 x323007 x323008 x323009))))) else (none)) else (none)) else ((cleatlaw04_has.f k x6 (rd x3 x7)).bind fun t341 => (if t341 = true then (cleatlaw04_InstOwn.j1 k x3 x4 x5 x6 x7 false x323000 x323001 x323002 x323003 x323004 x323005 x323006 x323007 x323008 x323009) else (if x323000 = 37 then (cleatlaw04_InstOwn.j1 k x3 x4 x5 x6 x7 ((rd x3 x7) != 0) x323000 x323001 x323002 x323003 x323004 x323005 x323006 x323007 x323008 x323009) else (cleatlaw04_InstOwn.j1 k x3 x4 x5 x6 x7 true x323000 x323001 x323002 x323003 x323004 x323005 x323006 x323007 x323008 x323009))))))) else (none)) else (if x323000 = 30 then (cleatlaw04_InstOwn.j2 k x4 x5 true x323000 x323001 x323002 x323003 x323004 x323005 x323006 x323007 x323008 x323009) else (cleatlaw04_InstOwn.j2 k x4 x5 (x323000 == 35) x323000 x323001 x323002 x323003 x323004 x323005 x323006 x323007 x323008 x323009))
def cleatlaw04_InstOwn.j1 : Nat → List Int → Int → Bool → List Int → Int → Bool → Int → Int → Int → Int → Int → Int → Int → Int → Int → Int → Option (Bool)
 | 0, _, _, _, _, _, _, _, _, _, _, _, _, _, _, _, _ => none
 | k + 1, x3, x4, x5, x6, x7, x96, x323000, x323001, x323002, x323003, x323004, x323005, x323006, x323007, x323008, x323009 => if x96 = true then (none) else (cleatlaw04_InstOwn.l0 k x3 x4 x5 x6 (wrap64 (x7 + 1)) x323000 x323001 x323002 x323003 x323004 x323005 x323006 x323007 x323008 x323009)
def cleatlaw04_InstOwn.j2 : Nat → Int → Bool → Bool → Int → Int → Int → Int → Int → Int → Int → Int → Int → Int → Option (Bool)
 | 0, _, _, _, _, _, _, _, _, _, _, _, _, _ => none
 | k + 1, x4, x5, x8, x323000, x323001, x323002, x323003, x323004, x323005, x323006, x323007, x323008, x323009 => (cleatlaw04_shaped.f k).bind fun t343 => (if t343 = true then (if x5 = true then (if x8 = true then (if x4 = 30 then (some true) else (none)) else (if x4 = x323001 then (some true) else (none))) else (some (x4 == 0))) else (none))
end
def cleatlaw04_InstOwn.f (k : Nat) (a0_0 : Int) (a0_1 : Int) (a0_2 : Int) (a0_3 : Int) (a0_4 : Int) (a0_5 : Int) (a0_6 : Int) (a0_7 : Int) (a0_8 : Int) (a0_9 : Int) : Option (Bool) := (inst_Reads.f k a0_0 a0_1 a0_2 a0_3 a0_4 a0_5 a0_6 a0_7 a0_8 a0_9).bind fun t323 => ((inst_Writes.f k a0_0 a0_1 a0_2 a0_3 a0_4 a0_5 a0_6 a0_7 a0_8 a0_9).bind fun bt326 => ((inst_Is.f k a0_0 a0_1 a0_2 a0_3 a0_4 a0_5 a0_6 a0_7 a0_8 a0_9).bind fun t328 => (if t328 = true then (cleatlaw04_InstOwn.l0 k t323 bt326.1 bt326.2 (([a0_1, a0_2, a0_3, a0_4] : List Int)) 0 a0_0 a0_1 a0_2 a0_3 a0_4 a0_5 a0_6 a0_7 a0_8 a0_9) else ((cleatlaw04_shaped.f k).bind fun t329 => (if t329 = true then (if (t323.length : Int) = 0 then (if bt326.2 = true then (none) else (some (bt326.1 == 0))) else (none)) else (none))))))
def cleatlaw04_InstOwn.T9 : Bool × List (List Nat × List Nat) := (true, [([], []), ([], []), ([0, 1], [0, 1]), ([2], [2]), ([3], [3]), ([4], [4]), ([5], [5]), ([5], [5]), ([6, 7, 5], [5, 6, 7]), ([8, 5], [5, 8]), ([9, 5], [5, 9]), ([5, 10], [5, 10]), ([11, 5], [11]), ([12], [12]), ([13, 12], [12, 13]), ([14, 12, 12], [12, 14]), ([15], [15]), ([15], [15]), ([17, 15], [15, 17]), ([16, 18, 15], [15, 16, 18]), ([19, 15], [15, 19]), ([15], [15]), ([15], [15]), ([21, 22, 15], [15, 21, 22]), ([23, 15], [15, 23]), ([20, 24, 15], [15, 20, 24]), ([15, 25, 12], [12, 15, 25]), ([12, 26], [12, 26]), ([27, 15], [27]), ([28], [28]), ([28], [28]), ([28], [28]), ([30, 31, 28], [28, 30, 31]), ([32, 28], [28, 32]), ([29, 33, 28, 28], [28, 29, 33]), ([34, 28], [28, 34]), ([35, 34, 28], [28, 35]), ([36], [36]), ([37, 36], [36, 37]), ([38, 36], [36, 38]), ([39, 36, 36], [36, 39]), ([40], [40]), ([40], [40]), ([41, 42, 40], [40, 41, 42]), ([43, 40], [40, 43]), ([44, 40], [40, 44]), ([40, 45, 36], [36, 40, 45]), ([36, 46, 28], [28, 36, 46]), ([28, 47], [28, 47])])
def cleatlaw04_InstOwn.B9 : List Nat := [0, 0, 3, 7, 15, 31, 63, 63, 255, 511, 1023, 2047, 4095, 8191, 16383, 32767, 65535, 65535, 196607, 524287, 1048575, 65535, 65535, 6356991, 14745599, 33554431, 67108863, 134217727, 268435455, 536870911, 536870911, 536870911, 3758096383, 8053063679, 17179869183, 34359738367, 68719476735, 137438953471, 274877906943, 549755813887, 1099511627775, 2199023255551, 2199023255551, 8796093022207, 17592186044415, 35184372088831, 70368744177663, 140737488355327, 281474976710655]
theorem cleatlaw04_InstOwn.tab9 : rtab .any (opsOf Tryd.f9 9) = cleatlaw04_InstOwn.T9 := by kernel_rfl
theorem cleatlaw04_InstOwn.bits9 : waitsOk cleatlaw04_InstOwn.T9.2 cleatlaw04_InstOwn.B9 = true := by kernel_rfl
set_option maxHeartbeats 8000000 in
set_option maxRecDepth 100000 in
theorem cleatlaw04_InstOwn.calls (k : Nat) (a0_0 : Int) (a0_1 : Int) (a0_2 : Int) (a0_3 : Int) (a0_4 : Int) (a0_5 : Int) (a0_6 : Int) (a0_7 : Int) (a0_8 : Int) (a0_9 : Int) (r : Bool) (w : World) (h : cleatlaw04_InstOwn.f k a0_0 a0_1 a0_2 a0_3 a0_4 a0_5 a0_6 a0_7 a0_8 a0_9 = some r) (hTab : TabW w := by first | exact hTab | exact TabW.drew hTab | exact TabW.drewN hTab _ | exact TabW.below hTab (by repeat (first | (with_reducible first | exact HB.out | apply below_alloc | apply pw_below_drewN | apply below_drew1) | refine Below.setCell ?_ (Aside0.out (by assumption)) _ | exact HB.out | exact Below.refl _ _))) :
    Calls Tryd.prog 9 #[.agg #[.int .i64 a0_0, .int .i64 a0_1, .int .i64 a0_2, .int .i64 a0_3, .int .i64 a0_4, .int .i64 a0_5, .int .u64 a0_6, .int .i64 a0_7, .int .i64 a0_8, .int .i64 a0_9]] w fun e w' => e = .returned (.bool r) ∧ Below w.heap.size w w' := by
 have hu37 := Tryd.underlying37
 have HB := Aside0.mk (Below.refl w.heap.size w)
 have H : ((inst_Reads.f k a0_0 a0_1 a0_2 a0_3 a0_4 a0_5 a0_6 a0_7 a0_8 a0_9).bind fun t323 => ((inst_Writes.f k a0_0 a0_1 a0_2 a0_3 a0_4 a0_5 a0_6 a0_7 a0_8 a0_9).bind fun bt326 => ((inst_Is.f k a0_0 a0_1 a0_2 a0_3 a0_4 a0_5 a0_6 a0_7 a0_8 a0_9).bind fun t328 => (if t328 = true then (cleatlaw04_InstOwn.l0 k t323 bt326.1 bt326.2 (([a0_1, a0_2, a0_3, a0_4] : List Int)) 0 a0_0 a0_1 a0_2 a0_3 a0_4 a0_5 a0_6 a0_7 a0_8 a0_9) else ((cleatlaw04_shaped.f k).bind fun t329 => (if t329 = true then (if (t323.length : Int) = 0 then (if bt326.2 = true then (none) else (some (bt326.1 == 0))) else (none)) else (none))))))) = some r := h
 clear h
 replace H := Option.bind_eq_some_iff.mp H
 obtain ⟨t323, A20, H⟩ := H
 replace H : ((inst_Writes.f k a0_0 a0_1 a0_2 a0_3 a0_4 a0_5 a0_6 a0_7 a0_8 a0_9).bind fun bt326 => ((inst_Is.f k a0_0 a0_1 a0_2 a0_3 a0_4 a0_5 a0_6 a0_7 a0_8 a0_9).bind fun t328 => (if t328 = true then (cleatlaw04_InstOwn.l0 k t323 bt326.1 bt326.2 (([a0_1, a0_2, a0_3, a0_4] : List Int)) 0 a0_0 a0_1 a0_2 a0_3 a0_4 a0_5 a0_6 a0_7 a0_8 a0_9) else ((cleatlaw04_shaped.f k).bind fun t329 => (if t329 = true then (if (t323.length : Int) = 0 then (if bt326.2 = true then (none) else (some (bt326.1 == 0))) else (none)) else (none)))))) = some r := H
 have A2 := Aside0.mk A20
 clear A20
 replace H := Option.bind_eq_some_iff.mp H
 obtain ⟨⟨t326, t327⟩, A30, H⟩ := H
 replace H : ((inst_Is.f k a0_0 a0_1 a0_2 a0_3 a0_4 a0_5 a0_6 a0_7 a0_8 a0_9).bind fun t328 => (if t328 = true then (cleatlaw04_InstOwn.l0 k t323 t326 t327 (([a0_1, a0_2, a0_3, a0_4] : List Int)) 0 a0_0 a0_1 a0_2 a0_3 a0_4 a0_5 a0_6 a0_7 a0_8 a0_9) else ((cleatlaw04_shaped.f k).bind fun t329 => (if t329 = true then (if (t323.length : Int) = 0 then (if t327 = true then (none) else (some (t326 == 0))) else (none)) else (none))))) = some r := H
 have A3 := Aside0.mk A30
 clear A30
 replace H := Option.bind_eq_some_iff.mp H
 obtain ⟨t328, A40, H⟩ := H
 replace H : (if t328 = true then (cleatlaw04_InstOwn.l0 k t323 t326 t327 (([a0_1, a0_2, a0_3, a0_4] : List Int)) 0 a0_0 a0_1 a0_2 a0_3 a0_4 a0_5 a0_6 a0_7 a0_8 a0_9) else ((cleatlaw04_shaped.f k).bind fun t329 => (if t329 = true then (if (t323.length : Int) = 0 then (if t327 = true then (none) else (some (t326 == 0))) else (none)) else (none)))) = some r := H
 have A4 := Aside0.mk A40
 clear A40
 by_cases c5 : t328 = true
 ·
  subst c5
  have H1 : (cleatlaw04_InstOwn.l0 k t323 t326 t327 (([a0_1, a0_2, a0_3, a0_4] : List Int)) 0 a0_0 a0_1 a0_2 a0_3 a0_4 a0_5 a0_6 a0_7 a0_8 a0_9) = some r := by rw [if_pos rfl] at H; exact H
  clear H
  have H := H1
  clear H1
  obtain ⟨y330, hy330⟩ : ∃ y_ : List Int, y_ = (([a0_1, a0_2, a0_3, a0_4] : List Int)) := ⟨_, rfl⟩
  replace H : (cleatlaw04_InstOwn.l0 k t323 t326 t327 y330 0 a0_0 a0_1 a0_2 a0_3 a0_4 a0_5 a0_6 a0_7 a0_8 a0_9) = some r := by first | (rw [hy330]; with_reducible exact H) | (have H2_ := (Option.bind_some _ _).symm.trans H; rw [hy330]; with_reducible exact H2_) | (have H2_ := (Option.bind_some _ _).symm.trans H; with_reducible exact H2_) | with_reducible exact H | (rw [hy330]; exact H) | exact H
  have Ny330 := Aside0.mk hy330
  clear hy330
  have H' := Aside0.mk H
  clear H
  go_enter Tryd.func9, Tryd.ntmps9
  go_wp2_with (first | ((with_reducible refine gate_dst (N := 1) rfl ?_); (try (refine gate_guard (by rfl) ?_; dsimp only)); refine box_event ?hg (N := 1) ?hd (cs := #[.int .i64 a0_0, .int .i64 a0_1, .int .i64 a0_2, .int .i64 a0_3, .int .i64 a0_4, .int .i64 a0_5, .int .u64 a0_6, .int .i64 a0_7, .int .i64 a0_8, .int .i64 a0_9]) (t := 37) ?hr ?_; (case hd => rfl); (case hg => rfl); (case hr => first | (go_simp; done) | (go_simp; rfl)); intro gb322 hg w6 hbox hb; have n0_ := Aside0.mk (below_step (by repeat (first | (with_reducible first | exact HB.out | apply below_alloc | apply pw_below_drewN | apply below_drew1) | exact HB.out)) hb); have n1_ := Aside0.mk (hbox); have n2_ := Aside0.mk ((by rw [hg]; exact (below_size (by repeat (first | (with_reducible first | exact HB.out | apply below_alloc | apply pw_below_drewN | apply below_drew1) | exact HB.out))) : w.heap.size ≤ gb322)); have n3_ := Aside0.mk ((by rw [hg]; exact (below_size (by repeat (first | (with_reducible first | exact HB.out | apply below_alloc | apply pw_below_drewN | apply below_drew1) | exact HB.out))) : w.heap.size ≤ gb322)); clear HB; have HB := n0_; have BK322 := n1_; have GW322 := n2_; have GE322 := n3_; clear n0_ n1_ n2_ n3_; clear hb hbox hg; obtain ⟨hcz7_0, hcz7_1, hcz7_2, hcz7_3, hcz7_4, hcz7_5, hcz7_6, hcz7_7, hcz7_8, hcz7_9⟩ := cells10_ BK322.out; have hfz7_0 := fun j => blk_frozen BK322.out j) | ((with_reducible refine gate_callee (f := 33) rfl ?_); refine goesL_ (some 10) rfl rfl Tryd.func33 (by kernel_rfl) rfl #[.agg #[.int .i64 a0_0, .int .i64 a0_1, .int .i64 a0_2, .int .i64 a0_3, .int .i64 a0_4, .int .i64 a0_5, .int .u64 a0_6, .int .i64 a0_7, .int .i64 a0_8, .int .i64 a0_9]] rfl (by (try simp only [List.map_toArray, List.map_cons, List.map_nil]); first | done | rfl | (simp only [List.length_drop, List.length_take]; rfl)) ?_; (with_reducible refine (inst_Reads.calls k a0_0 a0_1 a0_2 a0_3 a0_4 a0_5 a0_6 a0_7 a0_8 a0_9 t323 _ A2.out).mono ?_); rintro e w8 ⟨v324, rfl, ho0, hb⟩; refine ⟨_, rfl, ?_⟩; have n0_ := Aside0.mk (Kd.R_lower ho0 (below_size (by repeat (first | (with_reducible first | exact HB.out | apply below_alloc | apply pw_below_drewN | apply below_drew1 | refine below_set ?_ GE322.out) | exact HB.out)))); have n1_ := Aside0.mk (blk_below (g := gb322) (o := .cells #[.int .i64 a0_0, .int .i64 a0_1, .int .i64 a0_2, .int .i64 a0_3, .int .i64 a0_4, .int .i64 a0_5, .int .u64 a0_6, .int .i64 a0_7, .int .i64 a0_8, .int .i64 a0_9] 37 (0, 0)) (by (with_reducible repeat (first | refine blk_drewN ?_ _ | refine blk_drew ?_ | refine blk_alloc ?_ _)); exact BK322.out) hb); have n2_ := Aside0.mk (below_step (by repeat (first | (with_reducible first | exact HB.out | apply below_alloc | apply pw_below_drewN | apply below_drew1 | refine below_set ?_ GE322.out) | exact HB.out)) hb); clear BK322; clear HB; have HO325 := n0_; have BK322 := n1_; have HB := n2_; clear n0_ n1_ n2_; (try clear hb); (try clear hb2); (try clear hk); (try clear hi); (try clear ho0); obtain ⟨hcz9_0, hcz9_1, hcz9_2, hcz9_3, hcz9_4, hcz9_5, hcz9_6, hcz9_7, hcz9_8, hcz9_9⟩ := cells10_ BK322.out; have hfz9_0 := fun j => blk_frozen BK322.out j) | ((with_reducible refine gate_callee (f := 27) rfl ?_); refine goesL_ (some 13) rfl rfl Tryd.func27 (by kernel_rfl) rfl #[.agg #[.int .i64 a0_0, .int .i64 a0_1, .int .i64 a0_2, .int .i64 a0_3, .int .i64 a0_4, .int .i64 a0_5, .int .u64 a0_6, .int .i64 a0_7, .int .i64 a0_8, .int .i64 a0_9]] rfl (by (try simp only [List.map_toArray, List.map_cons, List.map_nil]); first | done | rfl | (simp only [List.length_drop, List.length_take]; rfl)) ?_; (with_reducible refine (inst_Writes.calls k a0_0 a0_1 a0_2 a0_3 a0_4 a0_5 a0_6 a0_7 a0_8 a0_9 t326 t327 _ A3.out).mono ?_); rintro e w10 ⟨rfl, hb⟩; refine ⟨_, rfl, ?_⟩; have n0_ := Aside0.mk (Kd.R_below (by (with_reducible repeat (first | apply Kd.R_alloc | apply Kd.R_drewN | apply Kd.R_drew)); exact HO325.out) hb); have n1_ := Aside0.mk (blk_below (g := gb322) (o := .cells #[.int .i64 a0_0, .int .i64 a0_1, .int .i64 a0_2, .int .i64 a0_3, .int .i64 a0_4, .int .i64 a0_5, .int .u64 a0_6, .int .i64 a0_7, .int .i64 a0_8, .int .i64 a0_9] 37 (0, 0)) (by (with_reducible repeat (first | refine blk_drewN ?_ _ | refine blk_drew ?_ | refine blk_alloc ?_ _)); exact BK322.out) hb); have n2_ := Aside0.mk (below_step (by repeat (first | (with_reducible first | exact HB.out | apply below_alloc | apply pw_below_drewN | apply below_drew1 | refine below_set ?_ GE322.out) | exact HB.out)) hb); clear HO325; clear BK322; clear HB; have HO325 := n0_; have BK322 := n1_; have HB := n2_; clear n0_ n1_ n2_; (try clear hb); (try clear hb2); (try clear hk); (try clear hi); obtain ⟨hcz11_0, hcz11_1, hcz11_2, hcz11_3, hcz11_4, hcz11_5, hcz11_6, hcz11_7, hcz11_8, hcz11_9⟩ := cells10_ BK322.out; have hfz11_0 := fun j => blk_frozen BK322.out j) | ((with_reducible refine gate_callee (f := 30) rfl ?_); refine goesL_ (some 17) rfl rfl Tryd.func30 (by kernel_rfl) rfl #[.agg #[.int .i64 a0_0, .int .i64 a0_1, .int .i64 a0_2, .int .i64 a0_3, .int .i64 a0_4, .int .i64 a0_5, .int .u64 a0_6, .int .i64 a0_7, .int .i64 a0_8, .int .i64 a0_9]] rfl (by (try simp only [List.map_toArray, List.map_cons, List.map_nil]); first | done | rfl | (simp only [List.length_drop, List.length_take]; rfl)) ?_; (with_reducible refine (inst_Is.calls k a0_0 a0_1 a0_2 a0_3 a0_4 a0_5 a0_6 a0_7 a0_8 a0_9 true _ A4.out).mono ?_); rintro e w12 ⟨rfl, hb⟩; refine ⟨_, rfl, ?_⟩; have n0_ := Aside0.mk (Kd.R_below (by (with_reducible repeat (first | apply Kd.R_alloc | apply Kd.R_drewN | apply Kd.R_drew)); exact HO325.out) hb); have n1_ := Aside0.mk (blk_below (g := gb322) (o := .cells #[.int .i64 a0_0, .int .i64 a0_1, .int .i64 a0_2, .int .i64 a0_3, .int .i64 a0_4, .int .i64 a0_5, .int .u64 a0_6, .int .i64 a0_7, .int .i64 a0_8, .int .i64 a0_9] 37 (0, 0)) (by (with_reducible repeat (first | refine blk_drewN ?_ _ | refine blk_drew ?_ | refine blk_alloc ?_ _)); exact BK322.out) hb); have n2_ := Aside0.mk (below_step (by repeat (first | (with_reducible first | exact HB.out | apply below_alloc | apply pw_below_drewN | apply below_drew1 | refine below_set ?_ GE322.out) | exact HB.out)) hb); clear HO325; clear BK322; clear HB; have HO325 := n0_; have BK322 := n1_; have HB := n2_; clear n0_ n1_ n2_; (try clear hb); (try clear hb2); (try clear hk); (try clear hi); obtain ⟨hcz13_0, hcz13_1, hcz13_2, hcz13_3, hcz13_4, hcz13_5, hcz13_6, hcz13_7, hcz13_8, hcz13_9⟩ := cells10_ BK322.out; have hfz13_0 := fun j => blk_frozen BK322.out j) | ((with_reducible refine gate_dst (N := 41) rfl ?_); (try (refine gate_guard (by rfl) ?_; dsimp only)); refine Kd.R_lit (Kd.int .i64) _ 3 ?hg (N := 41) ?hd (xs := ([a0_1, a0_2, a0_3, a0_4] : List Int)) (inner := [.int .i64 a0_1, .int .i64 a0_2, .int .i64 a0_3, .int .i64 a0_4]) (ok := fun _ => True) (okp := fun _ => True) ?hr ?hp (fun _ hk => hk) trivial (Below.refl _ _) (Nat.le_refl _) (by simp) ?_; (case hd => rfl); (case hg => rfl); (case hr => first | (go_simp; done) | (go_simp; rfl)); (case hp => exact (Reps.one (show Kd.M (Kd.int .i64) _ _ _ a0_1 [.int .i64 a0_1] from rfl) (Reps.one (show Kd.M (Kd.int .i64) _ _ _ a0_2 [.int .i64 a0_2] from rfl) (Reps.one (show Kd.M (Kd.int .i64) _ _ _ a0_3 [.int .i64 a0_3] from rfl) (Reps.one (show Kd.M (Kd.int .i64) _ _ _ a0_4 [.int .i64 a0_4] from rfl) (Reps.none _ _)))))); intro v331 w14 ho15 hb hg_ hnew_; clear hg_ hnew_; (first | rw [← Ny330.out] at ho15 | (simp only [Int.reduceToNat] at ho15; rw [← Ny330.out] at ho15)); have n0_ := Aside0.mk (Kd.R_elder' (by (with_reducible repeat (first | apply Kd.R_alloc | apply Kd.R_drewN | apply Kd.R_drew)); exact HO325.out) (Kd.R_base ho15) hb); have n1_ := Aside0.mk (Kd.R_lower (Kd.R_new' ho15 (Kd.R_lt (by (with_reducible repeat (first | apply Kd.R_alloc | apply Kd.R_drewN | apply Kd.R_drew)); exact HO325.out))) (below_size (by repeat (first | (with_reducible first | exact HB.out | apply below_alloc | apply pw_below_drewN | apply below_drew1 | refine below_set ?_ GE322.out) | exact HB.out)))); have n2_ := Aside0.mk (blk_below (g := gb322) (o := .cells #[.int .i64 a0_0, .int .i64 a0_1, .int .i64 a0_2, .int .i64 a0_3, .int .i64 a0_4, .int .i64 a0_5, .int .u64 a0_6, .int .i64 a0_7, .int .i64 a0_8, .int .i64 a0_9] 37 (0, 0)) (by (with_reducible repeat (first | refine blk_drewN ?_ _ | refine blk_drew ?_ | refine blk_alloc ?_ _)); exact BK322.out) hb); have n3_ := Aside0.mk (below_step (by repeat (first | (with_reducible first | exact HB.out | apply below_alloc | apply pw_below_drewN | apply below_drew1 | refine below_set ?_ GE322.out) | exact HB.out)) hb); clear HO325; clear BK322; clear HB; have HO325 := n0_; have HO332 := n1_; have BK322 := n2_; have HB := n3_; clear n0_ n1_ n2_ n3_; clear hb ho15))
  go_loopg [7] k (fun kq v7 w' => ∃ (x7_1 : Int), v7 = .int .i64 x7_1 ∧ Aside0 (cleatlaw04_InstOwn.l0 kq t323 t326 t327 y330 x7_1 a0_0 a0_1 a0_2 a0_3 a0_4 a0_5 a0_6 a0_7 a0_8 a0_9 = some r) ∧ Aside0 (kq ≤ k) ∧ Aside0 (Kd.R (Kd.int .i64) 3 w' w.heap.size (fun k_ => some k_ ≠ (v331 : Value).ownBlock) v324 t323) ∧ Aside0 (Kd.R (Kd.int .i64) 3 w' w.heap.size (fun k_ => some k_ ≠ (v324 : Value).ownBlock) v331 y330) ∧ Aside0 (w'.heap[gb322]? = some (.cells #[.int .i64 a0_0, .int .i64 a0_1, .int .i64 a0_2, .int .i64 a0_3, .int .i64 a0_4, .int .i64 a0_5, .int .u64 a0_6, .int .i64 a0_7, .int .i64 a0_8, .int .i64 a0_9] 37 (0, 0))) ∧ Aside0 (Below w.heap.size w w'))
  case atStart => exact ⟨(0), (by first | rfl | (simp; done) | (simp [*]; done)), H', ⟨Nat.le_refl _⟩, ⟨by (with_reducible repeat (first | apply Kd.R_alloc | apply Kd.R_drewN | apply Kd.R_drew)); exact Kd.R_mono HO325.out (fun _ hk => hk.2)⟩, ⟨by (with_reducible repeat (first | apply Kd.R_alloc | apply Kd.R_drewN | apply Kd.R_drew)); exact Kd.R_mono HO332.out (fun _ hk => hk.2)⟩, ⟨by (with_reducible repeat (first | refine blk_drewN ?_ _ | refine blk_drew ?_ | refine blk_alloc ?_ _)); exact BK322.out⟩, ⟨by repeat (first | (with_reducible first | exact HB.out | apply below_alloc | apply pw_below_drewN | apply below_drew1 | refine below_set ?_ GE322.out) | exact HB.out)⟩⟩
  case round =>
   clear H'
   try clear c2
   try clear p2
   try clear c3
   try clear c5
   try clear c9
   try clear hcz11_0 hcz11_1 hcz11_2 hcz11_3 hcz11_4 hcz11_5 hcz11_6 hcz11_7 hcz11_8 hcz11_9
   try clear hcz13_0 hcz13_1 hcz13_2 hcz13_3 hcz13_4 hcz13_5 hcz13_6 hcz13_7 hcz13_8 hcz13_9
   try clear hcz7_0 hcz7_1 hcz7_2 hcz7_3 hcz7_4 hcz7_5 hcz7_6 hcz7_7 hcz7_8 hcz7_9
   try clear hcz9_0 hcz9_1 hcz9_2 hcz9_3 hcz9_4 hcz9_5 hcz9_6 hcz9_7 hcz9_8 hcz9_9
   try clear hfz11_0
   try clear hfz13_0
   try clear hfz7_0
   try clear hfz9_0
   obtain ⟨x7_1, rfl, HA, HK1, HO_3, HO_6, BK322, HB⟩ := hrel
   cases gk with
   | zero => exact absurd HA.out (by simp [cleatlaw04_InstOwn.l0])
   | succ k1 =>
    have H := HA.out
    clear HA
    simp only [cleatlaw04_InstOwn.l0] at H
    by_cases c16 : x7_1 < (t323.length : Int)
    ·
     rw [if_pos c16] at H
     have c16b0 : decide (x7_1 < (t323.length : Int)) = true := decide_eq_true c16
     clear c16
     have HC17 := Aside0.mk H
     clear H
     obtain ⟨Ao18, co18, eo18⟩ := Kd.R_slice HO_3.out
     subst eo18
     go_upto_region 9 with (fail)
     go_cut [96] (fun v96 wc => ∃ (kq : Nat) (x96_16 : Bool), v96 = .bool x96_16 ∧ Aside0 (cleatlaw04_InstOwn.j1 kq t323 t326 t327 y330 x7_1 x96_16 a0_0 a0_1 a0_2 a0_3 a0_4 a0_5 a0_6 a0_7 a0_8 a0_9 = some r) ∧ Aside0 (kq ≤ k1) ∧ Aside0 (Kd.R (Kd.int .i64) 3 wc w.heap.size (fun k_ => some k_ ≠ (v331 : Value).ownBlock) (.slice Ao18 t323.length co18) t323) ∧ Aside0 (Kd.R (Kd.int .i64) 3 wc w.heap.size (fun k_ => some k_ ≠ ((.slice Ao18 t323.length co18) : Value).ownBlock) v331 y330) ∧ Aside0 (wc.heap[gb322]? = some (.cells #[.int .i64 a0_0, .int .i64 a0_1, .int .i64 a0_2, .int .i64 a0_3, .int .i64 a0_4, .int .i64 a0_5, .int .u64 a0_6, .int .i64 a0_7, .int .i64 a0_8, .int .i64 a0_9] 37 (0, 0))) ∧ Aside0 (Below w.heap.size w wc))
     case first =>
      have H := HC17.out
      clear HC17
      by_cases c19 : 0 ≤ x7_1
      ·
       rw [if_pos c19] at H
       have c19b0 : decide (0 ≤ x7_1) = true := decide_eq_true c19
       clear c19
       (first | rw [c19b0] | (simp only [i64_w, i32_w]; rw [c19b0]) | skip)
       by_cases c20 : (rd t323 x7_1) < 0
       ·
        rw [if_pos c20] at H
        have c20b0 : decide ((rd t323 x7_1) < 0) = true := decide_eq_true c20
        clear c20
        have H' := Aside0.mk H
        clear H
        try go_wp2
        have n0_ := Aside0.mk (Kd.R_drew HO_3.out)
        have n1_ := Aside0.mk (Kd.R_drew HO_6.out)
        have n2_ := Aside0.mk (blk_drew BK322.out)
        have n3_ := Aside0.mk (below_drew1 HB.out)
        clear HO_3
        clear HO_6
        clear BK322
        clear HB
        have HO_3 := n0_
        have HO_6 := n1_
        have BK322 := n2_
        have HB := n3_
        clear n0_ n1_ n2_ n3_
        have p333 : 0 ≤ (x7_1 : Int) := of_decide_eq_true (by first | (with_reducible assumption) | assumption)
        have q333 : x7_1 < (t323.length : Int) := of_decide_eq_true (by first | (with_reducible assumption) | assumption)
        obtain ⟨ad333, e333, hx333_0⟩ := Kd.at_int (Kd.R_reads' HO_3.out).2.2 x7_1 p333 q333
        cases e333
        replace p333 := eq_true p333
        replace q333 := eq_true q333
        refine start_ (n := 49) (S := fun w' => w'.cell? (ad333.add (x7_1).toNat) = some (.int .i64 (rd t323 x7_1))) (ds := []) bb1_0 (by kernel_rfl) rfl rfl (hx333_0) (fun hHeld => ?_); refine with_tabW cleatlaw04_InstOwn.tab9 cleatlaw04_InstOwn.bits9 (fun HT_ HW_ => ?_)
        generalize wr.drew = w21 at HO_3 HO_6 BK322 HB hx333_0 hHeld ⊢
        refine pure_ (i := 0) (N := some 48) (v := ?_) (a' := ?_) bb1_1 rfl rfl (any_of HT_.out (by kernel_rfl)) (fun _ _ _ h => h) (Or.inl ⟨by rfl, ?_⟩) ?_ ?_
        rotate_left
        · intro w'; go_simp; with_reducible rfl
        rotate_left
        · simp only [qa_, qb_, qc_, qd_, i64_w, i32_w]; rfl
        refine pure_ (i := 1) (N := some 49) (v := ?_) (a' := ?_) bb1_2 rfl rfl (any_of HT_.out (by kernel_rfl)) (fun _ _ _ h => h) (Or.inl ⟨by rfl, ?_⟩) ?_ ?_
        rotate_left
        · intro w'; go_simp; with_reducible rfl
        rotate_left
        · simp only [qa_, qb_, qc_, qd_, i64_w, i32_w]; rfl
        refine pure_ (i := 2) (N := some 50) (v := ?_) (a' := ?_) bb1_3 rfl rfl (any_of HT_.out (by kernel_rfl)) (fun _ _ _ h => h) (Or.inl ⟨by rfl, ?_⟩) ?_ ?_
        rotate_left
        · intro w'; go_simp; with_reducible rfl
        rotate_left
        · simp only [qa_, qb_, qc_, qd_, i64_w, i32_w]; rfl
        refine take_ (i := 3) (N := some 51) (v := ?_) (a' := ?_) bb1_4 rfl rfl (take_ofW HT_.out HW_.out (by kernel_rfl)) (fun _ _ _ h => h) (Or.inl ⟨by rfl, ?_⟩) hHeld ?_ ?_
        rotate_left
        ·
         intro w' s0
         go_simp
         with_reducible rfl
        rotate_left
        · simp only [qa_, qb_, qc_, qd_, i64_w, i32_w]; rfl
        refine pure_ (i := 4) (N := some 52) (v := ?_) (a' := ?_) bb1_5 rfl rfl (any_of HT_.out (by kernel_rfl)) (fun _ _ _ h => h) (Or.inl ⟨by rfl, ?_⟩) ?_ ?_
        rotate_left
        · intro w'; go_simp; with_reducible rfl
        rotate_left
        · simp only [qa_, qb_, qc_, qd_, i64_w, i32_w]; rfl
        refine pure_ (i := 5) (N := some 53) (v := ?_) (a' := ?_) bb1_6 rfl rfl (any_of HT_.out (by kernel_rfl)) (fun _ _ _ h => h) (Or.inl ⟨by rfl, ?_⟩) ?_ ?_
        rotate_left
        · intro w'; go_simp; with_reducible rfl
        rotate_left
        · simp only [qa_, qb_, qc_, qd_, i64_w, i32_w]; rfl
        refine pure_ (i := 6) (N := some 54) (v := undef) (a' := ?_) bb1_7 rfl rfl (any_of HT_.out (by kernel_rfl)) (fun _ _ _ h => h) (Or.inr ⟨by rfl, rfl⟩) ?_ ?_
        rotate_left
        · simp only [qa_, qb_, qc_, qd_, i64_w, i32_w]; rfl
        refine pure_ (i := 7) (N := some 55) (v := undef) (a' := ?_) bb1_8 rfl rfl (any_of HT_.out (by kernel_rfl)) (fun _ _ _ h => h) (Or.inr ⟨by rfl, rfl⟩) ?_ ?_
        rotate_left
        · simp only [qa_, qb_, qc_, qd_, i64_w, i32_w]; rfl
        refine pure_ (i := 8) (N := some 56) (v := undef) (a' := ?_) bb1_9 rfl rfl (any_of HT_.out (by kernel_rfl)) (fun _ _ _ h => h) (Or.inr ⟨by rfl, rfl⟩) ?_ ?_
        rotate_left
        · simp only [qa_, qb_, qc_, qd_, i64_w, i32_w]; rfl
        refine pure_ (i := 9) (N := some 57) (v := undef) (a' := ?_) bb1_10 rfl rfl (any_of HT_.out (by kernel_rfl)) (fun _ _ _ h => h) (Or.inr ⟨by rfl, rfl⟩) ?_ ?_
        rotate_left
        · simp only [qa_, qb_, qc_, qd_, i64_w, i32_w]; rfl
        refine pure_ (i := 10) (N := some 58) (v := undef) (a' := ?_) bb1_11 rfl rfl (any_of HT_.out (by kernel_rfl)) (fun _ _ _ h => h) (Or.inr ⟨by rfl, rfl⟩) ?_ ?_
        rotate_left
        · simp only [qa_, qb_, qc_, qd_, i64_w, i32_w]; rfl
        refine pure_ (i := 11) (N := some 59) (v := ?_) (a' := ?_) bb1_12 rfl rfl (any_of HT_.out (by kernel_rfl)) (fun _ _ _ h => h) (Or.inl ⟨by rfl, ?_⟩) ?_ ?_
        rotate_left
        · intro w'; go_simp; with_reducible rfl
        rotate_left
        · simp only [qa_, qb_, qc_, qd_, i64_w, i32_w]; rfl
        refine pure_ (i := 12) (N := some 60) (v := ?_) (a' := ?_) bb1_13 rfl rfl (any_of HT_.out (by kernel_rfl)) (fun _ _ _ h => h) (Or.inl ⟨by rfl, ?_⟩) ?_ ?_
        rotate_left
        · intro w'; go_simp; with_reducible rfl
        rotate_left
        · simp only [qa_, qb_, qc_, qd_, i64_w, i32_w]; rfl
        refine pure_ (i := 13) (N := some 61) (v := undef) (a' := ?_) bb1_14 rfl rfl (any_of HT_.out (by kernel_rfl)) (fun _ _ _ h => h) (Or.inr ⟨by rfl, rfl⟩) ?_ ?_
        rotate_left
        · simp only [qa_, qb_, qc_, qd_, i64_w, i32_w]; rfl
        refine pure_ (i := 14) (N := some 62) (v := undef) (a' := ?_) bb1_15 rfl rfl (any_of HT_.out (by kernel_rfl)) (fun _ _ _ h => h) (Or.inr ⟨by rfl, rfl⟩) ?_ ?_
        rotate_left
        · simp only [qa_, qb_, qc_, qd_, i64_w, i32_w]; rfl
        refine pure_ (i := 15) (N := some 63) (v := undef) (a' := ?_) bb1_16 rfl rfl (any_of HT_.out (by kernel_rfl)) (fun _ _ _ h => h) (Or.inr ⟨by rfl, rfl⟩) ?_ ?_
        rotate_left
        · simp only [qa_, qb_, qc_, qd_, i64_w, i32_w]; rfl
        refine pure_ (i := 16) (N := some 64) (v := undef) (a' := ?_) bb1_17 rfl rfl (any_of HT_.out (by kernel_rfl)) (fun _ _ _ h => h) (Or.inr ⟨by rfl, rfl⟩) ?_ ?_
        rotate_left
        · simp only [qa_, qb_, qc_, qd_, i64_w, i32_w]; rfl
        refine pure_ (i := 17) (N := some 65) (v := undef) (a' := ?_) bb1_18 rfl rfl (any_of HT_.out (by kernel_rfl)) (fun _ _ _ h => h) (Or.inr ⟨by rfl, rfl⟩) ?_ ?_
        rotate_left
        · simp only [qa_, qb_, qc_, qd_, i64_w, i32_w]; rfl
        refine pure_ (i := 18) (N := some 66) (v := undef) (a' := ?_) bb1_19 rfl rfl (any_of HT_.out (by kernel_rfl)) (fun _ _ _ h => h) (Or.inr ⟨by rfl, rfl⟩) ?_ ?_
        rotate_left
        · simp only [qa_, qb_, qc_, qd_, i64_w, i32_w]; rfl
        refine pure_ (i := 19) (N := some 67) (v := undef) (a' := ?_) bb1_20 rfl rfl (any_of HT_.out (by kernel_rfl)) (fun _ _ _ h => h) (Or.inr ⟨by rfl, rfl⟩) ?_ ?_
        rotate_left
        · simp only [qa_, qb_, qc_, qd_, i64_w, i32_w]; rfl
        refine pure_ (i := 20) (N := some 68) (v := undef) (a' := ?_) bb1_21 rfl rfl (any_of HT_.out (by kernel_rfl)) (fun _ _ _ h => h) (Or.inr ⟨by rfl, rfl⟩) ?_ ?_
        rotate_left
        · simp only [qa_, qb_, qc_, qd_, i64_w, i32_w]; rfl
        refine pure_ (i := 21) (N := some 69) (v := undef) (a' := ?_) bb1_22 rfl rfl (any_of HT_.out (by kernel_rfl)) (fun _ _ _ h => h) (Or.inr ⟨by rfl, rfl⟩) ?_ ?_
        rotate_left
        · simp only [qa_, qb_, qc_, qd_, i64_w, i32_w]; rfl
        refine pure_ (i := 22) (N := some 70) (v := undef) (a' := ?_) bb1_23 rfl rfl (any_of HT_.out (by kernel_rfl)) (fun _ _ _ h => h) (Or.inr ⟨by rfl, rfl⟩) ?_ ?_
        rotate_left
        · simp only [qa_, qb_, qc_, qd_, i64_w, i32_w]; rfl
        refine pure_ (i := 23) (N := some 71) (v := undef) (a' := ?_) bb1_24 rfl rfl (any_of HT_.out (by kernel_rfl)) (fun _ _ _ h => h) (Or.inr ⟨by rfl, rfl⟩) ?_ ?_
        rotate_left
        · simp only [qa_, qb_, qc_, qd_, i64_w, i32_w]; rfl
        refine pure_ (i := 24) (N := some 72) (v := undef) (a' := ?_) bb1_25 rfl rfl (any_of HT_.out (by kernel_rfl)) (fun _ _ _ h => h) (Or.inr ⟨by rfl, rfl⟩) ?_ ?_
        rotate_left
        · simp only [qa_, qb_, qc_, qd_, i64_w, i32_w]; rfl
        refine pure_ (i := 25) (N := some 73) (v := undef) (a' := ?_) bb1_26 rfl rfl (any_of HT_.out (by kernel_rfl)) (fun _ _ _ h => h) (Or.inr ⟨by rfl, rfl⟩) ?_ ?_
        rotate_left
        · simp only [qa_, qb_, qc_, qd_, i64_w, i32_w]; rfl
        refine pure_ (i := 26) (N := some 74) (v := undef) (a' := ?_) bb1_27 rfl rfl (any_of HT_.out (by kernel_rfl)) (fun _ _ _ h => h) (Or.inr ⟨by rfl, rfl⟩) ?_ ?_
        rotate_left
        · simp only [qa_, qb_, qc_, qd_, i64_w, i32_w]; rfl
        refine pure_ (i := 27) (N := some 75) (v := ?_) (a' := ?_) bb1_28 rfl rfl (any_of HT_.out (by kernel_rfl)) (fun _ _ _ h => h) (Or.inl ⟨by rfl, ?_⟩) ?_ ?_
        rotate_left
        · intro w'; go_simp; with_reducible rfl
        rotate_left
        · simp only [qa_, qb_, qc_, qd_, i64_w, i32_w]; rfl
        refine pure_ (i := 28) (N := some 76) (v := ?_) (a' := ?_) bb1_29 rfl rfl (any_of HT_.out (by kernel_rfl)) (fun _ _ _ h => h) (Or.inl ⟨by rfl, ?_⟩) ?_ ?_
        rotate_left
        · intro w'; go_simp; with_reducible rfl
        rotate_left
        · simp only [qa_, qb_, qc_, qd_, i64_w, i32_w]; rfl
        refine pure_ (i := 29) (N := some 77) (v := undef) (a' := ?_) bb1_30 rfl rfl (any_of HT_.out (by kernel_rfl)) (fun _ _ _ h => h) (Or.inr ⟨by rfl, rfl⟩) ?_ ?_
        rotate_left
        · simp only [qa_, qb_, qc_, qd_, i64_w, i32_w]; rfl
        refine pure_ (i := 30) (N := some 78) (v := undef) (a' := ?_) bb1_31 rfl rfl (any_of HT_.out (by kernel_rfl)) (fun _ _ _ h => h) (Or.inr ⟨by rfl, rfl⟩) ?_ ?_
        rotate_left
        · simp only [qa_, qb_, qc_, qd_, i64_w, i32_w]; rfl
        refine pure_ (i := 31) (N := some 79) (v := undef) (a' := ?_) bb1_32 rfl rfl (any_of HT_.out (by kernel_rfl)) (fun _ _ _ h => h) (Or.inr ⟨by rfl, rfl⟩) ?_ ?_
        rotate_left
        · simp only [qa_, qb_, qc_, qd_, i64_w, i32_w]; rfl
        refine pure_ (i := 32) (N := some 80) (v := undef) (a' := ?_) bb1_33 rfl rfl (any_of HT_.out (by kernel_rfl)) (fun _ _ _ h => h) (Or.inr ⟨by rfl, rfl⟩) ?_ ?_
        rotate_left
        · simp only [qa_, qb_, qc_, qd_, i64_w, i32_w]; rfl
        refine pure_ (i := 33) (N := some 81) (v := undef) (a' := ?_) bb1_34 rfl rfl (any_of HT_.out (by kernel_rfl)) (fun _ _ _ h => h) (Or.inr ⟨by rfl, rfl⟩) ?_ ?_
        rotate_left
        · simp only [qa_, qb_, qc_, qd_, i64_w, i32_w]; rfl
        refine pure_ (i := 34) (N := some 82) (v := undef) (a' := ?_) bb1_35 rfl rfl (any_of HT_.out (by kernel_rfl)) (fun _ _ _ h => h) (Or.inr ⟨by rfl, rfl⟩) ?_ ?_
        rotate_left
        · simp only [qa_, qb_, qc_, qd_, i64_w, i32_w]; rfl
        refine pure_ (i := 35) (N := some 83) (v := undef) (a' := ?_) bb1_36 rfl rfl (any_of HT_.out (by kernel_rfl)) (fun _ _ _ h => h) (Or.inr ⟨by rfl, rfl⟩) ?_ ?_
        rotate_left
        · simp only [qa_, qb_, qc_, qd_, i64_w, i32_w]; rfl
        refine pure_ (i := 36) (N := some 84) (v := undef) (a' := ?_) bb1_37 rfl rfl (any_of HT_.out (by kernel_rfl)) (fun _ _ _ h => h) (Or.inr ⟨by rfl, rfl⟩) ?_ ?_
        rotate_left
        · simp only [qa_, qb_, qc_, qd_, i64_w, i32_w]; rfl
        refine pure_ (i := 37) (N := some 85) (v := undef) (a' := ?_) bb1_38 rfl rfl (any_of HT_.out (by kernel_rfl)) (fun _ _ _ h => h) (Or.inr ⟨by rfl, rfl⟩) ?_ ?_
        rotate_left
        · simp only [qa_, qb_, qc_, qd_, i64_w, i32_w]; rfl
        refine pure_ (i := 38) (N := some 86) (v := undef) (a' := ?_) bb1_39 rfl rfl (any_of HT_.out (by kernel_rfl)) (fun _ _ _ h => h) (Or.inr ⟨by rfl, rfl⟩) ?_ ?_
        rotate_left
        · simp only [qa_, qb_, qc_, qd_, i64_w, i32_w]; rfl
        refine pure_ (i := 39) (N := some 87) (v := undef) (a' := ?_) bb1_40 rfl rfl (any_of HT_.out (by kernel_rfl)) (fun _ _ _ h => h) (Or.inr ⟨by rfl, rfl⟩) ?_ ?_
        rotate_left
        · simp only [qa_, qb_, qc_, qd_, i64_w, i32_w]; rfl
        refine pure_ (i := 40) (N := some 88) (v := undef) (a' := ?_) bb1_41 rfl rfl (any_of HT_.out (by kernel_rfl)) (fun _ _ _ h => h) (Or.inr ⟨by rfl, rfl⟩) ?_ ?_
        rotate_left
        · simp only [qa_, qb_, qc_, qd_, i64_w, i32_w]; rfl
        refine pure_ (i := 41) (N := some 89) (v := undef) (a' := ?_) bb1_42 rfl rfl (any_of HT_.out (by kernel_rfl)) (fun _ _ _ h => h) (Or.inr ⟨by rfl, rfl⟩) ?_ ?_
        rotate_left
        · simp only [qa_, qb_, qc_, qd_, i64_w, i32_w]; rfl
        refine pure_ (i := 42) (N := some 90) (v := undef) (a' := ?_) bb1_43 rfl rfl (any_of HT_.out (by kernel_rfl)) (fun _ _ _ h => h) (Or.inr ⟨by rfl, rfl⟩) ?_ ?_
        rotate_left
        · simp only [qa_, qb_, qc_, qd_, i64_w, i32_w]; rfl
        refine pure_ (i := 43) (N := some 91) (v := undef) (a' := ?_) bb1_44 rfl rfl (any_of HT_.out (by kernel_rfl)) (fun _ _ _ h => h) (Or.inr ⟨by rfl, rfl⟩) ?_ ?_
        rotate_left
        · simp only [qa_, qb_, qc_, qd_, i64_w, i32_w]; rfl
        refine pure_ (i := 44) (N := some 92) (v := undef) (a' := ?_) bb1_45 rfl rfl (any_of HT_.out (by kernel_rfl)) (fun _ _ _ h => h) (Or.inr ⟨by rfl, rfl⟩) ?_ ?_
        rotate_left
        · simp only [qa_, qb_, qc_, qd_, i64_w, i32_w]; rfl
        refine pure_ (i := 45) (N := some 93) (v := undef) (a' := ?_) bb1_46 rfl rfl (any_of HT_.out (by kernel_rfl)) (fun _ _ _ h => h) (Or.inr ⟨by rfl, rfl⟩) ?_ ?_
        rotate_left
        · simp only [qa_, qb_, qc_, qd_, i64_w, i32_w]; rfl
        refine pure_ (i := 46) (N := some 94) (v := undef) (a' := ?_) bb1_47 rfl rfl (any_of HT_.out (by kernel_rfl)) (fun _ _ _ h => h) (Or.inr ⟨by rfl, rfl⟩) ?_ ?_
        rotate_left
        · simp only [qa_, qb_, qc_, qd_, i64_w, i32_w]; rfl
        refine pure_ (i := 47) (N := some 95) (v := undef) (a' := ?_) bb1_48 rfl rfl (any_of HT_.out (by kernel_rfl)) (fun _ _ _ h => h) (Or.inr ⟨by rfl, rfl⟩) ?_ ?_
        rotate_left
        · simp only [qa_, qb_, qc_, qd_, i64_w, i32_w]; rfl
        refine pure_ (i := 48) (N := some 96) (v := ?_) (a' := ?_) bb1_49 rfl rfl (any_of HT_.out (by kernel_rfl)) (fun _ _ _ h => h) (Or.inl ⟨by rfl, ?_⟩) ?_ ?_
        rotate_left
        · intro w'; go_simp; with_reducible rfl
        rotate_left
        · simp only [qa_, qb_, qc_, qd_, i64_w, i32_w]; rfl
        refine done_ (done_of HT_.out (by kernel_rfl)) ?_
        try go_wp2
        go_meet
        case rel => exact ⟨_, (true), (by first | rfl | (simp; done) | (simp [*]; done)), H', ⟨by have := HK1.out; first | omega | exact Nat.le_refl _⟩, ⟨by (with_reducible repeat (first | apply Kd.R_alloc | apply Kd.R_drewN | apply Kd.R_drew)); exact HO_3.out⟩, ⟨by (with_reducible repeat (first | apply Kd.R_alloc | apply Kd.R_drewN | apply Kd.R_drew)); exact HO_6.out⟩, ⟨by (with_reducible repeat (first | refine blk_drewN ?_ _ | refine blk_drew ?_ | refine blk_alloc ?_ _)); exact BK322.out⟩, ⟨by repeat (first | (with_reducible first | exact HB.out | apply below_alloc | apply pw_below_drewN | apply below_drew1 | refine below_set ?_ GE322.out) | exact HB.out)⟩⟩
       ·
        rw [if_neg c20] at H
        have c20b0 : decide ((rd t323 x7_1) < 0) = false := decide_eq_false c20
        clear c20
        by_cases c22 : (rd t323 x7_1) > 31
        ·
         rw [if_pos c22] at H
         have c22b0 : decide (31 < (rd t323 x7_1)) = true := decide_eq_true c22
         clear c22
         have H' := Aside0.mk H
         clear H
         try go_wp2
         have n0_ := Aside0.mk (Kd.R_drew HO_3.out)
         have n1_ := Aside0.mk (Kd.R_drew HO_6.out)
         have n2_ := Aside0.mk (blk_drew BK322.out)
         have n3_ := Aside0.mk (below_drew1 HB.out)
         clear HO_3
         clear HO_6
         clear BK322
         clear HB
         have HO_3 := n0_
         have HO_6 := n1_
         have BK322 := n2_
         have HB := n3_
         clear n0_ n1_ n2_ n3_
         have p333 : 0 ≤ (x7_1 : Int) := of_decide_eq_true (by first | (with_reducible assumption) | assumption)
         have q333 : x7_1 < (t323.length : Int) := of_decide_eq_true (by first | (with_reducible assumption) | assumption)
         obtain ⟨ad333, e333, hx333_0⟩ := Kd.at_int (Kd.R_reads' HO_3.out).2.2 x7_1 p333 q333
         cases e333
         replace p333 := eq_true p333
         replace q333 := eq_true q333
         have p334 : 0 ≤ (x7_1 : Int) := of_decide_eq_true (by first | (with_reducible assumption) | assumption)
         have q334 : x7_1 < (t323.length : Int) := of_decide_eq_true (by first | (with_reducible assumption) | assumption)
         obtain ⟨ad334, e334, hx334_0⟩ := Kd.at_int (Kd.R_reads' HO_3.out).2.2 x7_1 p334 q334
         obtain rfl : ad333 = ad334 := (by injection e334)
         replace p334 := eq_true p334
         replace q334 := eq_true q334
         refine start_ (n := 49) (S := fun w' => w'.cell? (ad333.add (x7_1).toNat) = some (.int .i64 (rd t323 x7_1)) ∧ w'.cell? (ad333.add (x7_1).toNat) = some (.int .i64 (rd t323 x7_1))) (ds := []) bb1_0 (by kernel_rfl) rfl rfl ⟨hx333_0, hx334_0⟩ (fun hHeld => ?_); refine with_tabW cleatlaw04_InstOwn.tab9 cleatlaw04_InstOwn.bits9 (fun HT_ HW_ => ?_)
         generalize wr.drew = w23 at HO_3 HO_6 BK322 HB hx333_0 hx334_0 hHeld ⊢
         refine pure_ (i := 0) (N := some 48) (v := ?_) (a' := ?_) bb1_1 rfl rfl (any_of HT_.out (by kernel_rfl)) (fun _ _ _ h => h) (Or.inl ⟨by rfl, ?_⟩) ?_ ?_
         rotate_left
         · intro w'; go_simp; with_reducible rfl
         rotate_left
         · simp only [qa_, qb_, qc_, qd_, i64_w, i32_w]; rfl
         refine pure_ (i := 1) (N := some 49) (v := ?_) (a' := ?_) bb1_2 rfl rfl (any_of HT_.out (by kernel_rfl)) (fun _ _ _ h => h) (Or.inl ⟨by rfl, ?_⟩) ?_ ?_
         rotate_left
         · intro w'; go_simp; with_reducible rfl
         rotate_left
         · simp only [qa_, qb_, qc_, qd_, i64_w, i32_w]; rfl
         refine pure_ (i := 2) (N := some 50) (v := ?_) (a' := ?_) bb1_3 rfl rfl (any_of HT_.out (by kernel_rfl)) (fun _ _ _ h => h) (Or.inl ⟨by rfl, ?_⟩) ?_ ?_
         rotate_left
         · intro w'; go_simp; with_reducible rfl
         rotate_left
         · simp only [qa_, qb_, qc_, qd_, i64_w, i32_w]; rfl
         refine take_ (i := 3) (N := some 51) (v := ?_) (a' := ?_) bb1_4 rfl rfl (take_ofW HT_.out HW_.out (by kernel_rfl)) (fun _ _ _ h => h) (Or.inl ⟨by rfl, ?_⟩) hHeld ?_ ?_
         rotate_left
         · rintro w' ⟨s0, s1⟩; go_simp; with_reducible rfl
         rotate_left
         · simp only [qa_, qb_, qc_, qd_, i64_w, i32_w]; rfl
         refine pure_ (i := 4) (N := some 52) (v := ?_) (a' := ?_) bb1_5 rfl rfl (any_of HT_.out (by kernel_rfl)) (fun _ _ _ h => h) (Or.inl ⟨by rfl, ?_⟩) ?_ ?_
         rotate_left
         · intro w'; go_simp; with_reducible rfl
         rotate_left
         · simp only [qa_, qb_, qc_, qd_, i64_w, i32_w]; rfl
         refine pure_ (i := 5) (N := some 53) (v := ?_) (a' := ?_) bb1_6 rfl rfl (any_of HT_.out (by kernel_rfl)) (fun _ _ _ h => h) (Or.inl ⟨by rfl, ?_⟩) ?_ ?_
         rotate_left
         · intro w'; go_simp; with_reducible rfl
         rotate_left
         · simp only [qa_, qb_, qc_, qd_, i64_w, i32_w]; rfl
         refine pure_ (i := 6) (N := some 54) (v := ?_) (a' := ?_) bb1_7 rfl rfl (any_of HT_.out (by kernel_rfl)) (fun _ _ _ h => h) (Or.inl ⟨by rfl, ?_⟩) ?_ ?_
         rotate_left
         · intro w'; go_simp; with_reducible rfl
         rotate_left
         · simp only [qa_, qb_, qc_, qd_, i64_w, i32_w]; rfl
         refine pure_ (i := 7) (N := some 55) (v := ?_) (a' := ?_) bb1_8 rfl rfl (any_of HT_.out (by kernel_rfl)) (fun _ _ _ h => h) (Or.inl ⟨by rfl, ?_⟩) ?_ ?_
         rotate_left
         · intro w'; go_simp; with_reducible rfl
         rotate_left
         · simp only [qa_, qb_, qc_, qd_, i64_w, i32_w]; rfl
         refine pure_ (i := 8) (N := some 56) (v := ?_) (a' := ?_) bb1_9 rfl rfl (any_of HT_.out (by kernel_rfl)) (fun _ _ _ h => h) (Or.inl ⟨by rfl, ?_⟩) ?_ ?_
         rotate_left
         · intro w'; go_simp; with_reducible rfl
         rotate_left
         · simp only [qa_, qb_, qc_, qd_, i64_w, i32_w]; rfl
         refine take_ (i := 9) (N := some 57) (v := ?_) (a' := ?_) bb1_10 rfl rfl (take_ofW HT_.out HW_.out (by kernel_rfl)) (fun _ _ _ h => h) (Or.inl ⟨by rfl, ?_⟩) hHeld ?_ ?_
         rotate_left
         · rintro w' ⟨s0, s1⟩; go_simp; with_reducible rfl
         rotate_left
         · simp only [qa_, qb_, qc_, qd_, i64_w, i32_w]; rfl
         refine pure_ (i := 10) (N := some 58) (v := ?_) (a' := ?_) bb1_11 rfl rfl (any_of HT_.out (by kernel_rfl)) (fun _ _ _ h => h) (Or.inl ⟨by rfl, ?_⟩) ?_ ?_
         rotate_left
         · intro w'; go_simp; with_reducible rfl
         rotate_left
         · simp only [qa_, qb_, qc_, qd_, i64_w, i32_w]; rfl
         refine pure_ (i := 11) (N := some 59) (v := ?_) (a' := ?_) bb1_12 rfl rfl (any_of HT_.out (by kernel_rfl)) (fun _ _ _ h => h) (Or.inl ⟨by rfl, ?_⟩) ?_ ?_
         rotate_left
         · intro w'; go_simp; with_reducible rfl
         rotate_left
         · simp only [qa_, qb_, qc_, qd_, i64_w, i32_w]; rfl
         refine pure_ (i := 12) (N := some 60) (v := ?_) (a' := ?_) bb1_13 rfl rfl (any_of HT_.out (by kernel_rfl)) (fun _ _ _ h => h) (Or.inl ⟨by rfl, ?_⟩) ?_ ?_
         rotate_left
         · intro w'; go_simp; with_reducible rfl
         rotate_left
         · simp only [qa_, qb_, qc_, qd_, i64_w, i32_w]; rfl
         refine pure_ (i := 13) (N := some 61) (v := undef) (a' := ?_) bb1_14 rfl rfl (any_of HT_.out (by kernel_rfl)) (fun _ _ _ h => h) (Or.inr ⟨by rfl, rfl⟩) ?_ ?_
         rotate_left
         · simp only [qa_, qb_, qc_, qd_, i64_w, i32_w]; rfl
         refine pure_ (i := 14) (N := some 62) (v := undef) (a' := ?_) bb1_15 rfl rfl (any_of HT_.out (by kernel_rfl)) (fun _ _ _ h => h) (Or.inr ⟨by rfl, rfl⟩) ?_ ?_
         rotate_left
         · simp only [qa_, qb_, qc_, qd_, i64_w, i32_w]; rfl
         refine pure_ (i := 15) (N := some 63) (v := undef) (a' := ?_) bb1_16 rfl rfl (any_of HT_.out (by kernel_rfl)) (fun _ _ _ h => h) (Or.inr ⟨by rfl, rfl⟩) ?_ ?_
         rotate_left
         · simp only [qa_, qb_, qc_, qd_, i64_w, i32_w]; rfl
         refine pure_ (i := 16) (N := some 64) (v := undef) (a' := ?_) bb1_17 rfl rfl (any_of HT_.out (by kernel_rfl)) (fun _ _ _ h => h) (Or.inr ⟨by rfl, rfl⟩) ?_ ?_
         rotate_left
         · simp only [qa_, qb_, qc_, qd_, i64_w, i32_w]; rfl
         refine pure_ (i := 17) (N := some 65) (v := undef) (a' := ?_) bb1_18 rfl rfl (any_of HT_.out (by kernel_rfl)) (fun _ _ _ h => h) (Or.inr ⟨by rfl, rfl⟩) ?_ ?_
         rotate_left
         · simp only [qa_, qb_, qc_, qd_, i64_w, i32_w]; rfl
         refine pure_ (i := 18) (N := some 66) (v := undef) (a' := ?_) bb1_19 rfl rfl (any_of HT_.out (by kernel_rfl)) (fun _ _ _ h => h) (Or.inr ⟨by rfl, rfl⟩) ?_ ?_
         rotate_left
         · simp only [qa_, qb_, qc_, qd_, i64_w, i32_w]; rfl
         refine pure_ (i := 19) (N := some 67) (v := undef) (a' := ?_) bb1_20 rfl rfl (any_of HT_.out (by kernel_rfl)) (fun _ _ _ h => h) (Or.inr ⟨by rfl, rfl⟩) ?_ ?_
         rotate_left
         · simp only [qa_, qb_, qc_, qd_, i64_w, i32_w]; rfl
         refine pure_ (i := 20) (N := some 68) (v := undef) (a' := ?_) bb1_21 rfl rfl (any_of HT_.out (by kernel_rfl)) (fun _ _ _ h => h) (Or.inr ⟨by rfl, rfl⟩) ?_ ?_
         rotate_left
         · simp only [qa_, qb_, qc_, qd_, i64_w, i32_w]; rfl
         refine pure_ (i := 21) (N := some 69) (v := undef) (a' := ?_) bb1_22 rfl rfl (any_of HT_.out (by kernel_rfl)) (fun _ _ _ h => h) (Or.inr ⟨by rfl, rfl⟩) ?_ ?_
         rotate_left
         · simp only [qa_, qb_, qc_, qd_, i64_w, i32_w]; rfl
         refine pure_ (i := 22) (N := some 70) (v := undef) (a' := ?_) bb1_23 rfl rfl (any_of HT_.out (by kernel_rfl)) (fun _ _ _ h => h) (Or.inr ⟨by rfl, rfl⟩) ?_ ?_
         rotate_left
         · simp only [qa_, qb_, qc_, qd_, i64_w, i32_w]; rfl
         refine pure_ (i := 23) (N := some 71) (v := undef) (a' := ?_) bb1_24 rfl rfl (any_of HT_.out (by kernel_rfl)) (fun _ _ _ h => h) (Or.inr ⟨by rfl, rfl⟩) ?_ ?_
         rotate_left
         · simp only [qa_, qb_, qc_, qd_, i64_w, i32_w]; rfl
         refine pure_ (i := 24) (N := some 72) (v := undef) (a' := ?_) bb1_25 rfl rfl (any_of HT_.out (by kernel_rfl)) (fun _ _ _ h => h) (Or.inr ⟨by rfl, rfl⟩) ?_ ?_
         rotate_left
         · simp only [qa_, qb_, qc_, qd_, i64_w, i32_w]; rfl
         refine pure_ (i := 25) (N := some 73) (v := undef) (a' := ?_) bb1_26 rfl rfl (any_of HT_.out (by kernel_rfl)) (fun _ _ _ h => h) (Or.inr ⟨by rfl, rfl⟩) ?_ ?_
         rotate_left
         · simp only [qa_, qb_, qc_, qd_, i64_w, i32_w]; rfl
         refine pure_ (i := 26) (N := some 74) (v := undef) (a' := ?_) bb1_27 rfl rfl (any_of HT_.out (by kernel_rfl)) (fun _ _ _ h => h) (Or.inr ⟨by rfl, rfl⟩) ?_ ?_
         rotate_left
         · simp only [qa_, qb_, qc_, qd_, i64_w, i32_w]; rfl
         refine pure_ (i := 27) (N := some 75) (v := ?_) (a' := ?_) bb1_28 rfl rfl (any_of HT_.out (by kernel_rfl)) (fun _ _ _ h => h) (Or.inl ⟨by rfl, ?_⟩) ?_ ?_
         rotate_left
         · intro w'; go_simp; with_reducible rfl
         rotate_left
         · simp only [qa_, qb_, qc_, qd_, i64_w, i32_w]; rfl
         refine pure_ (i := 28) (N := some 76) (v := ?_) (a' := ?_) bb1_29 rfl rfl (any_of HT_.out (by kernel_rfl)) (fun _ _ _ h => h) (Or.inl ⟨by rfl, ?_⟩) ?_ ?_
         rotate_left
         · intro w'; go_simp; with_reducible rfl
         rotate_left
         · simp only [qa_, qb_, qc_, qd_, i64_w, i32_w]; rfl
         refine pure_ (i := 29) (N := some 77) (v := undef) (a' := ?_) bb1_30 rfl rfl (any_of HT_.out (by kernel_rfl)) (fun _ _ _ h => h) (Or.inr ⟨by rfl, rfl⟩) ?_ ?_
         rotate_left
         · simp only [qa_, qb_, qc_, qd_, i64_w, i32_w]; rfl
         refine pure_ (i := 30) (N := some 78) (v := undef) (a' := ?_) bb1_31 rfl rfl (any_of HT_.out (by kernel_rfl)) (fun _ _ _ h => h) (Or.inr ⟨by rfl, rfl⟩) ?_ ?_
         rotate_left
         · simp only [qa_, qb_, qc_, qd_, i64_w, i32_w]; rfl
         refine pure_ (i := 31) (N := some 79) (v := undef) (a' := ?_) bb1_32 rfl rfl (any_of HT_.out (by kernel_rfl)) (fun _ _ _ h => h) (Or.inr ⟨by rfl, rfl⟩) ?_ ?_
         rotate_left
         · simp only [qa_, qb_, qc_, qd_, i64_w, i32_w]; rfl
         refine pure_ (i := 32) (N := some 80) (v := undef) (a' := ?_) bb1_33 rfl rfl (any_of HT_.out (by kernel_rfl)) (fun _ _ _ h => h) (Or.inr ⟨by rfl, rfl⟩) ?_ ?_
         rotate_left
         · simp only [qa_, qb_, qc_, qd_, i64_w, i32_w]; rfl
         refine pure_ (i := 33) (N := some 81) (v := undef) (a' := ?_) bb1_34 rfl rfl (any_of HT_.out (by kernel_rfl)) (fun _ _ _ h => h) (Or.inr ⟨by rfl, rfl⟩) ?_ ?_
         rotate_left
         · simp only [qa_, qb_, qc_, qd_, i64_w, i32_w]; rfl
         refine pure_ (i := 34) (N := some 82) (v := undef) (a' := ?_) bb1_35 rfl rfl (any_of HT_.out (by kernel_rfl)) (fun _ _ _ h => h) (Or.inr ⟨by rfl, rfl⟩) ?_ ?_
         rotate_left
         · simp only [qa_, qb_, qc_, qd_, i64_w, i32_w]; rfl
         refine pure_ (i := 35) (N := some 83) (v := undef) (a' := ?_) bb1_36 rfl rfl (any_of HT_.out (by kernel_rfl)) (fun _ _ _ h => h) (Or.inr ⟨by rfl, rfl⟩) ?_ ?_
         rotate_left
         · simp only [qa_, qb_, qc_, qd_, i64_w, i32_w]; rfl
         refine pure_ (i := 36) (N := some 84) (v := undef) (a' := ?_) bb1_37 rfl rfl (any_of HT_.out (by kernel_rfl)) (fun _ _ _ h => h) (Or.inr ⟨by rfl, rfl⟩) ?_ ?_
         rotate_left
         · simp only [qa_, qb_, qc_, qd_, i64_w, i32_w]; rfl
         refine pure_ (i := 37) (N := some 85) (v := undef) (a' := ?_) bb1_38 rfl rfl (any_of HT_.out (by kernel_rfl)) (fun _ _ _ h => h) (Or.inr ⟨by rfl, rfl⟩) ?_ ?_
         rotate_left
         · simp only [qa_, qb_, qc_, qd_, i64_w, i32_w]; rfl
         refine pure_ (i := 38) (N := some 86) (v := undef) (a' := ?_) bb1_39 rfl rfl (any_of HT_.out (by kernel_rfl)) (fun _ _ _ h => h) (Or.inr ⟨by rfl, rfl⟩) ?_ ?_
         rotate_left
         · simp only [qa_, qb_, qc_, qd_, i64_w, i32_w]; rfl
         refine pure_ (i := 39) (N := some 87) (v := undef) (a' := ?_) bb1_40 rfl rfl (any_of HT_.out (by kernel_rfl)) (fun _ _ _ h => h) (Or.inr ⟨by rfl, rfl⟩) ?_ ?_
         rotate_left
         · simp only [qa_, qb_, qc_, qd_, i64_w, i32_w]; rfl
         refine pure_ (i := 40) (N := some 88) (v := undef) (a' := ?_) bb1_41 rfl rfl (any_of HT_.out (by kernel_rfl)) (fun _ _ _ h => h) (Or.inr ⟨by rfl, rfl⟩) ?_ ?_
         rotate_left
         · simp only [qa_, qb_, qc_, qd_, i64_w, i32_w]; rfl
         refine pure_ (i := 41) (N := some 89) (v := undef) (a' := ?_) bb1_42 rfl rfl (any_of HT_.out (by kernel_rfl)) (fun _ _ _ h => h) (Or.inr ⟨by rfl, rfl⟩) ?_ ?_
         rotate_left
         · simp only [qa_, qb_, qc_, qd_, i64_w, i32_w]; rfl
         refine pure_ (i := 42) (N := some 90) (v := undef) (a' := ?_) bb1_43 rfl rfl (any_of HT_.out (by kernel_rfl)) (fun _ _ _ h => h) (Or.inr ⟨by rfl, rfl⟩) ?_ ?_
         rotate_left
         · simp only [qa_, qb_, qc_, qd_, i64_w, i32_w]; rfl
         refine pure_ (i := 43) (N := some 91) (v := undef) (a' := ?_) bb1_44 rfl rfl (any_of HT_.out (by kernel_rfl)) (fun _ _ _ h => h) (Or.inr ⟨by rfl, rfl⟩) ?_ ?_
         rotate_left
         · simp only [qa_, qb_, qc_, qd_, i64_w, i32_w]; rfl
         refine pure_ (i := 44) (N := some 92) (v := undef) (a' := ?_) bb1_45 rfl rfl (any_of HT_.out (by kernel_rfl)) (fun _ _ _ h => h) (Or.inr ⟨by rfl, rfl⟩) ?_ ?_
         rotate_left
         · simp only [qa_, qb_, qc_, qd_, i64_w, i32_w]; rfl
         refine pure_ (i := 45) (N := some 93) (v := undef) (a' := ?_) bb1_46 rfl rfl (any_of HT_.out (by kernel_rfl)) (fun _ _ _ h => h) (Or.inr ⟨by rfl, rfl⟩) ?_ ?_
         rotate_left
         · simp only [qa_, qb_, qc_, qd_, i64_w, i32_w]; rfl
         refine pure_ (i := 46) (N := some 94) (v := undef) (a' := ?_) bb1_47 rfl rfl (any_of HT_.out (by kernel_rfl)) (fun _ _ _ h => h) (Or.inr ⟨by rfl, rfl⟩) ?_ ?_
         rotate_left
         · simp only [qa_, qb_, qc_, qd_, i64_w, i32_w]; rfl
         refine pure_ (i := 47) (N := some 95) (v := undef) (a' := ?_) bb1_48 rfl rfl (any_of HT_.out (by kernel_rfl)) (fun _ _ _ h => h) (Or.inr ⟨by rfl, rfl⟩) ?_ ?_
         rotate_left
         · simp only [qa_, qb_, qc_, qd_, i64_w, i32_w]; rfl
         refine pure_ (i := 48) (N := some 96) (v := ?_) (a' := ?_) bb1_49 rfl rfl (any_of HT_.out (by kernel_rfl)) (fun _ _ _ h => h) (Or.inl ⟨by rfl, ?_⟩) ?_ ?_
         rotate_left
         · intro w'; go_simp; with_reducible rfl
         rotate_left
         · simp only [qa_, qb_, qc_, qd_, i64_w, i32_w]; rfl
         refine done_ (done_of HT_.out (by kernel_rfl)) ?_
         try go_wp2
         go_meet
         case rel => exact ⟨_, (true), (by first | rfl | (simp; done) | (simp [*]; done)), H', ⟨by have := HK1.out; first | omega | exact Nat.le_refl _⟩, ⟨by (with_reducible repeat (first | apply Kd.R_alloc | apply Kd.R_drewN | apply Kd.R_drew)); exact HO_3.out⟩, ⟨by (with_reducible repeat (first | apply Kd.R_alloc | apply Kd.R_drewN | apply Kd.R_drew)); exact HO_6.out⟩, ⟨by (with_reducible repeat (first | refine blk_drewN ?_ _ | refine blk_drew ?_ | refine blk_alloc ?_ _)); exact BK322.out⟩, ⟨by repeat (first | (with_reducible first | exact HB.out | apply below_alloc | apply pw_below_drewN | apply below_drew1 | refine below_set ?_ GE322.out) | exact HB.out)⟩⟩
        ·
         rw [if_neg c22] at H
         have c22b0 : decide (31 < (rd t323 x7_1)) = false := decide_eq_false c22
         clear c22
         by_cases c24 : x7_1 > 0
         ·
          rw [if_pos c24] at H
          have c24b0 : decide (0 < x7_1) = true := decide_eq_true c24
          clear c24
          obtain ⟨ji25, hji25⟩ : ∃ j_ : Int, (wrap64 (x7_1 - 1)) = j_ := ⟨_, rfl⟩
          replace H : (if 0 ≤ (ji25) then (if (ji25) < (t323.length : Int) then (if (rd t323 (ji25)) ≥ (rd t323 x7_1) then (cleatlaw04_InstOwn.j1 k1 t323 t326 t327 y330 x7_1 true a0_0 a0_1 a0_2 a0_3 a0_4 a0_5 a0_6 a0_7 a0_8 a0_9) else ((cleatlaw04_has.f k1 y330 (rd t323 x7_1)).bind fun t338 => (if t338 = true then (cleatlaw04_InstOwn.j1 k1 t323 t326 t327 y330 x7_1 false a0_0 a0_1 a0_2 a0_3 a0_4 a0_5 a0_6 a0_7 a0_8 a0_9) else (if a0_0 = 37 then (cleatlaw04_InstOwn.j1 k1 t323 t326 t327 y330 x7_1 ((rd t323 x7_1) != 0) a0_0 a0_1 a0_2 a0_3 a0_4 a0_5 a0_6 a0_7 a0_8 a0_9) else (cleatlaw04_InstOwn.j1 k1 t323 t326 t327 y330 x7_1 true a0_0 a0_1 a0_2 a0_3 a0_4 a0_5 a0_6 a0_7 a0_8 a0_9))))) else (none)) else (none)) = some r := by first | (rw [hji25] at H; exact H) | (simp only [hji25] at H ⊢; exact H)
          have hji25w : (IntKind.i64.wrap (x7_1 - 1)) = ji25 := (i64_w _).trans hji25
          by_cases c26 : 0 ≤ (ji25)
          ·
           rw [if_pos c26] at H
           have c26b0 : decide (0 ≤ (ji25)) = true := decide_eq_true c26
           clear c26
           by_cases c27 : (ji25) < (t323.length : Int)
           ·
            rw [if_pos c27] at H
            have c27b0 : decide ((ji25) < (t323.length : Int)) = true := decide_eq_true c27
            clear c27
            by_cases c28 : (rd t323 (ji25)) ≥ (rd t323 x7_1)
            ·
             rw [if_pos c28] at H
             have c28b0 : decide ((rd t323 x7_1) ≤ (rd t323 (ji25))) = true := decide_eq_true c28
             clear c28
             have H' := Aside0.mk H
             clear H
             try go_wp2
             have n0_ := Aside0.mk (Kd.R_drew HO_3.out)
             have n1_ := Aside0.mk (Kd.R_drew HO_6.out)
             have n2_ := Aside0.mk (blk_drew BK322.out)
             have n3_ := Aside0.mk (below_drew1 HB.out)
             clear HO_3
             clear HO_6
             clear BK322
             clear HB
             have HO_3 := n0_
             have HO_6 := n1_
             have BK322 := n2_
             have HB := n3_
             clear n0_ n1_ n2_ n3_
             have p333 : 0 ≤ (x7_1 : Int) := of_decide_eq_true (by first | (with_reducible assumption) | assumption)
             have q333 : x7_1 < (t323.length : Int) := of_decide_eq_true (by first | (with_reducible assumption) | assumption)
             obtain ⟨ad333, e333, hx333_0⟩ := Kd.at_int (Kd.R_reads' HO_3.out).2.2 x7_1 p333 q333
             cases e333
             replace p333 := eq_true p333
             replace q333 := eq_true q333
             have p334 : 0 ≤ (x7_1 : Int) := of_decide_eq_true (by first | (with_reducible assumption) | assumption)
             have q334 : x7_1 < (t323.length : Int) := of_decide_eq_true (by first | (with_reducible assumption) | assumption)
             obtain ⟨ad334, e334, hx334_0⟩ := Kd.at_int (Kd.R_reads' HO_3.out).2.2 x7_1 p334 q334
             obtain rfl : ad333 = ad334 := (by injection e334)
             replace p334 := eq_true p334
             replace q334 := eq_true q334
             have p335 : 0 ≤ ((ji25) : Int) := of_decide_eq_true (by first | (with_reducible assumption) | assumption)
             have q335 : (ji25) < (t323.length : Int) := of_decide_eq_true (by first | (with_reducible assumption) | assumption)
             obtain ⟨ad335, e335, hx335_0⟩ := Kd.at_int (Kd.R_reads' HO_3.out).2.2 (ji25) p335 q335
             obtain rfl : ad333 = ad335 := (by injection e335)
             replace p335 := eq_true p335
             replace q335 := eq_true q335
             have p336 : 0 ≤ (x7_1 : Int) := of_decide_eq_true (by first | (with_reducible assumption) | assumption)
             have q336 : x7_1 < (t323.length : Int) := of_decide_eq_true (by first | (with_reducible assumption) | assumption)
             obtain ⟨ad336, e336, hx336_0⟩ := Kd.at_int (Kd.R_reads' HO_3.out).2.2 x7_1 p336 q336
             obtain rfl : ad333 = ad336 := (by injection e336)
             replace p336 := eq_true p336
             replace q336 := eq_true q336
             refine start_ (n := 49) (S := fun w' => w'.cell? (ad333.add (x7_1).toNat) = some (.int .i64 (rd t323 x7_1)) ∧ w'.cell? (ad333.add (x7_1).toNat) = some (.int .i64 (rd t323 x7_1)) ∧ w'.cell? (ad333.add ((ji25)).toNat) = some (.int .i64 (rd t323 (ji25))) ∧ w'.cell? (ad333.add (x7_1).toNat) = some (.int .i64 (rd t323 x7_1))) (ds := []) bb1_0 (by kernel_rfl) rfl rfl ⟨hx333_0, hx334_0, hx335_0, hx336_0⟩ (fun hHeld => ?_); refine with_tabW cleatlaw04_InstOwn.tab9 cleatlaw04_InstOwn.bits9 (fun HT_ HW_ => ?_)
             generalize wr.drew = w29 at HO_3 HO_6 BK322 HB hx333_0 hx334_0 hx335_0 hx336_0 hHeld ⊢
             refine pure_ (i := 0) (N := some 48) (v := ?_) (a' := ?_) bb1_1 rfl rfl (any_of HT_.out (by kernel_rfl)) (fun _ _ _ h => h) (Or.inl ⟨by rfl, ?_⟩) ?_ ?_
             rotate_left
             · intro w'; go_simp; with_reducible rfl
             rotate_left
             · simp only [qa_, qb_, qc_, qd_, i64_w, i32_w]; rfl
             refine pure_ (i := 1) (N := some 49) (v := ?_) (a' := ?_) bb1_2 rfl rfl (any_of HT_.out (by kernel_rfl)) (fun _ _ _ h => h) (Or.inl ⟨by rfl, ?_⟩) ?_ ?_
             rotate_left
             · intro w'; go_simp; with_reducible rfl
             rotate_left
             · simp only [qa_, qb_, qc_, qd_, i64_w, i32_w]; rfl
             refine pure_ (i := 2) (N := some 50) (v := ?_) (a' := ?_) bb1_3 rfl rfl (any_of HT_.out (by kernel_rfl)) (fun _ _ _ h => h) (Or.inl ⟨by rfl, ?_⟩) ?_ ?_
             rotate_left
             · intro w'; go_simp; with_reducible rfl
             rotate_left
             · simp only [qa_, qb_, qc_, qd_, i64_w, i32_w]; rfl
             refine take_ (i := 3) (N := some 51) (v := ?_) (a' := ?_) bb1_4 rfl rfl (take_ofW HT_.out HW_.out (by kernel_rfl)) (fun _ _ _ h => h) (Or.inl ⟨by rfl, ?_⟩) hHeld ?_ ?_
             rotate_left
             · rintro w' ⟨s0, s1, s2, s3⟩; go_simp; with_reducible rfl
             rotate_left
             · simp only [qa_, qb_, qc_, qd_, i64_w, i32_w]; rfl
             refine pure_ (i := 4) (N := some 52) (v := ?_) (a' := ?_) bb1_5 rfl rfl (any_of HT_.out (by kernel_rfl)) (fun _ _ _ h => h) (Or.inl ⟨by rfl, ?_⟩) ?_ ?_
             rotate_left
             · intro w'; go_simp; with_reducible rfl
             rotate_left
             · simp only [qa_, qb_, qc_, qd_, i64_w, i32_w]; rfl
             refine pure_ (i := 5) (N := some 53) (v := ?_) (a' := ?_) bb1_6 rfl rfl (any_of HT_.out (by kernel_rfl)) (fun _ _ _ h => h) (Or.inl ⟨by rfl, ?_⟩) ?_ ?_
             rotate_left
             · intro w'; go_simp; with_reducible rfl
             rotate_left
             · simp only [qa_, qb_, qc_, qd_, i64_w, i32_w]; rfl
             refine pure_ (i := 6) (N := some 54) (v := ?_) (a' := ?_) bb1_7 rfl rfl (any_of HT_.out (by kernel_rfl)) (fun _ _ _ h => h) (Or.inl ⟨by rfl, ?_⟩) ?_ ?_
             rotate_left
             · intro w'; go_simp; with_reducible rfl
             rotate_left
             · simp only [qa_, qb_, qc_, qd_, i64_w, i32_w]; rfl
             refine pure_ (i := 7) (N := some 55) (v := ?_) (a' := ?_) bb1_8 rfl rfl (any_of HT_.out (by kernel_rfl)) (fun _ _ _ h => h) (Or.inl ⟨by rfl, ?_⟩) ?_ ?_
             rotate_left
             · intro w'; go_simp; with_reducible rfl
             rotate_left
             · simp only [qa_, qb_, qc_, qd_, i64_w, i32_w]; rfl
             refine pure_ (i := 8) (N := some 56) (v := ?_) (a' := ?_) bb1_9 rfl rfl (any_of HT_.out (by kernel_rfl)) (fun _ _ _ h => h) (Or.inl ⟨by rfl, ?_⟩) ?_ ?_
             rotate_left
             · intro w'; go_simp; with_reducible rfl
             rotate_left
             · simp only [qa_, qb_, qc_, qd_, i64_w, i32_w]; rfl
             refine take_ (i := 9) (N := some 57) (v := ?_) (a' := ?_) bb1_10 rfl rfl (take_ofW HT_.out HW_.out (by kernel_rfl)) (fun _ _ _ h => h) (Or.inl ⟨by rfl, ?_⟩) hHeld ?_ ?_
             rotate_left
             · rintro w' ⟨s0, s1, s2, s3⟩; go_simp; with_reducible rfl
             rotate_left
             · simp only [qa_, qb_, qc_, qd_, i64_w, i32_w]; rfl
             refine pure_ (i := 10) (N := some 58) (v := ?_) (a' := ?_) bb1_11 rfl rfl (any_of HT_.out (by kernel_rfl)) (fun _ _ _ h => h) (Or.inl ⟨by rfl, ?_⟩) ?_ ?_
             rotate_left
             · intro w'; go_simp; with_reducible rfl
             rotate_left
             · simp only [qa_, qb_, qc_, qd_, i64_w, i32_w]; rfl
             refine pure_ (i := 11) (N := some 59) (v := ?_) (a' := ?_) bb1_12 rfl rfl (any_of HT_.out (by kernel_rfl)) (fun _ _ _ h => h) (Or.inl ⟨by rfl, ?_⟩) ?_ ?_
             rotate_left
             · intro w'; go_simp; with_reducible rfl
             rotate_left
             · simp only [qa_, qb_, qc_, qd_, i64_w, i32_w]; rfl
             refine pure_ (i := 12) (N := some 60) (v := ?_) (a' := ?_) bb1_13 rfl rfl (any_of HT_.out (by kernel_rfl)) (fun _ _ _ h => h) (Or.inl ⟨by rfl, ?_⟩) ?_ ?_
             rotate_left
             · intro w'; go_simp; with_reducible rfl
             rotate_left
             · simp only [qa_, qb_, qc_, qd_, i64_w, i32_w]; rfl
             refine pure_ (i := 13) (N := some 61) (v := ?_) (a' := ?_) bb1_14 rfl rfl (any_of HT_.out (by kernel_rfl)) (fun _ _ _ h => h) (Or.inl ⟨by rfl, ?_⟩) ?_ ?_
             rotate_left
             · intro w'; go_simp; with_reducible rfl
             rotate_left
             · simp only [qa_, qb_, qc_, qd_, i64_w, i32_w]; rfl
             refine pure_ (i := 14) (N := some 62) (v := ?_) (a' := ?_) bb1_15 rfl rfl (any_of HT_.out (by kernel_rfl)) (fun _ _ _ h => h) (Or.inl ⟨by rfl, ?_⟩) ?_ ?_
             rotate_left
             · intro w'; go_simp; with_reducible rfl
             rotate_left
             · simp only [qa_, qb_, qc_, qd_, i64_w, i32_w]; rfl
             refine pure_ (i := 15) (N := some 63) (v := ?_) (a' := ?_) bb1_16 rfl rfl (any_of HT_.out (by kernel_rfl)) (fun _ _ _ h => h) (Or.inl ⟨by rfl, ?_⟩) ?_ ?_
             rotate_left
             · intro w'; go_simp; with_reducible rfl
             rotate_left
             · simp only [qa_, qb_, qc_, qd_, i64_w, i32_w]; rfl
             refine pure_ (i := 16) (N := some 64) (v := ?_) (a' := ?_) bb1_17 rfl rfl (any_of HT_.out (by kernel_rfl)) (fun _ _ _ h => h) (Or.inl ⟨by rfl, ?_⟩) ?_ ?_
             rotate_left
             · intro w'; go_simp; with_reducible rfl
             rotate_left
             · simp only [qa_, qb_, qc_, qd_, i64_w, i32_w]; rfl
             refine pure_ (i := 17) (N := some 65) (v := ?_) (a' := ?_) bb1_18 rfl rfl (any_of HT_.out (by kernel_rfl)) (fun _ _ _ h => h) (Or.inl ⟨by rfl, ?_⟩) ?_ ?_
             rotate_left
             · intro w'; go_simp; with_reducible rfl
             rotate_left
             · simp only [qa_, qb_, qc_, qd_, i64_w, i32_w]; rfl
             refine pure_ (i := 18) (N := some 66) (v := ?_) (a' := ?_) bb1_19 rfl rfl (any_of HT_.out (by kernel_rfl)) (fun _ _ _ h => h) (Or.inl ⟨by rfl, ?_⟩) ?_ ?_
             rotate_left
             · intro w'; go_simp; with_reducible rfl
             rotate_left
             · simp only [qa_, qb_, qc_, qd_, i64_w, i32_w]; rfl
             refine pure_ (i := 19) (N := some 67) (v := ?_) (a' := ?_) bb1_20 rfl rfl (any_of HT_.out (by kernel_rfl)) (fun _ _ _ h => h) (Or.inl ⟨by rfl, ?_⟩) ?_ ?_
             rotate_left
             · intro w'; go_simp; with_reducible rfl
             rotate_left
             · simp only [qa_, qb_, qc_, qd_, i64_w, i32_w]; rfl
             refine pure_ (i := 21) (N := some 69) (v := ?_) (a' := ?_) bb1_50 rfl rfl (any_of HT_.out (by kernel_rfl)) (fun _ _ _ h => h) (Or.inl ⟨by rfl, ?_⟩) ?_ ?_
             rotate_left
             · intro w'; go_simp; with_reducible rfl
             rotate_left
             · simp only [qa_, qb_, qc_, qd_, i64_w, i32_w]; rfl
             refine pure_ (i := 22) (N := some 70) (v := ?_) (a' := ?_) bb1_51 rfl rfl (any_of HT_.out (by kernel_rfl)) (fun _ _ _ h => h) (Or.inl ⟨by rfl, ?_⟩) ?_ ?_
             rotate_left
             · intro w'; go_simp; with_reducible rfl
             rotate_left
             · simp only [qa_, qb_, qc_, qd_, i64_w, i32_w]; rfl
             refine pure_ (i := 23) (N := some 71) (v := ?_) (a' := ?_) bb1_52 rfl rfl (any_of HT_.out (by kernel_rfl)) (fun _ _ _ h => h) (Or.inl ⟨by rfl, ?_⟩) ?_ ?_
             rotate_left
             · intro w'; go_simp; with_reducible rfl
             rotate_left
             · simp only [qa_, qb_, qc_, qd_, i64_w, i32_w]; rfl
             refine take_ (i := 20) (N := some 68) (v := ?_) (a' := ?_) bb1_24 rfl rfl (take_ofW HT_.out HW_.out (by kernel_rfl)) (fun _ _ _ h => h) (Or.inl ⟨by rfl, ?_⟩) hHeld ?_ ?_
             rotate_left
             · rintro w' ⟨s0, s1, s2, s3⟩; go_simp; with_reducible rfl
             rotate_left
             · simp only [qa_, qb_, qc_, qd_, i64_w, i32_w]; rfl
             refine take_ (i := 24) (N := some 72) (v := ?_) (a' := ?_) bb1_25 rfl rfl (take_ofW HT_.out HW_.out (by kernel_rfl)) (fun _ _ _ h => h) (Or.inl ⟨by rfl, ?_⟩) hHeld ?_ ?_
             rotate_left
             · rintro w' ⟨s0, s1, s2, s3⟩; go_simp; with_reducible rfl
             rotate_left
             · simp only [qa_, qb_, qc_, qd_, i64_w, i32_w]; rfl
             refine pure_ (i := 25) (N := some 73) (v := ?_) (a' := ?_) bb1_26 rfl rfl (any_of HT_.out (by kernel_rfl)) (fun _ _ _ h => h) (Or.inl ⟨by rfl, ?_⟩) ?_ ?_
             rotate_left
             · intro w'; go_simp; with_reducible rfl
             rotate_left
             · simp only [qa_, qb_, qc_, qd_, i64_w, i32_w]; rfl
             refine pure_ (i := 26) (N := some 74) (v := ?_) (a' := ?_) bb1_27 rfl rfl (any_of HT_.out (by kernel_rfl)) (fun _ _ _ h => h) (Or.inl ⟨by rfl, ?_⟩) ?_ ?_
             rotate_left
             · intro w'; go_simp; with_reducible rfl
             rotate_left
             · simp only [qa_, qb_, qc_, qd_, i64_w, i32_w]; rfl
             refine pure_ (i := 27) (N := some 75) (v := ?_) (a' := ?_) bb1_28 rfl rfl (any_of HT_.out (by kernel_rfl)) (fun _ _ _ h => h) (Or.inl ⟨by rfl, ?_⟩) ?_ ?_
             rotate_left
             · intro w'; go_simp; with_reducible rfl
             rotate_left
             · simp only [qa_, qb_, qc_, qd_, i64_w, i32_w]; rfl
             refine pure_ (i := 28) (N := some 76) (v := ?_) (a' := ?_) bb1_29 rfl rfl (any_of HT_.out (by kernel_rfl)) (fun _ _ _ h => h) (Or.inl ⟨by rfl, ?_⟩) ?_ ?_
             rotate_left
             · intro w'; go_simp; with_reducible rfl
             rotate_left
             · simp only [qa_, qb_, qc_, qd_, i64_w, i32_w]; rfl
             refine pure_ (i := 29) (N := some 77) (v := undef) (a' := ?_) bb1_30 rfl rfl (any_of HT_.out (by kernel_rfl)) (fun _ _ _ h => h) (Or.inr ⟨by rfl, rfl⟩) ?_ ?_
             rotate_left
             · simp only [qa_, qb_, qc_, qd_, i64_w, i32_w]; rfl
             refine pure_ (i := 30) (N := some 78) (v := undef) (a' := ?_) bb1_31 rfl rfl (any_of HT_.out (by kernel_rfl)) (fun _ _ _ h => h) (Or.inr ⟨by rfl, rfl⟩) ?_ ?_
             rotate_left
             · simp only [qa_, qb_, qc_, qd_, i64_w, i32_w]; rfl
             refine pure_ (i := 31) (N := some 79) (v := undef) (a' := ?_) bb1_32 rfl rfl (any_of HT_.out (by kernel_rfl)) (fun _ _ _ h => h) (Or.inr ⟨by rfl, rfl⟩) ?_ ?_
             rotate_left
             · simp only [qa_, qb_, qc_, qd_, i64_w, i32_w]; rfl
             refine pure_ (i := 32) (N := some 80) (v := undef) (a' := ?_) bb1_33 rfl rfl (any_of HT_.out (by kernel_rfl)) (fun _ _ _ h => h) (Or.inr ⟨by rfl, rfl⟩) ?_ ?_
             rotate_left
             · simp only [qa_, qb_, qc_, qd_, i64_w, i32_w]; rfl
             refine pure_ (i := 33) (N := some 81) (v := undef) (a' := ?_) bb1_34 rfl rfl (any_of HT_.out (by kernel_rfl)) (fun _ _ _ h => h) (Or.inr ⟨by rfl, rfl⟩) ?_ ?_
             rotate_left
             · simp only [qa_, qb_, qc_, qd_, i64_w, i32_w]; rfl
             refine pure_ (i := 34) (N := some 82) (v := undef) (a' := ?_) bb1_35 rfl rfl (any_of HT_.out (by kernel_rfl)) (fun _ _ _ h => h) (Or.inr ⟨by rfl, rfl⟩) ?_ ?_
             rotate_left
             · simp only [qa_, qb_, qc_, qd_, i64_w, i32_w]; rfl
             refine pure_ (i := 35) (N := some 83) (v := undef) (a' := ?_) bb1_36 rfl rfl (any_of HT_.out (by kernel_rfl)) (fun _ _ _ h => h) (Or.inr ⟨by rfl, rfl⟩) ?_ ?_
             rotate_left
             · simp only [qa_, qb_, qc_, qd_, i64_w, i32_w]; rfl
             refine pure_ (i := 36) (N := some 84) (v := undef) (a' := ?_) bb1_37 rfl rfl (any_of HT_.out (by kernel_rfl)) (fun _ _ _ h => h) (Or.inr ⟨by rfl, rfl⟩) ?_ ?_
             rotate_left
             · simp only [qa_, qb_, qc_, qd_, i64_w, i32_w]; rfl
             refine pure_ (i := 37) (N := some 85) (v := undef) (a' := ?_) bb1_38 rfl rfl (any_of HT_.out (by kernel_rfl)) (fun _ _ _ h => h) (Or.inr ⟨by rfl, rfl⟩) ?_ ?_
             rotate_left
             · simp only [qa_, qb_, qc_, qd_, i64_w, i32_w]; rfl
             refine pure_ (i := 38) (N := some 86) (v := undef) (a' := ?_) bb1_39 rfl rfl (any_of HT_.out (by kernel_rfl)) (fun _ _ _ h => h) (Or.inr ⟨by rfl, rfl⟩) ?_ ?_
             rotate_left
             · simp only [qa_, qb_, qc_, qd_, i64_w, i32_w]; rfl
             refine pure_ (i := 39) (N := some 87) (v := undef) (a' := ?_) bb1_40 rfl rfl (any_of HT_.out (by kernel_rfl)) (fun _ _ _ h => h) (Or.inr ⟨by rfl, rfl⟩) ?_ ?_
             rotate_left
             · simp only [qa_, qb_, qc_, qd_, i64_w, i32_w]; rfl
             refine pure_ (i := 40) (N := some 88) (v := undef) (a' := ?_) bb1_41 rfl rfl (any_of HT_.out (by kernel_rfl)) (fun _ _ _ h => h) (Or.inr ⟨by rfl, rfl⟩) ?_ ?_
             rotate_left
             · simp only [qa_, qb_, qc_, qd_, i64_w, i32_w]; rfl
             refine pure_ (i := 41) (N := some 89) (v := undef) (a' := ?_) bb1_42 rfl rfl (any_of HT_.out (by kernel_rfl)) (fun _ _ _ h => h) (Or.inr ⟨by rfl, rfl⟩) ?_ ?_
             rotate_left
             · simp only [qa_, qb_, qc_, qd_, i64_w, i32_w]; rfl
             refine pure_ (i := 42) (N := some 90) (v := undef) (a' := ?_) bb1_43 rfl rfl (any_of HT_.out (by kernel_rfl)) (fun _ _ _ h => h) (Or.inr ⟨by rfl, rfl⟩) ?_ ?_
             rotate_left
             · simp only [qa_, qb_, qc_, qd_, i64_w, i32_w]; rfl
             refine pure_ (i := 43) (N := some 91) (v := undef) (a' := ?_) bb1_44 rfl rfl (any_of HT_.out (by kernel_rfl)) (fun _ _ _ h => h) (Or.inr ⟨by rfl, rfl⟩) ?_ ?_
             rotate_left
             · simp only [qa_, qb_, qc_, qd_, i64_w, i32_w]; rfl
             refine pure_ (i := 44) (N := some 92) (v := undef) (a' := ?_) bb1_45 rfl rfl (any_of HT_.out (by kernel_rfl)) (fun _ _ _ h => h) (Or.inr ⟨by rfl, rfl⟩) ?_ ?_
             rotate_left
             · simp only [qa_, qb_, qc_, qd_, i64_w, i32_w]; rfl
             refine pure_ (i := 45) (N := some 93) (v := undef) (a' := ?_) bb1_46 rfl rfl (any_of HT_.out (by kernel_rfl)) (fun _ _ _ h => h) (Or.inr ⟨by rfl, rfl⟩) ?_ ?_
             rotate_left
             · simp only [qa_, qb_, qc_, qd_, i64_w, i32_w]; rfl
             refine pure_ (i := 46) (N := some 94) (v := undef) (a' := ?_) bb1_47 rfl rfl (any_of HT_.out (by kernel_rfl)) (fun _ _ _ h => h) (Or.inr ⟨by rfl, rfl⟩) ?_ ?_
             rotate_left
             · simp only [qa_, qb_, qc_, qd_, i64_w, i32_w]; rfl
             refine pure_ (i := 47) (N := some 95) (v := undef) (a' := ?_) bb1_48 rfl rfl (any_of HT_.out (by kernel_rfl)) (fun _ _ _ h => h) (Or.inr ⟨by rfl, rfl⟩) ?_ ?_
             rotate_left
             · simp only [qa_, qb_, qc_, qd_, i64_w, i32_w]; rfl
             refine pure_ (i := 48) (N := some 96) (v := ?_) (a' := ?_) bb1_49 rfl rfl (any_of HT_.out (by kernel_rfl)) (fun _ _ _ h => h) (Or.inl ⟨by rfl, ?_⟩) ?_ ?_
             rotate_left
             · intro w'; go_simp; with_reducible rfl
             rotate_left
             · simp only [qa_, qb_, qc_, qd_, i64_w, i32_w]; rfl
             refine done_ (done_of HT_.out (by kernel_rfl)) ?_
             try go_wp2
             go_meet
             case rel => exact ⟨_, (true), (by first | rfl | (simp; done) | (simp [*]; done)), H', ⟨by have := HK1.out; first | omega | exact Nat.le_refl _⟩, ⟨by (with_reducible repeat (first | apply Kd.R_alloc | apply Kd.R_drewN | apply Kd.R_drew)); exact HO_3.out⟩, ⟨by (with_reducible repeat (first | apply Kd.R_alloc | apply Kd.R_drewN | apply Kd.R_drew)); exact HO_6.out⟩, ⟨by (with_reducible repeat (first | refine blk_drewN ?_ _ | refine blk_drew ?_ | refine blk_alloc ?_ _)); exact BK322.out⟩, ⟨by repeat (first | (with_reducible first | exact HB.out | apply below_alloc | apply pw_below_drewN | apply below_drew1 | refine below_set ?_ GE322.out) | exact HB.out)⟩⟩
            ·
             rw [if_neg c28] at H
             have c28b0 : decide ((rd t323 x7_1) ≤ (rd t323 (ji25))) = false := decide_eq_false c28
             clear c28
             replace H := Option.bind_eq_some_iff.mp H
             obtain ⟨t338, A300, H⟩ := H
             replace H : (if t338 = true then (cleatlaw04_InstOwn.j1 k1 t323 t326 t327 y330 x7_1 false a0_0 a0_1 a0_2 a0_3 a0_4 a0_5 a0_6 a0_7 a0_8 a0_9) else (if a0_0 = 37 then (cleatlaw04_InstOwn.j1 k1 t323 t326 t327 y330 x7_1 ((rd t323 x7_1) != 0) a0_0 a0_1 a0_2 a0_3 a0_4 a0_5 a0_6 a0_7 a0_8 a0_9) else (cleatlaw04_InstOwn.j1 k1 t323 t326 t327 y330 x7_1 true a0_0 a0_1 a0_2 a0_3 a0_4 a0_5 a0_6 a0_7 a0_8 a0_9))) = some r := H
             have A30 := Aside0.mk A300
             clear A300
             by_cases c31 : t338 = true
             ·
              subst c31
              have H1 : (cleatlaw04_InstOwn.j1 k1 t323 t326 t327 y330 x7_1 false a0_0 a0_1 a0_2 a0_3 a0_4 a0_5 a0_6 a0_7 a0_8 a0_9) = some r := by rw [if_pos rfl] at H; exact H
              clear H
              have H := H1
              clear H1
              have H' := Aside0.mk H
              clear H
              try go_wp2
              have n0_ := Aside0.mk (Kd.R_drew HO_3.out)
              have n1_ := Aside0.mk (Kd.R_drew HO_6.out)
              have n2_ := Aside0.mk (blk_drew BK322.out)
              have n3_ := Aside0.mk (below_drew1 HB.out)
              clear HO_3
              clear HO_6
              clear BK322
              clear HB
              have HO_3 := n0_
              have HO_6 := n1_
              have BK322 := n2_
              have HB := n3_
              clear n0_ n1_ n2_ n3_
              have p333 : 0 ≤ (x7_1 : Int) := of_decide_eq_true (by first | (with_reducible assumption) | assumption)
              have q333 : x7_1 < (t323.length : Int) := of_decide_eq_true (by first | (with_reducible assumption) | assumption)
              obtain ⟨ad333, e333, hx333_0⟩ := Kd.at_int (Kd.R_reads' HO_3.out).2.2 x7_1 p333 q333
              cases e333
              replace p333 := eq_true p333
              replace q333 := eq_true q333
              have p334 : 0 ≤ (x7_1 : Int) := of_decide_eq_true (by first | (with_reducible assumption) | assumption)
              have q334 : x7_1 < (t323.length : Int) := of_decide_eq_true (by first | (with_reducible assumption) | assumption)
              obtain ⟨ad334, e334, hx334_0⟩ := Kd.at_int (Kd.R_reads' HO_3.out).2.2 x7_1 p334 q334
              obtain rfl : ad333 = ad334 := (by injection e334)
              replace p334 := eq_true p334
              replace q334 := eq_true q334
              have p335 : 0 ≤ ((ji25) : Int) := of_decide_eq_true (by first | (with_reducible assumption) | assumption)
              have q335 : (ji25) < (t323.length : Int) := of_decide_eq_true (by first | (with_reducible assumption) | assumption)
              obtain ⟨ad335, e335, hx335_0⟩ := Kd.at_int (Kd.R_reads' HO_3.out).2.2 (ji25) p335 q335
              obtain rfl : ad333 = ad335 := (by injection e335)
              replace p335 := eq_true p335
              replace q335 := eq_true q335
              have p336 : 0 ≤ (x7_1 : Int) := of_decide_eq_true (by first | (with_reducible assumption) | assumption)
              have q336 : x7_1 < (t323.length : Int) := of_decide_eq_true (by first | (with_reducible assumption) | assumption)
              obtain ⟨ad336, e336, hx336_0⟩ := Kd.at_int (Kd.R_reads' HO_3.out).2.2 x7_1 p336 q336
              obtain rfl : ad333 = ad336 := (by injection e336)
              replace p336 := eq_true p336
              replace q336 := eq_true q336
              have p337 : 0 ≤ (x7_1 : Int) := of_decide_eq_true (by first | (with_reducible assumption) | assumption)
              have q337 : x7_1 < (t323.length : Int) := of_decide_eq_true (by first | (with_reducible assumption) | assumption)
              obtain ⟨ad337, e337, hx337_0⟩ := Kd.at_int (Kd.R_reads' HO_3.out).2.2 x7_1 p337 q337
              obtain rfl : ad333 = ad337 := (by injection e337)
              replace p337 := eq_true p337
              replace q337 := eq_true q337
              obtain ⟨Ao33, co33, eo33⟩ := Kd.R_slice HO_6.out
              (first | subst eo33 | (injection eo33 with f1_ f2_ f3_; have f4_ := f1_.symm; have f5_ := f3_.symm; clear f1_ f2_ f3_; subst f4_; subst f5_))
              refine start_ (n := 49) (S := fun w' => w'.cell? (ad333.add (x7_1).toNat) = some (.int .i64 (rd t323 x7_1)) ∧ w'.cell? (ad333.add (x7_1).toNat) = some (.int .i64 (rd t323 x7_1)) ∧ w'.cell? (ad333.add ((ji25)).toNat) = some (.int .i64 (rd t323 (ji25))) ∧ w'.cell? (ad333.add (x7_1).toNat) = some (.int .i64 (rd t323 x7_1)) ∧ w'.cell? (ad333.add (x7_1).toNat) = some (.int .i64 (rd t323 x7_1))) (ds := []) bb1_0 (by kernel_rfl) rfl rfl ⟨hx333_0, hx334_0, hx335_0, hx336_0, hx337_0⟩ (fun hHeld => ?_); refine with_tabW cleatlaw04_InstOwn.tab9 cleatlaw04_InstOwn.bits9 (fun HT_ HW_ => ?_)
              generalize wr.drew = w32 at HO_3 HO_6 BK322 HB hx333_0 hx334_0 hx335_0 hx336_0 hx337_0 hHeld ⊢
              refine pure_ (i := 0) (N := some 48) (v := ?_) (a' := ?_) bb1_1 rfl rfl (any_of HT_.out (by kernel_rfl)) (fun _ _ _ h => h) (Or.inl ⟨by rfl, ?_⟩) ?_ ?_
              rotate_left
              · intro w'; go_simp; with_reducible rfl
              rotate_left
              · simp only [qa_, qb_, qc_, qd_, i64_w, i32_w]; rfl
              refine pure_ (i := 1) (N := some 49) (v := ?_) (a' := ?_) bb1_2 rfl rfl (any_of HT_.out (by kernel_rfl)) (fun _ _ _ h => h) (Or.inl ⟨by rfl, ?_⟩) ?_ ?_
              rotate_left
              · intro w'; go_simp; with_reducible rfl
              rotate_left
              · simp only [qa_, qb_, qc_, qd_, i64_w, i32_w]; rfl
              refine pure_ (i := 2) (N := some 50) (v := ?_) (a' := ?_) bb1_3 rfl rfl (any_of HT_.out (by kernel_rfl)) (fun _ _ _ h => h) (Or.inl ⟨by rfl, ?_⟩) ?_ ?_
              rotate_left
              · intro w'; go_simp; with_reducible rfl
              rotate_left
              · simp only [qa_, qb_, qc_, qd_, i64_w, i32_w]; rfl
              refine take_ (i := 3) (N := some 51) (v := ?_) (a' := ?_) bb1_4 rfl rfl (take_ofW HT_.out HW_.out (by kernel_rfl)) (fun _ _ _ h => h) (Or.inl ⟨by rfl, ?_⟩) hHeld ?_ ?_
              rotate_left
              · rintro w' ⟨s0, s1, s2, s3, s4⟩; go_simp; with_reducible rfl
              rotate_left
              · simp only [qa_, qb_, qc_, qd_, i64_w, i32_w]; rfl
              refine pure_ (i := 4) (N := some 52) (v := ?_) (a' := ?_) bb1_5 rfl rfl (any_of HT_.out (by kernel_rfl)) (fun _ _ _ h => h) (Or.inl ⟨by rfl, ?_⟩) ?_ ?_
              rotate_left
              · intro w'; go_simp; with_reducible rfl
              rotate_left
              · simp only [qa_, qb_, qc_, qd_, i64_w, i32_w]; rfl
              refine pure_ (i := 5) (N := some 53) (v := ?_) (a' := ?_) bb1_6 rfl rfl (any_of HT_.out (by kernel_rfl)) (fun _ _ _ h => h) (Or.inl ⟨by rfl, ?_⟩) ?_ ?_
              rotate_left
              · intro w'; go_simp; with_reducible rfl
              rotate_left
              · simp only [qa_, qb_, qc_, qd_, i64_w, i32_w]; rfl
              refine pure_ (i := 6) (N := some 54) (v := ?_) (a' := ?_) bb1_7 rfl rfl (any_of HT_.out (by kernel_rfl)) (fun _ _ _ h => h) (Or.inl ⟨by rfl, ?_⟩) ?_ ?_
              rotate_left
              · intro w'; go_simp; with_reducible rfl
              rotate_left
              · simp only [qa_, qb_, qc_, qd_, i64_w, i32_w]; rfl
              refine pure_ (i := 7) (N := some 55) (v := ?_) (a' := ?_) bb1_8 rfl rfl (any_of HT_.out (by kernel_rfl)) (fun _ _ _ h => h) (Or.inl ⟨by rfl, ?_⟩) ?_ ?_
              rotate_left
              · intro w'; go_simp; with_reducible rfl
              rotate_left
              · simp only [qa_, qb_, qc_, qd_, i64_w, i32_w]; rfl
              refine pure_ (i := 8) (N := some 56) (v := ?_) (a' := ?_) bb1_9 rfl rfl (any_of HT_.out (by kernel_rfl)) (fun _ _ _ h => h) (Or.inl ⟨by rfl, ?_⟩) ?_ ?_
              rotate_left
              · intro w'; go_simp; with_reducible rfl
              rotate_left
              · simp only [qa_, qb_, qc_, qd_, i64_w, i32_w]; rfl
              refine take_ (i := 9) (N := some 57) (v := ?_) (a' := ?_) bb1_10 rfl rfl (take_ofW HT_.out HW_.out (by kernel_rfl)) (fun _ _ _ h => h) (Or.inl ⟨by rfl, ?_⟩) hHeld ?_ ?_
              rotate_left
              · rintro w' ⟨s0, s1, s2, s3, s4⟩; go_simp; with_reducible rfl
              rotate_left
              · simp only [qa_, qb_, qc_, qd_, i64_w, i32_w]; rfl
              refine pure_ (i := 10) (N := some 58) (v := ?_) (a' := ?_) bb1_11 rfl rfl (any_of HT_.out (by kernel_rfl)) (fun _ _ _ h => h) (Or.inl ⟨by rfl, ?_⟩) ?_ ?_
              rotate_left
              · intro w'; go_simp; with_reducible rfl
              rotate_left
              · simp only [qa_, qb_, qc_, qd_, i64_w, i32_w]; rfl
              refine pure_ (i := 11) (N := some 59) (v := ?_) (a' := ?_) bb1_12 rfl rfl (any_of HT_.out (by kernel_rfl)) (fun _ _ _ h => h) (Or.inl ⟨by rfl, ?_⟩) ?_ ?_
              rotate_left
              · intro w'; go_simp; with_reducible rfl
              rotate_left
              · simp only [qa_, qb_, qc_, qd_, i64_w, i32_w]; rfl
              refine pure_ (i := 12) (N := some 60) (v := ?_) (a' := ?_) bb1_13 rfl rfl (any_of HT_.out (by kernel_rfl)) (fun _ _ _ h => h) (Or.inl ⟨by rfl, ?_⟩) ?_ ?_
              rotate_left
              · intro w'; go_simp; with_reducible rfl
              rotate_left
              · simp only [qa_, qb_, qc_, qd_, i64_w, i32_w]; rfl
              refine pure_ (i := 13) (N := some 61) (v := ?_) (a' := ?_) bb1_14 rfl rfl (any_of HT_.out (by kernel_rfl)) (fun _ _ _ h => h) (Or.inl ⟨by rfl, ?_⟩) ?_ ?_
              rotate_left
              · intro w'; go_simp; with_reducible rfl
              rotate_left
              · simp only [qa_, qb_, qc_, qd_, i64_w, i32_w]; rfl
              refine pure_ (i := 14) (N := some 62) (v := ?_) (a' := ?_) bb1_15 rfl rfl (any_of HT_.out (by kernel_rfl)) (fun _ _ _ h => h) (Or.inl ⟨by rfl, ?_⟩) ?_ ?_
              rotate_left
              · intro w'; go_simp; with_reducible rfl
              rotate_left
              · simp only [qa_, qb_, qc_, qd_, i64_w, i32_w]; rfl
              refine pure_ (i := 15) (N := some 63) (v := ?_) (a' := ?_) bb1_16 rfl rfl (any_of HT_.out (by kernel_rfl)) (fun _ _ _ h => h) (Or.inl ⟨by rfl, ?_⟩) ?_ ?_
              rotate_left
              · intro w'; go_simp; with_reducible rfl
              rotate_left
              · simp only [qa_, qb_, qc_, qd_, i64_w, i32_w]; rfl
              refine pure_ (i := 16) (N := some 64) (v := ?_) (a' := ?_) bb1_17 rfl rfl (any_of HT_.out (by kernel_rfl)) (fun _ _ _ h => h) (Or.inl ⟨by rfl, ?_⟩) ?_ ?_
              rotate_left
              · intro w'; go_simp; with_reducible rfl
              rotate_left
              · simp only [qa_, qb_, qc_, qd_, i64_w, i32_w]; rfl
              refine pure_ (i := 17) (N := some 65) (v := ?_) (a' := ?_) bb1_18 rfl rfl (any_of HT_.out (by kernel_rfl)) (fun _ _ _ h => h) (Or.inl ⟨by rfl, ?_⟩) ?_ ?_
              rotate_left
              · intro w'; go_simp; with_reducible rfl
              rotate_left
              · simp only [qa_, qb_, qc_, qd_, i64_w, i32_w]; rfl
              refine pure_ (i := 18) (N := some 66) (v := ?_) (a' := ?_) bb1_19 rfl rfl (any_of HT_.out (by kernel_rfl)) (fun _ _ _ h => h) (Or.inl ⟨by rfl, ?_⟩) ?_ ?_
              rotate_left
              · intro w'; go_simp; with_reducible rfl
              rotate_left
              · simp only [qa_, qb_, qc_, qd_, i64_w, i32_w]; rfl
              refine pure_ (i := 19) (N := some 67) (v := ?_) (a' := ?_) bb1_20 rfl rfl (any_of HT_.out (by kernel_rfl)) (fun _ _ _ h => h) (Or.inl ⟨by rfl, ?_⟩) ?_ ?_
              rotate_left
              · intro w'; go_simp; with_reducible rfl
              rotate_left
              · simp only [qa_, qb_, qc_, qd_, i64_w, i32_w]; rfl
              refine pure_ (i := 21) (N := some 69) (v := ?_) (a' := ?_) bb1_50 rfl rfl (any_of HT_.out (by kernel_rfl)) (fun _ _ _ h => h) (Or.inl ⟨by rfl, ?_⟩) ?_ ?_
              rotate_left
              · intro w'; go_simp; with_reducible rfl
              rotate_left
              · simp only [qa_, qb_, qc_, qd_, i64_w, i32_w]; rfl
              refine pure_ (i := 22) (N := some 70) (v := ?_) (a' := ?_) bb1_51 rfl rfl (any_of HT_.out (by kernel_rfl)) (fun _ _ _ h => h) (Or.inl ⟨by rfl, ?_⟩) ?_ ?_
              rotate_left
              · intro w'; go_simp; with_reducible rfl
              rotate_left
              · simp only [qa_, qb_, qc_, qd_, i64_w, i32_w]; rfl
              refine pure_ (i := 23) (N := some 71) (v := ?_) (a' := ?_) bb1_52 rfl rfl (any_of HT_.out (by kernel_rfl)) (fun _ _ _ h => h) (Or.inl ⟨by rfl, ?_⟩) ?_ ?_
              rotate_left
              · intro w'; go_simp; with_reducible rfl
              rotate_left
              · simp only [qa_, qb_, qc_, qd_, i64_w, i32_w]; rfl
              refine take_ (i := 20) (N := some 68) (v := ?_) (a' := ?_) bb1_24 rfl rfl (take_ofW HT_.out HW_.out (by kernel_rfl)) (fun _ _ _ h => h) (Or.inl ⟨by rfl, ?_⟩) hHeld ?_ ?_
              rotate_left
              · rintro w' ⟨s0, s1, s2, s3, s4⟩; go_simp; with_reducible rfl
              rotate_left
              · simp only [qa_, qb_, qc_, qd_, i64_w, i32_w]; rfl
              refine take_ (i := 24) (N := some 72) (v := ?_) (a' := ?_) bb1_25 rfl rfl (take_ofW HT_.out HW_.out (by kernel_rfl)) (fun _ _ _ h => h) (Or.inl ⟨by rfl, ?_⟩) hHeld ?_ ?_
              rotate_left
              · rintro w' ⟨s0, s1, s2, s3, s4⟩; go_simp; with_reducible rfl
              rotate_left
              · simp only [qa_, qb_, qc_, qd_, i64_w, i32_w]; rfl
              refine pure_ (i := 25) (N := some 73) (v := ?_) (a' := ?_) bb1_26 rfl rfl (any_of HT_.out (by kernel_rfl)) (fun _ _ _ h => h) (Or.inl ⟨by rfl, ?_⟩) ?_ ?_
              rotate_left
              · intro w'; go_simp; with_reducible rfl
              rotate_left
              · simp only [qa_, qb_, qc_, qd_, i64_w, i32_w]; rfl
              refine pure_ (i := 26) (N := some 74) (v := ?_) (a' := ?_) bb1_27 rfl rfl (any_of HT_.out (by kernel_rfl)) (fun _ _ _ h => h) (Or.inl ⟨by rfl, ?_⟩) ?_ ?_
              rotate_left
              · intro w'; go_simp; with_reducible rfl
              rotate_left
              · simp only [qa_, qb_, qc_, qd_, i64_w, i32_w]; rfl
              refine pure_ (i := 27) (N := some 75) (v := ?_) (a' := ?_) bb1_28 rfl rfl (any_of HT_.out (by kernel_rfl)) (fun _ _ _ h => h) (Or.inl ⟨by rfl, ?_⟩) ?_ ?_
              rotate_left
              · intro w'; go_simp; with_reducible rfl
              rotate_left
              · simp only [qa_, qb_, qc_, qd_, i64_w, i32_w]; rfl
              refine pure_ (i := 28) (N := some 76) (v := ?_) (a' := ?_) bb1_29 rfl rfl (any_of HT_.out (by kernel_rfl)) (fun _ _ _ h => h) (Or.inl ⟨by rfl, ?_⟩) ?_ ?_
              rotate_left
              · intro w'; go_simp; with_reducible rfl
              rotate_left
              · simp only [qa_, qb_, qc_, qd_, i64_w, i32_w]; rfl
              refine pure_ (i := 29) (N := some 77) (v := ?_) (a' := ?_) bb1_30 rfl rfl (any_of HT_.out (by kernel_rfl)) (fun _ _ _ h => h) (Or.inl ⟨by rfl, ?_⟩) ?_ ?_
              rotate_left
              · intro w'; go_simp; with_reducible rfl
              rotate_left
              · simp only [qa_, qb_, qc_, qd_, i64_w, i32_w]; rfl
              refine pure_ (i := 30) (N := some 78) (v := ?_) (a' := ?_) bb1_31 rfl rfl (any_of HT_.out (by kernel_rfl)) (fun _ _ _ h => h) (Or.inl ⟨by rfl, ?_⟩) ?_ ?_
              rotate_left
              · intro w'; go_simp; with_reducible rfl
              rotate_left
              · simp only [qa_, qb_, qc_, qd_, i64_w, i32_w]; rfl
              refine pure_ (i := 31) (N := some 79) (v := ?_) (a' := ?_) bb1_32 rfl rfl (any_of HT_.out (by kernel_rfl)) (fun _ _ _ h => h) (Or.inl ⟨by rfl, ?_⟩) ?_ ?_
              rotate_left
              · intro w'; go_simp; with_reducible rfl
              rotate_left
              · simp only [qa_, qb_, qc_, qd_, i64_w, i32_w]; rfl
              refine pure_ (i := 32) (N := some 80) (v := ?_) (a' := ?_) bb1_33 rfl rfl (any_of HT_.out (by kernel_rfl)) (fun _ _ _ h => h) (Or.inl ⟨by rfl, ?_⟩) ?_ ?_
              rotate_left
              · intro w'; go_simp; with_reducible rfl
              rotate_left
              · simp only [qa_, qb_, qc_, qd_, i64_w, i32_w]; rfl
              refine take_ (i := 33) (N := some 81) (v := ?_) (a' := ?_) bb1_34 rfl rfl (take_ofW HT_.out HW_.out (by kernel_rfl)) (fun _ _ _ h => h) (Or.inl ⟨by rfl, ?_⟩) hHeld ?_ ?_
              rotate_left
              · rintro w' ⟨s0, s1, s2, s3, s4⟩; go_simp; with_reducible rfl
              rotate_left
              · simp only [qa_, qb_, qc_, qd_, i64_w, i32_w]; rfl
              refine one_ (i := 34) (N := some 82) bb1_35 rfl rfl (one_of HT_.out (by kernel_rfl)) (by decide) (fun K hK => ?_)
              refine goes_ Tryd.func35 (by kernel_rfl) rfl #[.slice Ao33 y330.length co33, .int .i64 (rd t323 x7_1)] (by rfl) rfl rfl (by (try simp only [List.map_toArray, List.map_cons, List.map_nil]); first | done | rfl | (simp only [List.length_drop, List.length_take]; rfl)) ?_
              with_reducible refine (cleatlaw04_has.calls k1 _ _ y330 (rd t323 x7_1) true _ ?side1 ?side2 A30.out).mono ?_
              (case side1 => repeat (first | exact (Kd.R_reads' HO_6.out).2.2 | (with_reducible refine Kd.C_alloc ?_ _) | (with_reducible refine Kd.C_drewN ?_ _) | (with_reducible refine Kd.C_drew ?_)))
              (case side2 => exact (Kd.R_reads' HO_6.out).2.1)
              rintro e w' ⟨rfl, ⟨nd, rfl⟩⟩
              refine ⟨_, rfl, ?_⟩
              refine hK.out _ _ ⟨hHeld.1, hHeld.2.1, hHeld.2.2.1, hHeld.2.2.2.1, hHeld.2.2.2.2⟩ (fun hHeld => ?_)
              clear hK K
              refine norm_ (a' := ?_) ?_ ?_
              rotate_left
              ·
               show Act.put _ (some 82) _ = _
               simp only [qa_, qb_, qc_, qd_, i64_w, i32_w]
               rfl
              refine pure_ (i := 35) (N := some 83) (v := ?_) (a' := ?_) bb1_36 rfl rfl (any_of HT_.out (by kernel_rfl)) (fun _ _ _ h => h) (Or.inl ⟨by rfl, ?_⟩) ?_ ?_
              rotate_left
              · intro w'; go_simp; with_reducible rfl
              rotate_left
              · simp only [qa_, qb_, qc_, qd_, i64_w, i32_w]; rfl
              refine pure_ (i := 36) (N := some 84) (v := ?_) (a' := ?_) bb1_37 rfl rfl (any_of HT_.out (by kernel_rfl)) (fun _ _ _ h => h) (Or.inl ⟨by rfl, ?_⟩) ?_ ?_
              rotate_left
              · intro w'; go_simp; with_reducible rfl
              rotate_left
              · simp only [qa_, qb_, qc_, qd_, i64_w, i32_w]; rfl
              refine pure_ (i := 37) (N := some 85) (v := undef) (a' := ?_) bb1_38 rfl rfl (any_of HT_.out (by kernel_rfl)) (fun _ _ _ h => h) (Or.inr ⟨by rfl, rfl⟩) ?_ ?_
              rotate_left
              · simp only [qa_, qb_, qc_, qd_, i64_w, i32_w]; rfl
              refine pure_ (i := 38) (N := some 86) (v := undef) (a' := ?_) bb1_39 rfl rfl (any_of HT_.out (by kernel_rfl)) (fun _ _ _ h => h) (Or.inr ⟨by rfl, rfl⟩) ?_ ?_
              rotate_left
              · simp only [qa_, qb_, qc_, qd_, i64_w, i32_w]; rfl
              refine pure_ (i := 39) (N := some 87) (v := undef) (a' := ?_) bb1_40 rfl rfl (any_of HT_.out (by kernel_rfl)) (fun _ _ _ h => h) (Or.inr ⟨by rfl, rfl⟩) ?_ ?_
              rotate_left
              · simp only [qa_, qb_, qc_, qd_, i64_w, i32_w]; rfl
              refine pure_ (i := 40) (N := some 88) (v := undef) (a' := ?_) bb1_41 rfl rfl (any_of HT_.out (by kernel_rfl)) (fun _ _ _ h => h) (Or.inr ⟨by rfl, rfl⟩) ?_ ?_
              rotate_left
              · simp only [qa_, qb_, qc_, qd_, i64_w, i32_w]; rfl
              refine pure_ (i := 41) (N := some 89) (v := undef) (a' := ?_) bb1_42 rfl rfl (any_of HT_.out (by kernel_rfl)) (fun _ _ _ h => h) (Or.inr ⟨by rfl, rfl⟩) ?_ ?_
              rotate_left
              · simp only [qa_, qb_, qc_, qd_, i64_w, i32_w]; rfl
              refine pure_ (i := 42) (N := some 90) (v := undef) (a' := ?_) bb1_43 rfl rfl (any_of HT_.out (by kernel_rfl)) (fun _ _ _ h => h) (Or.inr ⟨by rfl, rfl⟩) ?_ ?_
              rotate_left
              · simp only [qa_, qb_, qc_, qd_, i64_w, i32_w]; rfl
              refine pure_ (i := 43) (N := some 91) (v := undef) (a' := ?_) bb1_44 rfl rfl (any_of HT_.out (by kernel_rfl)) (fun _ _ _ h => h) (Or.inr ⟨by rfl, rfl⟩) ?_ ?_
              rotate_left
              · simp only [qa_, qb_, qc_, qd_, i64_w, i32_w]; rfl
              refine pure_ (i := 44) (N := some 92) (v := undef) (a' := ?_) bb1_45 rfl rfl (any_of HT_.out (by kernel_rfl)) (fun _ _ _ h => h) (Or.inr ⟨by rfl, rfl⟩) ?_ ?_
              rotate_left
              · simp only [qa_, qb_, qc_, qd_, i64_w, i32_w]; rfl
              refine pure_ (i := 45) (N := some 93) (v := undef) (a' := ?_) bb1_46 rfl rfl (any_of HT_.out (by kernel_rfl)) (fun _ _ _ h => h) (Or.inr ⟨by rfl, rfl⟩) ?_ ?_
              rotate_left
              · simp only [qa_, qb_, qc_, qd_, i64_w, i32_w]; rfl
              refine pure_ (i := 46) (N := some 94) (v := undef) (a' := ?_) bb1_47 rfl rfl (any_of HT_.out (by kernel_rfl)) (fun _ _ _ h => h) (Or.inr ⟨by rfl, rfl⟩) ?_ ?_
              rotate_left
              · simp only [qa_, qb_, qc_, qd_, i64_w, i32_w]; rfl
              refine pure_ (i := 47) (N := some 95) (v := ?_) (a' := ?_) bb1_48 rfl rfl (any_of HT_.out (by kernel_rfl)) (fun _ _ _ h => h) (Or.inl ⟨by rfl, ?_⟩) ?_ ?_
              rotate_left
              · intro w'; go_simp; with_reducible rfl
              rotate_left
              · simp only [qa_, qb_, qc_, qd_, i64_w, i32_w]; rfl
              refine pure_ (i := 48) (N := some 96) (v := ?_) (a' := ?_) bb1_49 rfl rfl (any_of HT_.out (by kernel_rfl)) (fun _ _ _ h => h) (Or.inl ⟨by rfl, ?_⟩) ?_ ?_
              rotate_left
              · intro w'; go_simp; with_reducible rfl
              rotate_left
              · simp only [qa_, qb_, qc_, qd_, i64_w, i32_w]; rfl
              refine done_ (done_of HT_.out (by kernel_rfl)) ?_
              try go_wp2
              go_meet
              case rel => exact ⟨_, (false), (by first | rfl | (simp; done) | (simp [*]; done)), H', ⟨by have := HK1.out; first | omega | exact Nat.le_refl _⟩, ⟨by (with_reducible repeat (first | apply Kd.R_alloc | apply Kd.R_drewN | apply Kd.R_drew)); exact HO_3.out⟩, ⟨by (with_reducible repeat (first | apply Kd.R_alloc | apply Kd.R_drewN | apply Kd.R_drew)); exact HO_6.out⟩, ⟨by (with_reducible repeat (first | refine blk_drewN ?_ _ | refine blk_drew ?_ | refine blk_alloc ?_ _)); exact BK322.out⟩, ⟨by repeat (first | (with_reducible first | exact HB.out | apply below_alloc | apply pw_below_drewN | apply below_drew1 | refine below_set ?_ GE322.out) | exact HB.out)⟩⟩
             ·
              replace c31 := Bool.eq_false_iff.mpr c31
              subst c31
              have H1 : (if a0_0 = 37 then (cleatlaw04_InstOwn.j1 k1 t323 t326 t327 y330 x7_1 ((rd t323 x7_1) != 0) a0_0 a0_1 a0_2 a0_3 a0_4 a0_5 a0_6 a0_7 a0_8 a0_9) else (cleatlaw04_InstOwn.j1 k1 t323 t326 t327 y330 x7_1 true a0_0 a0_1 a0_2 a0_3 a0_4 a0_5 a0_6 a0_7 a0_8 a0_9)) = some r := by rw [if_neg (show ¬ (false = true) by decide)] at H; exact H
              clear H
              have H := H1
              clear H1
              by_cases c34 : a0_0 = 37
              ·
               rw [if_pos c34] at H
               have c34b0 : (a0_0 == 37) = true := beq_iff_eq.mpr c34
               have c34b1 : (a0_0 != 37) = false := bne_eq_false_iff_eq.mpr c34
               clear c34
               have H' := Aside0.mk H
               clear H
               try go_wp2
               have n0_ := Aside0.mk (Kd.R_drew HO_3.out)
               have n1_ := Aside0.mk (Kd.R_drew HO_6.out)
               have n2_ := Aside0.mk (blk_drew BK322.out)
               have n3_ := Aside0.mk (below_drew1 HB.out)
               clear HO_3
               clear HO_6
               clear BK322
               clear HB
               have HO_3 := n0_
               have HO_6 := n1_
               have BK322 := n2_
               have HB := n3_
               clear n0_ n1_ n2_ n3_
               have p333 : 0 ≤ (x7_1 : Int) := of_decide_eq_true (by first | (with_reducible assumption) | assumption)
               have q333 : x7_1 < (t323.length : Int) := of_decide_eq_true (by first | (with_reducible assumption) | assumption)
               obtain ⟨ad333, e333, hx333_0⟩ := Kd.at_int (Kd.R_reads' HO_3.out).2.2 x7_1 p333 q333
               cases e333
               replace p333 := eq_true p333
               replace q333 := eq_true q333
               have p334 : 0 ≤ (x7_1 : Int) := of_decide_eq_true (by first | (with_reducible assumption) | assumption)
               have q334 : x7_1 < (t323.length : Int) := of_decide_eq_true (by first | (with_reducible assumption) | assumption)
               obtain ⟨ad334, e334, hx334_0⟩ := Kd.at_int (Kd.R_reads' HO_3.out).2.2 x7_1 p334 q334
               obtain rfl : ad333 = ad334 := (by injection e334)
               replace p334 := eq_true p334
               replace q334 := eq_true q334
               have p335 : 0 ≤ ((ji25) : Int) := of_decide_eq_true (by first | (with_reducible assumption) | assumption)
               have q335 : (ji25) < (t323.length : Int) := of_decide_eq_true (by first | (with_reducible assumption) | assumption)
               obtain ⟨ad335, e335, hx335_0⟩ := Kd.at_int (Kd.R_reads' HO_3.out).2.2 (ji25) p335 q335
               obtain rfl : ad333 = ad335 := (by injection e335)
               replace p335 := eq_true p335
               replace q335 := eq_true q335
               have p336 : 0 ≤ (x7_1 : Int) := of_decide_eq_true (by first | (with_reducible assumption) | assumption)
               have q336 : x7_1 < (t323.length : Int) := of_decide_eq_true (by first | (with_reducible assumption) | assumption)
               obtain ⟨ad336, e336, hx336_0⟩ := Kd.at_int (Kd.R_reads' HO_3.out).2.2 x7_1 p336 q336
               obtain rfl : ad333 = ad336 := (by injection e336)
               replace p336 := eq_true p336
               replace q336 := eq_true q336
               have p337 : 0 ≤ (x7_1 : Int) := of_decide_eq_true (by first | (with_reducible assumption) | assumption)
               have q337 : x7_1 < (t323.length : Int) := of_decide_eq_true (by first | (with_reducible assumption) | assumption)
               obtain ⟨ad337, e337, hx337_0⟩ := Kd.at_int (Kd.R_reads' HO_3.out).2.2 x7_1 p337 q337
               obtain rfl : ad333 = ad337 := (by injection e337)
               replace p337 := eq_true p337
               replace q337 := eq_true q337
               obtain ⟨Ao36, co36, eo36⟩ := Kd.R_slice HO_6.out
               (first | subst eo36 | (injection eo36 with f1_ f2_ f3_; have f4_ := f1_.symm; have f5_ := f3_.symm; clear f1_ f2_ f3_; subst f4_; subst f5_))
               have p339 : 0 ≤ (x7_1 : Int) := of_decide_eq_true (by first | (with_reducible assumption) | assumption)
               have q339 : x7_1 < (t323.length : Int) := of_decide_eq_true (by first | (with_reducible assumption) | assumption)
               obtain ⟨ad339, e339, hx339_0⟩ := Kd.at_int (Kd.R_reads' HO_3.out).2.2 x7_1 p339 q339
               obtain rfl : ad333 = ad339 := (by injection e339)
               replace p339 := eq_true p339
               replace q339 := eq_true q339
               refine start_ (n := 49) (S := fun w' => w'.cell? ⟨gb322, 0, none⟩ = some (.int .i64 a0_0) ∧ w'.cell? ⟨gb322, 1, none⟩ = some (.int .i64 a0_1) ∧ w'.cell? ⟨gb322, 2, none⟩ = some (.int .i64 a0_2) ∧ w'.cell? ⟨gb322, 3, none⟩ = some (.int .i64 a0_3) ∧ w'.cell? ⟨gb322, 4, none⟩ = some (.int .i64 a0_4) ∧ w'.cell? ⟨gb322, 5, none⟩ = some (.int .i64 a0_5) ∧ w'.cell? ⟨gb322, 6, none⟩ = some (.int .u64 a0_6) ∧ w'.cell? ⟨gb322, 7, none⟩ = some (.int .i64 a0_7) ∧ w'.cell? ⟨gb322, 8, none⟩ = some (.int .i64 a0_8) ∧ w'.cell? ⟨gb322, 9, none⟩ = some (.int .i64 a0_9) ∧ w'.cell? (ad333.add (x7_1).toNat) = some (.int .i64 (rd t323 x7_1)) ∧ w'.cell? (ad333.add (x7_1).toNat) = some (.int .i64 (rd t323 x7_1)) ∧ w'.cell? (ad333.add ((ji25)).toNat) = some (.int .i64 (rd t323 (ji25))) ∧ w'.cell? (ad333.add (x7_1).toNat) = some (.int .i64 (rd t323 x7_1)) ∧ w'.cell? (ad333.add (x7_1).toNat) = some (.int .i64 (rd t323 x7_1)) ∧ w'.cell? (ad333.add (x7_1).toNat) = some (.int .i64 (rd t323 x7_1))) (ds := []) bb1_0 (by kernel_rfl) rfl rfl ⟨(blk_cell BK322.out 0).trans rfl, (blk_cell BK322.out 1).trans rfl, (blk_cell BK322.out 2).trans rfl, (blk_cell BK322.out 3).trans rfl, (blk_cell BK322.out 4).trans rfl, (blk_cell BK322.out 5).trans rfl, (blk_cell BK322.out 6).trans rfl, (blk_cell BK322.out 7).trans rfl, (blk_cell BK322.out 8).trans rfl, (blk_cell BK322.out 9).trans rfl, hx333_0, hx334_0, hx335_0, hx336_0, hx337_0, hx339_0⟩ (fun hHeld => ?_); refine with_tabW cleatlaw04_InstOwn.tab9 cleatlaw04_InstOwn.bits9 (fun HT_ HW_ => ?_)
               generalize wr.drew = w35 at HO_3 HO_6 BK322 HB hx333_0 hx334_0 hx335_0 hx336_0 hx337_0 hx339_0 hHeld ⊢
               refine pure_ (i := 0) (N := some 48) (v := ?_) (a' := ?_) bb1_1 rfl rfl (any_of HT_.out (by kernel_rfl)) (fun _ _ _ h => h) (Or.inl ⟨by rfl, ?_⟩) ?_ ?_
               rotate_left
               · intro w'; go_simp; with_reducible rfl
               rotate_left
               · simp only [qa_, qb_, qc_, qd_, i64_w, i32_w]; rfl
               refine pure_ (i := 1) (N := some 49) (v := ?_) (a' := ?_) bb1_2 rfl rfl (any_of HT_.out (by kernel_rfl)) (fun _ _ _ h => h) (Or.inl ⟨by rfl, ?_⟩) ?_ ?_
               rotate_left
               · intro w'; go_simp; with_reducible rfl
               rotate_left
               · simp only [qa_, qb_, qc_, qd_, i64_w, i32_w]; rfl
               refine pure_ (i := 2) (N := some 50) (v := ?_) (a' := ?_) bb1_3 rfl rfl (any_of HT_.out (by kernel_rfl)) (fun _ _ _ h => h) (Or.inl ⟨by rfl, ?_⟩) ?_ ?_
               rotate_left
               · intro w'; go_simp; with_reducible rfl
               rotate_left
               · simp only [qa_, qb_, qc_, qd_, i64_w, i32_w]; rfl
               refine take_ (i := 3) (N := some 51) (v := ?_) (a' := ?_) bb1_4 rfl rfl (take_ofW HT_.out HW_.out (by kernel_rfl)) (fun _ _ _ h => h) (Or.inl ⟨by rfl, ?_⟩) hHeld ?_ ?_
               rotate_left
               · rintro w' ⟨s0, s1, s2, s3, s4, s5, s6, s7, s8, s9, s10, s11, s12, s13, s14, s15⟩; go_simp; with_reducible rfl
               rotate_left
               · simp only [qa_, qb_, qc_, qd_, i64_w, i32_w]; rfl
               refine pure_ (i := 4) (N := some 52) (v := ?_) (a' := ?_) bb1_5 rfl rfl (any_of HT_.out (by kernel_rfl)) (fun _ _ _ h => h) (Or.inl ⟨by rfl, ?_⟩) ?_ ?_
               rotate_left
               · intro w'; go_simp; with_reducible rfl
               rotate_left
               · simp only [qa_, qb_, qc_, qd_, i64_w, i32_w]; rfl
               refine pure_ (i := 5) (N := some 53) (v := ?_) (a' := ?_) bb1_6 rfl rfl (any_of HT_.out (by kernel_rfl)) (fun _ _ _ h => h) (Or.inl ⟨by rfl, ?_⟩) ?_ ?_
               rotate_left
               · intro w'; go_simp; with_reducible rfl
               rotate_left
               · simp only [qa_, qb_, qc_, qd_, i64_w, i32_w]; rfl
               refine pure_ (i := 6) (N := some 54) (v := ?_) (a' := ?_) bb1_7 rfl rfl (any_of HT_.out (by kernel_rfl)) (fun _ _ _ h => h) (Or.inl ⟨by rfl, ?_⟩) ?_ ?_
               rotate_left
               · intro w'; go_simp; with_reducible rfl
               rotate_left
               · simp only [qa_, qb_, qc_, qd_, i64_w, i32_w]; rfl
               refine pure_ (i := 7) (N := some 55) (v := ?_) (a' := ?_) bb1_8 rfl rfl (any_of HT_.out (by kernel_rfl)) (fun _ _ _ h => h) (Or.inl ⟨by rfl, ?_⟩) ?_ ?_
               rotate_left
               · intro w'; go_simp; with_reducible rfl
               rotate_left
               · simp only [qa_, qb_, qc_, qd_, i64_w, i32_w]; rfl
               refine pure_ (i := 8) (N := some 56) (v := ?_) (a' := ?_) bb1_9 rfl rfl (any_of HT_.out (by kernel_rfl)) (fun _ _ _ h => h) (Or.inl ⟨by rfl, ?_⟩) ?_ ?_
               rotate_left
               · intro w'; go_simp; with_reducible rfl
               rotate_left
               · simp only [qa_, qb_, qc_, qd_, i64_w, i32_w]; rfl
               refine take_ (i := 9) (N := some 57) (v := ?_) (a' := ?_) bb1_10 rfl rfl (take_ofW HT_.out HW_.out (by kernel_rfl)) (fun _ _ _ h => h) (Or.inl ⟨by rfl, ?_⟩) hHeld ?_ ?_
               rotate_left
               · rintro w' ⟨s0, s1, s2, s3, s4, s5, s6, s7, s8, s9, s10, s11, s12, s13, s14, s15⟩; go_simp; with_reducible rfl
               rotate_left
               · simp only [qa_, qb_, qc_, qd_, i64_w, i32_w]; rfl
               refine pure_ (i := 10) (N := some 58) (v := ?_) (a' := ?_) bb1_11 rfl rfl (any_of HT_.out (by kernel_rfl)) (fun _ _ _ h => h) (Or.inl ⟨by rfl, ?_⟩) ?_ ?_
               rotate_left
               · intro w'; go_simp; with_reducible rfl
               rotate_left
               · simp only [qa_, qb_, qc_, qd_, i64_w, i32_w]; rfl
               refine pure_ (i := 11) (N := some 59) (v := ?_) (a' := ?_) bb1_12 rfl rfl (any_of HT_.out (by kernel_rfl)) (fun _ _ _ h => h) (Or.inl ⟨by rfl, ?_⟩) ?_ ?_
               rotate_left
               · intro w'; go_simp; with_reducible rfl
               rotate_left
               · simp only [qa_, qb_, qc_, qd_, i64_w, i32_w]; rfl
               refine pure_ (i := 12) (N := some 60) (v := ?_) (a' := ?_) bb1_13 rfl rfl (any_of HT_.out (by kernel_rfl)) (fun _ _ _ h => h) (Or.inl ⟨by rfl, ?_⟩) ?_ ?_
               rotate_left
               · intro w'; go_simp; with_reducible rfl
               rotate_left
               · simp only [qa_, qb_, qc_, qd_, i64_w, i32_w]; rfl
               refine pure_ (i := 13) (N := some 61) (v := ?_) (a' := ?_) bb1_14 rfl rfl (any_of HT_.out (by kernel_rfl)) (fun _ _ _ h => h) (Or.inl ⟨by rfl, ?_⟩) ?_ ?_
               rotate_left
               · intro w'; go_simp; with_reducible rfl
               rotate_left
               · simp only [qa_, qb_, qc_, qd_, i64_w, i32_w]; rfl
               refine pure_ (i := 14) (N := some 62) (v := ?_) (a' := ?_) bb1_15 rfl rfl (any_of HT_.out (by kernel_rfl)) (fun _ _ _ h => h) (Or.inl ⟨by rfl, ?_⟩) ?_ ?_
               rotate_left
               · intro w'; go_simp; with_reducible rfl
               rotate_left
               · simp only [qa_, qb_, qc_, qd_, i64_w, i32_w]; rfl
               refine pure_ (i := 15) (N := some 63) (v := ?_) (a' := ?_) bb1_16 rfl rfl (any_of HT_.out (by kernel_rfl)) (fun _ _ _ h => h) (Or.inl ⟨by rfl, ?_⟩) ?_ ?_
               rotate_left
               · intro w'; go_simp; with_reducible rfl
               rotate_left
               · simp only [qa_, qb_, qc_, qd_, i64_w, i32_w]; rfl
               refine pure_ (i := 16) (N := some 64) (v := ?_) (a' := ?_) bb1_17 rfl rfl (any_of HT_.out (by kernel_rfl)) (fun _ _ _ h => h) (Or.inl ⟨by rfl, ?_⟩) ?_ ?_
               rotate_left
               · intro w'; go_simp; with_reducible rfl
               rotate_left
               · simp only [qa_, qb_, qc_, qd_, i64_w, i32_w]; rfl
               refine pure_ (i := 17) (N := some 65) (v := ?_) (a' := ?_) bb1_18 rfl rfl (any_of HT_.out (by kernel_rfl)) (fun _ _ _ h => h) (Or.inl ⟨by rfl, ?_⟩) ?_ ?_
               rotate_left
               · intro w'; go_simp; with_reducible rfl
               rotate_left
               · simp only [qa_, qb_, qc_, qd_, i64_w, i32_w]; rfl
               refine pure_ (i := 18) (N := some 66) (v := ?_) (a' := ?_) bb1_19 rfl rfl (any_of HT_.out (by kernel_rfl)) (fun _ _ _ h => h) (Or.inl ⟨by rfl, ?_⟩) ?_ ?_
               rotate_left
               · intro w'; go_simp; with_reducible rfl
               rotate_left
               · simp only [qa_, qb_, qc_, qd_, i64_w, i32_w]; rfl
               refine pure_ (i := 19) (N := some 67) (v := ?_) (a' := ?_) bb1_20 rfl rfl (any_of HT_.out (by kernel_rfl)) (fun _ _ _ h => h) (Or.inl ⟨by rfl, ?_⟩) ?_ ?_
               rotate_left
               · intro w'; go_simp; with_reducible rfl
               rotate_left
               · simp only [qa_, qb_, qc_, qd_, i64_w, i32_w]; rfl
               refine pure_ (i := 21) (N := some 69) (v := ?_) (a' := ?_) bb1_50 rfl rfl (any_of HT_.out (by kernel_rfl)) (fun _ _ _ h => h) (Or.inl ⟨by rfl, ?_⟩) ?_ ?_
               rotate_left
               · intro w'; go_simp; with_reducible rfl
               rotate_left
               · simp only [qa_, qb_, qc_, qd_, i64_w, i32_w]; rfl
               refine pure_ (i := 22) (N := some 70) (v := ?_) (a' := ?_) bb1_51 rfl rfl (any_of HT_.out (by kernel_rfl)) (fun _ _ _ h => h) (Or.inl ⟨by rfl, ?_⟩) ?_ ?_
               rotate_left
               · intro w'; go_simp; with_reducible rfl
               rotate_left
               · simp only [qa_, qb_, qc_, qd_, i64_w, i32_w]; rfl
               refine pure_ (i := 23) (N := some 71) (v := ?_) (a' := ?_) bb1_52 rfl rfl (any_of HT_.out (by kernel_rfl)) (fun _ _ _ h => h) (Or.inl ⟨by rfl, ?_⟩) ?_ ?_
               rotate_left
               · intro w'; go_simp; with_reducible rfl
               rotate_left
               · simp only [qa_, qb_, qc_, qd_, i64_w, i32_w]; rfl
               refine take_ (i := 20) (N := some 68) (v := ?_) (a' := ?_) bb1_24 rfl rfl (take_ofW HT_.out HW_.out (by kernel_rfl)) (fun _ _ _ h => h) (Or.inl ⟨by rfl, ?_⟩) hHeld ?_ ?_
               rotate_left
               · rintro w' ⟨s0, s1, s2, s3, s4, s5, s6, s7, s8, s9, s10, s11, s12, s13, s14, s15⟩; go_simp; with_reducible rfl
               rotate_left
               · simp only [qa_, qb_, qc_, qd_, i64_w, i32_w]; rfl
               refine take_ (i := 24) (N := some 72) (v := ?_) (a' := ?_) bb1_25 rfl rfl (take_ofW HT_.out HW_.out (by kernel_rfl)) (fun _ _ _ h => h) (Or.inl ⟨by rfl, ?_⟩) hHeld ?_ ?_
               rotate_left
               · rintro w' ⟨s0, s1, s2, s3, s4, s5, s6, s7, s8, s9, s10, s11, s12, s13, s14, s15⟩; go_simp; with_reducible rfl
               rotate_left
               · simp only [qa_, qb_, qc_, qd_, i64_w, i32_w]; rfl
               refine pure_ (i := 25) (N := some 73) (v := ?_) (a' := ?_) bb1_26 rfl rfl (any_of HT_.out (by kernel_rfl)) (fun _ _ _ h => h) (Or.inl ⟨by rfl, ?_⟩) ?_ ?_
               rotate_left
               · intro w'; go_simp; with_reducible rfl
               rotate_left
               · simp only [qa_, qb_, qc_, qd_, i64_w, i32_w]; rfl
               refine pure_ (i := 26) (N := some 74) (v := ?_) (a' := ?_) bb1_27 rfl rfl (any_of HT_.out (by kernel_rfl)) (fun _ _ _ h => h) (Or.inl ⟨by rfl, ?_⟩) ?_ ?_
               rotate_left
               · intro w'; go_simp; with_reducible rfl
               rotate_left
               · simp only [qa_, qb_, qc_, qd_, i64_w, i32_w]; rfl
               refine pure_ (i := 27) (N := some 75) (v := ?_) (a' := ?_) bb1_28 rfl rfl (any_of HT_.out (by kernel_rfl)) (fun _ _ _ h => h) (Or.inl ⟨by rfl, ?_⟩) ?_ ?_
               rotate_left
               · intro w'; go_simp; with_reducible rfl
               rotate_left
               · simp only [qa_, qb_, qc_, qd_, i64_w, i32_w]; rfl
               refine pure_ (i := 28) (N := some 76) (v := ?_) (a' := ?_) bb1_29 rfl rfl (any_of HT_.out (by kernel_rfl)) (fun _ _ _ h => h) (Or.inl ⟨by rfl, ?_⟩) ?_ ?_
               rotate_left
               · intro w'; go_simp; with_reducible rfl
               rotate_left
               · simp only [qa_, qb_, qc_, qd_, i64_w, i32_w]; rfl
               refine pure_ (i := 29) (N := some 77) (v := ?_) (a' := ?_) bb1_30 rfl rfl (any_of HT_.out (by kernel_rfl)) (fun _ _ _ h => h) (Or.inl ⟨by rfl, ?_⟩) ?_ ?_
               rotate_left
               · intro w'; go_simp; with_reducible rfl
               rotate_left
               · simp only [qa_, qb_, qc_, qd_, i64_w, i32_w]; rfl
               refine pure_ (i := 30) (N := some 78) (v := ?_) (a' := ?_) bb1_31 rfl rfl (any_of HT_.out (by kernel_rfl)) (fun _ _ _ h => h) (Or.inl ⟨by rfl, ?_⟩) ?_ ?_
               rotate_left
               · intro w'; go_simp; with_reducible rfl
               rotate_left
               · simp only [qa_, qb_, qc_, qd_, i64_w, i32_w]; rfl
               refine pure_ (i := 31) (N := some 79) (v := ?_) (a' := ?_) bb1_32 rfl rfl (any_of HT_.out (by kernel_rfl)) (fun _ _ _ h => h) (Or.inl ⟨by rfl, ?_⟩) ?_ ?_
               rotate_left
               · intro w'; go_simp; with_reducible rfl
               rotate_left
               · simp only [qa_, qb_, qc_, qd_, i64_w, i32_w]; rfl
               refine pure_ (i := 32) (N := some 80) (v := ?_) (a' := ?_) bb1_33 rfl rfl (any_of HT_.out (by kernel_rfl)) (fun _ _ _ h => h) (Or.inl ⟨by rfl, ?_⟩) ?_ ?_
               rotate_left
               · intro w'; go_simp; with_reducible rfl
               rotate_left
               · simp only [qa_, qb_, qc_, qd_, i64_w, i32_w]; rfl
               refine take_ (i := 33) (N := some 81) (v := ?_) (a' := ?_) bb1_34 rfl rfl (take_ofW HT_.out HW_.out (by kernel_rfl)) (fun _ _ _ h => h) (Or.inl ⟨by rfl, ?_⟩) hHeld ?_ ?_
               rotate_left
               · rintro w' ⟨s0, s1, s2, s3, s4, s5, s6, s7, s8, s9, s10, s11, s12, s13, s14, s15⟩; go_simp; with_reducible rfl
               rotate_left
               · simp only [qa_, qb_, qc_, qd_, i64_w, i32_w]; rfl
               refine one_ (i := 34) (N := some 82) bb1_35 rfl rfl (one_of HT_.out (by kernel_rfl)) (by decide) (fun K hK => ?_)
               refine goes_ Tryd.func35 (by kernel_rfl) rfl #[.slice Ao36 y330.length co36, .int .i64 (rd t323 x7_1)] (by rfl) rfl rfl (by (try simp only [List.map_toArray, List.map_cons, List.map_nil]); first | done | rfl | (simp only [List.length_drop, List.length_take]; rfl)) ?_
               with_reducible refine (cleatlaw04_has.calls k1 _ _ y330 (rd t323 x7_1) false _ ?side1 ?side2 A30.out).mono ?_
               (case side1 => repeat (first | exact (Kd.R_reads' HO_6.out).2.2 | (with_reducible refine Kd.C_alloc ?_ _) | (with_reducible refine Kd.C_drewN ?_ _) | (with_reducible refine Kd.C_drew ?_)))
               (case side2 => exact (Kd.R_reads' HO_6.out).2.1)
               rintro e w' ⟨rfl, ⟨nd, rfl⟩⟩
               refine ⟨_, rfl, ?_⟩
               refine hK.out _ _ ⟨(blk_cell BK322.out 0).trans rfl, (blk_cell BK322.out 1).trans rfl, (blk_cell BK322.out 2).trans rfl, (blk_cell BK322.out 3).trans rfl, (blk_cell BK322.out 4).trans rfl, (blk_cell BK322.out 5).trans rfl, (blk_cell BK322.out 6).trans rfl, (blk_cell BK322.out 7).trans rfl, (blk_cell BK322.out 8).trans rfl, (blk_cell BK322.out 9).trans rfl, hHeld.2.2.2.2.2.2.2.2.2.2.1, hHeld.2.2.2.2.2.2.2.2.2.2.2.1, hHeld.2.2.2.2.2.2.2.2.2.2.2.2.1, hHeld.2.2.2.2.2.2.2.2.2.2.2.2.2.1, hHeld.2.2.2.2.2.2.2.2.2.2.2.2.2.2.1, hHeld.2.2.2.2.2.2.2.2.2.2.2.2.2.2.2⟩ (fun hHeld => ?_)
               clear hK K
               refine norm_ (a' := ?_) ?_ ?_
               rotate_left
               ·
                show Act.put _ (some 82) _ = _
                simp only [qa_, qb_, qc_, qd_, i64_w, i32_w]
                rfl
               refine pure_ (i := 35) (N := some 83) (v := ?_) (a' := ?_) bb1_36 rfl rfl (any_of HT_.out (by kernel_rfl)) (fun _ _ _ h => h) (Or.inl ⟨by rfl, ?_⟩) ?_ ?_
               rotate_left
               · intro w'; go_simp; with_reducible rfl
               rotate_left
               · simp only [qa_, qb_, qc_, qd_, i64_w, i32_w]; rfl
               refine pure_ (i := 36) (N := some 84) (v := ?_) (a' := ?_) bb1_37 rfl rfl (any_of HT_.out (by kernel_rfl)) (fun _ _ _ h => h) (Or.inl ⟨by rfl, ?_⟩) ?_ ?_
               rotate_left
               · intro w'; go_simp; with_reducible rfl
               rotate_left
               · simp only [qa_, qb_, qc_, qd_, i64_w, i32_w]; rfl
               refine pure_ (i := 37) (N := some 85) (v := ?_) (a' := ?_) bb1_38 rfl rfl (any_of HT_.out (by kernel_rfl)) (fun _ _ _ h => h) (Or.inl ⟨by rfl, ?_⟩) ?_ ?_
               rotate_left
               · intro w'; go_simp; with_reducible rfl
               rotate_left
               · simp only [qa_, qb_, qc_, qd_, i64_w, i32_w]; rfl
               refine take_ (i := 38) (N := some 86) (v := ?_) (a' := ?_) bb1_39 rfl rfl (take_ofW HT_.out HW_.out (by kernel_rfl)) (fun _ _ _ h => h) (Or.inl ⟨by rfl, ?_⟩) hHeld ?_ ?_
               rotate_left
               · rintro w' ⟨s0, s1, s2, s3, s4, s5, s6, s7, s8, s9, s10, s11, s12, s13, s14, s15⟩; go_simp; with_reducible rfl
               rotate_left
               · simp only [qa_, qb_, qc_, qd_, i64_w, i32_w]; rfl
               refine pure_ (i := 39) (N := some 87) (v := ?_) (a' := ?_) bb1_40 rfl rfl (any_of HT_.out (by kernel_rfl)) (fun _ _ _ h => h) (Or.inl ⟨by rfl, ?_⟩) ?_ ?_
               rotate_left
               · intro w'; go_simp; with_reducible rfl
               rotate_left
               · simp only [qa_, qb_, qc_, qd_, i64_w, i32_w]; rfl
               refine pure_ (i := 40) (N := some 88) (v := ?_) (a' := ?_) bb1_41 rfl rfl (any_of HT_.out (by kernel_rfl)) (fun _ _ _ h => h) (Or.inl ⟨by rfl, ?_⟩) ?_ ?_
               rotate_left
               · intro w'; go_simp; with_reducible rfl
               rotate_left
               · simp only [qa_, qb_, qc_, qd_, i64_w, i32_w]; rfl
               refine pure_ (i := 41) (N := some 89) (v := ?_) (a' := ?_) bb1_42 rfl rfl (any_of HT_.out (by kernel_rfl)) (fun _ _ _ h => h) (Or.inl ⟨by rfl, ?_⟩) ?_ ?_
               rotate_left
               · intro w'; go_simp; with_reducible rfl
               rotate_left
               · simp only [qa_, qb_, qc_, qd_, i64_w, i32_w]; rfl
               refine pure_ (i := 42) (N := some 90) (v := ?_) (a' := ?_) bb1_43 rfl rfl (any_of HT_.out (by kernel_rfl)) (fun _ _ _ h => h) (Or.inl ⟨by rfl, ?_⟩) ?_ ?_
               rotate_left
               · intro w'; go_simp; with_reducible rfl
               rotate_left
               · simp only [qa_, qb_, qc_, qd_, i64_w, i32_w]; rfl
               refine pure_ (i := 43) (N := some 91) (v := ?_) (a' := ?_) bb1_44 rfl rfl (any_of HT_.out (by kernel_rfl)) (fun _ _ _ h => h) (Or.inl ⟨by rfl, ?_⟩) ?_ ?_
               rotate_left
               · intro w'; go_simp; with_reducible rfl
               rotate_left
               · simp only [qa_, qb_, qc_, qd_, i64_w, i32_w]; rfl
               refine take_ (i := 44) (N := some 92) (v := ?_) (a' := ?_) bb1_45 rfl rfl (take_ofW HT_.out HW_.out (by kernel_rfl)) (fun _ _ _ h => h) (Or.inl ⟨by rfl, ?_⟩) hHeld ?_ ?_
               rotate_left
               · rintro w' ⟨s0, s1, s2, s3, s4, s5, s6, s7, s8, s9, s10, s11, s12, s13, s14, s15⟩; go_simp; with_reducible rfl
               rotate_left
               · simp only [qa_, qb_, qc_, qd_, i64_w, i32_w]; rfl
               refine pure_ (i := 45) (N := some 93) (v := ?_) (a' := ?_) bb1_46 rfl rfl (any_of HT_.out (by kernel_rfl)) (fun _ _ _ h => h) (Or.inl ⟨by rfl, ?_⟩) ?_ ?_
               rotate_left
               · intro w'; go_simp; with_reducible rfl
               rotate_left
               · simp only [qa_, qb_, qc_, qd_, i64_w, i32_w]; rfl
               refine pure_ (i := 46) (N := some 94) (v := ?_) (a' := ?_) bb1_47 rfl rfl (any_of HT_.out (by kernel_rfl)) (fun _ _ _ h => h) (Or.inl ⟨by rfl, ?_⟩) ?_ ?_
               rotate_left
               · intro w'; go_simp; with_reducible rfl
               rotate_left
               · simp only [qa_, qb_, qc_, qd_, i64_w, i32_w]; rfl
               refine pure_ (i := 47) (N := some 95) (v := ?_) (a' := ?_) bb1_48 rfl rfl (any_of HT_.out (by kernel_rfl)) (fun _ _ _ h => h) (Or.inl ⟨by rfl, ?_⟩) ?_ ?_
               rotate_left
               · intro w'; go_simp; with_reducible rfl
               rotate_left
               · simp only [qa_, qb_, qc_, qd_, i64_w, i32_w]; rfl
               refine pure_ (i := 48) (N := some 96) (v := ?_) (a' := ?_) bb1_49 rfl rfl (any_of HT_.out (by kernel_rfl)) (fun _ _ _ h => h) (Or.inl ⟨by rfl, ?_⟩) ?_ ?_
               rotate_left
               · intro w'; go_simp; with_reducible rfl
               rotate_left
               · simp only [qa_, qb_, qc_, qd_, i64_w, i32_w]; rfl
               refine done_ (done_of HT_.out (by kernel_rfl)) ?_
               try go_wp2
               go_meet
               case rel => exact ⟨_, (((rd t323 x7_1) != 0)), (by first | rfl | (simp; done) | (simp [*]; done)), H', ⟨by have := HK1.out; first | omega | exact Nat.le_refl _⟩, ⟨by (with_reducible repeat (first | apply Kd.R_alloc | apply Kd.R_drewN | apply Kd.R_drew)); exact HO_3.out⟩, ⟨by (with_reducible repeat (first | apply Kd.R_alloc | apply Kd.R_drewN | apply Kd.R_drew)); exact HO_6.out⟩, ⟨by (with_reducible repeat (first | refine blk_drewN ?_ _ | refine blk_drew ?_ | refine blk_alloc ?_ _)); exact BK322.out⟩, ⟨by repeat (first | (with_reducible first | exact HB.out | apply below_alloc | apply pw_below_drewN | apply below_drew1 | refine below_set ?_ GE322.out) | exact HB.out)⟩⟩
              ·
               rw [if_neg c34] at H
               have c34b0 : (a0_0 == 37) = false := beq_eq_false_iff_ne.mpr c34
               have c34b1 : (a0_0 != 37) = true := bne_iff_ne.mpr c34
               have H' := Aside0.mk H
               clear H
               try go_wp2
               have n0_ := Aside0.mk (Kd.R_drew HO_3.out)
               have n1_ := Aside0.mk (Kd.R_drew HO_6.out)
               have n2_ := Aside0.mk (blk_drew BK322.out)
               have n3_ := Aside0.mk (below_drew1 HB.out)
               clear HO_3
               clear HO_6
               clear BK322
               clear HB
               have HO_3 := n0_
               have HO_6 := n1_
               have BK322 := n2_
               have HB := n3_
               clear n0_ n1_ n2_ n3_
               have p333 : 0 ≤ (x7_1 : Int) := of_decide_eq_true (by first | (with_reducible assumption) | assumption)
               have q333 : x7_1 < (t323.length : Int) := of_decide_eq_true (by first | (with_reducible assumption) | assumption)
               obtain ⟨ad333, e333, hx333_0⟩ := Kd.at_int (Kd.R_reads' HO_3.out).2.2 x7_1 p333 q333
               cases e333
               replace p333 := eq_true p333
               replace q333 := eq_true q333
               have p334 : 0 ≤ (x7_1 : Int) := of_decide_eq_true (by first | (with_reducible assumption) | assumption)
               have q334 : x7_1 < (t323.length : Int) := of_decide_eq_true (by first | (with_reducible assumption) | assumption)
               obtain ⟨ad334, e334, hx334_0⟩ := Kd.at_int (Kd.R_reads' HO_3.out).2.2 x7_1 p334 q334
               obtain rfl : ad333 = ad334 := (by injection e334)
               replace p334 := eq_true p334
               replace q334 := eq_true q334
               have p335 : 0 ≤ ((ji25) : Int) := of_decide_eq_true (by first | (with_reducible assumption) | assumption)
               have q335 : (ji25) < (t323.length : Int) := of_decide_eq_true (by first | (with_reducible assumption) | assumption)
               obtain ⟨ad335, e335, hx335_0⟩ := Kd.at_int (Kd.R_reads' HO_3.out).2.2 (ji25) p335 q335
               obtain rfl : ad333 = ad335 := (by injection e335)
               replace p335 := eq_true p335
               replace q335 := eq_true q335
               have p336 : 0 ≤ (x7_1 : Int) := of_decide_eq_true (by first | (with_reducible assumption) | assumption)
               have q336 : x7_1 < (t323.length : Int) := of_decide_eq_true (by first | (with_reducible assumption) | assumption)
               obtain ⟨ad336, e336, hx336_0⟩ := Kd.at_int (Kd.R_reads' HO_3.out).2.2 x7_1 p336 q336
               obtain rfl : ad333 = ad336 := (by injection e336)
               replace p336 := eq_true p336
               replace q336 := eq_true q336
               have p337 : 0 ≤ (x7_1 : Int) := of_decide_eq_true (by first | (with_reducible assumption) | assumption)
               have q337 : x7_1 < (t323.length : Int) := of_decide_eq_true (by first | (with_reducible assumption) | assumption)
               obtain ⟨ad337, e337, hx337_0⟩ := Kd.at_int (Kd.R_reads' HO_3.out).2.2 x7_1 p337 q337
               obtain rfl : ad333 = ad337 := (by injection e337)
               replace p337 := eq_true p337
               replace q337 := eq_true q337
               obtain ⟨Ao38, co38, eo38⟩ := Kd.R_slice HO_6.out
               (first | subst eo38 | (injection eo38 with f1_ f2_ f3_; have f4_ := f1_.symm; have f5_ := f3_.symm; clear f1_ f2_ f3_; subst f4_; subst f5_))
               refine start_ (n := 49) (S := fun w' => w'.cell? ⟨gb322, 0, none⟩ = some (.int .i64 a0_0) ∧ w'.cell? ⟨gb322, 1, none⟩ = some (.int .i64 a0_1) ∧ w'.cell? ⟨gb322, 2, none⟩ = some (.int .i64 a0_2) ∧ w'.cell? ⟨gb322, 3, none⟩ = some (.int .i64 a0_3) ∧ w'.cell? ⟨gb322, 4, none⟩ = some (.int .i64 a0_4) ∧ w'.cell? ⟨gb322, 5, none⟩ = some (.int .i64 a0_5) ∧ w'.cell? ⟨gb322, 6, none⟩ = some (.int .u64 a0_6) ∧ w'.cell? ⟨gb322, 7, none⟩ = some (.int .i64 a0_7) ∧ w'.cell? ⟨gb322, 8, none⟩ = some (.int .i64 a0_8) ∧ w'.cell? ⟨gb322, 9, none⟩ = some (.int .i64 a0_9) ∧ w'.cell? (ad333.add (x7_1).toNat) = some (.int .i64 (rd t323 x7_1)) ∧ w'.cell? (ad333.add (x7_1).toNat) = some (.int .i64 (rd t323 x7_1)) ∧ w'.cell? (ad333.add ((ji25)).toNat) = some (.int .i64 (rd t323 (ji25))) ∧ w'.cell? (ad333.add (x7_1).toNat) = some (.int .i64 (rd t323 x7_1)) ∧ w'.cell? (ad333.add (x7_1).toNat) = some (.int .i64 (rd t323 x7_1))) (ds := []) bb1_0 (by kernel_rfl) rfl rfl ⟨(blk_cell BK322.out 0).trans rfl, (blk_cell BK322.out 1).trans rfl, (blk_cell BK322.out 2).trans rfl, (blk_cell BK322.out 3).trans rfl, (blk_cell BK322.out 4).trans rfl, (blk_cell BK322.out 5).trans rfl, (blk_cell BK322.out 6).trans rfl, (blk_cell BK322.out 7).trans rfl, (blk_cell BK322.out 8).trans rfl, (blk_cell BK322.out 9).trans rfl, hx333_0, hx334_0, hx335_0, hx336_0, hx337_0⟩ (fun hHeld => ?_); refine with_tabW cleatlaw04_InstOwn.tab9 cleatlaw04_InstOwn.bits9 (fun HT_ HW_ => ?_)
               generalize wr.drew = w37 at HO_3 HO_6 BK322 HB hx333_0 hx334_0 hx335_0 hx336_0 hx337_0 hHeld ⊢
               refine pure_ (i := 0) (N := some 48) (v := ?_) (a' := ?_) bb1_1 rfl rfl (any_of HT_.out (by kernel_rfl)) (fun _ _ _ h => h) (Or.inl ⟨by rfl, ?_⟩) ?_ ?_
               rotate_left
               · intro w'; go_simp; with_reducible rfl
               rotate_left
               · simp only [qa_, qb_, qc_, qd_, i64_w, i32_w]; rfl
               refine pure_ (i := 1) (N := some 49) (v := ?_) (a' := ?_) bb1_2 rfl rfl (any_of HT_.out (by kernel_rfl)) (fun _ _ _ h => h) (Or.inl ⟨by rfl, ?_⟩) ?_ ?_
               rotate_left
               · intro w'; go_simp; with_reducible rfl
               rotate_left
               · simp only [qa_, qb_, qc_, qd_, i64_w, i32_w]; rfl
               refine pure_ (i := 2) (N := some 50) (v := ?_) (a' := ?_) bb1_3 rfl rfl (any_of HT_.out (by kernel_rfl)) (fun _ _ _ h => h) (Or.inl ⟨by rfl, ?_⟩) ?_ ?_
               rotate_left
               · intro w'; go_simp; with_reducible rfl
               rotate_left
               · simp only [qa_, qb_, qc_, qd_, i64_w, i32_w]; rfl
               refine take_ (i := 3) (N := some 51) (v := ?_) (a' := ?_) bb1_4 rfl rfl (take_ofW HT_.out HW_.out (by kernel_rfl)) (fun _ _ _ h => h) (Or.inl ⟨by rfl, ?_⟩) hHeld ?_ ?_
               rotate_left
               · rintro w' ⟨s0, s1, s2, s3, s4, s5, s6, s7, s8, s9, s10, s11, s12, s13, s14⟩; go_simp; with_reducible rfl
               rotate_left
               · simp only [qa_, qb_, qc_, qd_, i64_w, i32_w]; rfl
               refine pure_ (i := 4) (N := some 52) (v := ?_) (a' := ?_) bb1_5 rfl rfl (any_of HT_.out (by kernel_rfl)) (fun _ _ _ h => h) (Or.inl ⟨by rfl, ?_⟩) ?_ ?_
               rotate_left
               · intro w'; go_simp; with_reducible rfl
               rotate_left
               · simp only [qa_, qb_, qc_, qd_, i64_w, i32_w]; rfl
               refine pure_ (i := 5) (N := some 53) (v := ?_) (a' := ?_) bb1_6 rfl rfl (any_of HT_.out (by kernel_rfl)) (fun _ _ _ h => h) (Or.inl ⟨by rfl, ?_⟩) ?_ ?_
               rotate_left
               · intro w'; go_simp; with_reducible rfl
               rotate_left
               · simp only [qa_, qb_, qc_, qd_, i64_w, i32_w]; rfl
               refine pure_ (i := 6) (N := some 54) (v := ?_) (a' := ?_) bb1_7 rfl rfl (any_of HT_.out (by kernel_rfl)) (fun _ _ _ h => h) (Or.inl ⟨by rfl, ?_⟩) ?_ ?_
               rotate_left
               · intro w'; go_simp; with_reducible rfl
               rotate_left
               · simp only [qa_, qb_, qc_, qd_, i64_w, i32_w]; rfl
               refine pure_ (i := 7) (N := some 55) (v := ?_) (a' := ?_) bb1_8 rfl rfl (any_of HT_.out (by kernel_rfl)) (fun _ _ _ h => h) (Or.inl ⟨by rfl, ?_⟩) ?_ ?_
               rotate_left
               · intro w'; go_simp; with_reducible rfl
               rotate_left
               · simp only [qa_, qb_, qc_, qd_, i64_w, i32_w]; rfl
               refine pure_ (i := 8) (N := some 56) (v := ?_) (a' := ?_) bb1_9 rfl rfl (any_of HT_.out (by kernel_rfl)) (fun _ _ _ h => h) (Or.inl ⟨by rfl, ?_⟩) ?_ ?_
               rotate_left
               · intro w'; go_simp; with_reducible rfl
               rotate_left
               · simp only [qa_, qb_, qc_, qd_, i64_w, i32_w]; rfl
               refine take_ (i := 9) (N := some 57) (v := ?_) (a' := ?_) bb1_10 rfl rfl (take_ofW HT_.out HW_.out (by kernel_rfl)) (fun _ _ _ h => h) (Or.inl ⟨by rfl, ?_⟩) hHeld ?_ ?_
               rotate_left
               · rintro w' ⟨s0, s1, s2, s3, s4, s5, s6, s7, s8, s9, s10, s11, s12, s13, s14⟩; go_simp; with_reducible rfl
               rotate_left
               · simp only [qa_, qb_, qc_, qd_, i64_w, i32_w]; rfl
               refine pure_ (i := 10) (N := some 58) (v := ?_) (a' := ?_) bb1_11 rfl rfl (any_of HT_.out (by kernel_rfl)) (fun _ _ _ h => h) (Or.inl ⟨by rfl, ?_⟩) ?_ ?_
               rotate_left
               · intro w'; go_simp; with_reducible rfl
               rotate_left
               · simp only [qa_, qb_, qc_, qd_, i64_w, i32_w]; rfl
               refine pure_ (i := 11) (N := some 59) (v := ?_) (a' := ?_) bb1_12 rfl rfl (any_of HT_.out (by kernel_rfl)) (fun _ _ _ h => h) (Or.inl ⟨by rfl, ?_⟩) ?_ ?_
               rotate_left
               · intro w'; go_simp; with_reducible rfl
               rotate_left
               · simp only [qa_, qb_, qc_, qd_, i64_w, i32_w]; rfl
               refine pure_ (i := 12) (N := some 60) (v := ?_) (a' := ?_) bb1_13 rfl rfl (any_of HT_.out (by kernel_rfl)) (fun _ _ _ h => h) (Or.inl ⟨by rfl, ?_⟩) ?_ ?_
               rotate_left
               · intro w'; go_simp; with_reducible rfl
               rotate_left
               · simp only [qa_, qb_, qc_, qd_, i64_w, i32_w]; rfl
               refine pure_ (i := 13) (N := some 61) (v := ?_) (a' := ?_) bb1_14 rfl rfl (any_of HT_.out (by kernel_rfl)) (fun _ _ _ h => h) (Or.inl ⟨by rfl, ?_⟩) ?_ ?_
               rotate_left
               · intro w'; go_simp; with_reducible rfl
               rotate_left
               · simp only [qa_, qb_, qc_, qd_, i64_w, i32_w]; rfl
               refine pure_ (i := 14) (N := some 62) (v := ?_) (a' := ?_) bb1_15 rfl rfl (any_of HT_.out (by kernel_rfl)) (fun _ _ _ h => h) (Or.inl ⟨by rfl, ?_⟩) ?_ ?_
               rotate_left
               · intro w'; go_simp; with_reducible rfl
               rotate_left
               · simp only [qa_, qb_, qc_, qd_, i64_w, i32_w]; rfl
               refine pure_ (i := 15) (N := some 63) (v := ?_) (a' := ?_) bb1_16 rfl rfl (any_of HT_.out (by kernel_rfl)) (fun _ _ _ h => h) (Or.inl ⟨by rfl, ?_⟩) ?_ ?_
               rotate_left
               · intro w'; go_simp; with_reducible rfl
               rotate_left
               · simp only [qa_, qb_, qc_, qd_, i64_w, i32_w]; rfl
               refine pure_ (i := 16) (N := some 64) (v := ?_) (a' := ?_) bb1_17 rfl rfl (any_of HT_.out (by kernel_rfl)) (fun _ _ _ h => h) (Or.inl ⟨by rfl, ?_⟩) ?_ ?_
               rotate_left
               · intro w'; go_simp; with_reducible rfl
               rotate_left
               · simp only [qa_, qb_, qc_, qd_, i64_w, i32_w]; rfl
               refine pure_ (i := 17) (N := some 65) (v := ?_) (a' := ?_) bb1_18 rfl rfl (any_of HT_.out (by kernel_rfl)) (fun _ _ _ h => h) (Or.inl ⟨by rfl, ?_⟩) ?_ ?_
               rotate_left
               · intro w'; go_simp; with_reducible rfl
               rotate_left
               · simp only [qa_, qb_, qc_, qd_, i64_w, i32_w]; rfl
               refine pure_ (i := 18) (N := some 66) (v := ?_) (a' := ?_) bb1_19 rfl rfl (any_of HT_.out (by kernel_rfl)) (fun _ _ _ h => h) (Or.inl ⟨by rfl, ?_⟩) ?_ ?_
               rotate_left
               · intro w'; go_simp; with_reducible rfl
               rotate_left
               · simp only [qa_, qb_, qc_, qd_, i64_w, i32_w]; rfl
               refine pure_ (i := 19) (N := some 67) (v := ?_) (a' := ?_) bb1_20 rfl rfl (any_of HT_.out (by kernel_rfl)) (fun _ _ _ h => h) (Or.inl ⟨by rfl, ?_⟩) ?_ ?_
               rotate_left
               · intro w'; go_simp; with_reducible rfl
               rotate_left
               · simp only [qa_, qb_, qc_, qd_, i64_w, i32_w]; rfl
               refine pure_ (i := 21) (N := some 69) (v := ?_) (a' := ?_) bb1_50 rfl rfl (any_of HT_.out (by kernel_rfl)) (fun _ _ _ h => h) (Or.inl ⟨by rfl, ?_⟩) ?_ ?_
               rotate_left
               · intro w'; go_simp; with_reducible rfl
               rotate_left
               · simp only [qa_, qb_, qc_, qd_, i64_w, i32_w]; rfl
               refine pure_ (i := 22) (N := some 70) (v := ?_) (a' := ?_) bb1_51 rfl rfl (any_of HT_.out (by kernel_rfl)) (fun _ _ _ h => h) (Or.inl ⟨by rfl, ?_⟩) ?_ ?_
               rotate_left
               · intro w'; go_simp; with_reducible rfl
               rotate_left
               · simp only [qa_, qb_, qc_, qd_, i64_w, i32_w]; rfl
               refine pure_ (i := 23) (N := some 71) (v := ?_) (a' := ?_) bb1_52 rfl rfl (any_of HT_.out (by kernel_rfl)) (fun _ _ _ h => h) (Or.inl ⟨by rfl, ?_⟩) ?_ ?_
               rotate_left
               · intro w'; go_simp; with_reducible rfl
               rotate_left
               · simp only [qa_, qb_, qc_, qd_, i64_w, i32_w]; rfl
               refine take_ (i := 20) (N := some 68) (v := ?_) (a' := ?_) bb1_24 rfl rfl (take_ofW HT_.out HW_.out (by kernel_rfl)) (fun _ _ _ h => h) (Or.inl ⟨by rfl, ?_⟩) hHeld ?_ ?_
               rotate_left
               · rintro w' ⟨s0, s1, s2, s3, s4, s5, s6, s7, s8, s9, s10, s11, s12, s13, s14⟩; go_simp; with_reducible rfl
               rotate_left
               · simp only [qa_, qb_, qc_, qd_, i64_w, i32_w]; rfl
               refine take_ (i := 24) (N := some 72) (v := ?_) (a' := ?_) bb1_25 rfl rfl (take_ofW HT_.out HW_.out (by kernel_rfl)) (fun _ _ _ h => h) (Or.inl ⟨by rfl, ?_⟩) hHeld ?_ ?_
               rotate_left
               · rintro w' ⟨s0, s1, s2, s3, s4, s5, s6, s7, s8, s9, s10, s11, s12, s13, s14⟩; go_simp; with_reducible rfl
               rotate_left
               · simp only [qa_, qb_, qc_, qd_, i64_w, i32_w]; rfl
               refine pure_ (i := 25) (N := some 73) (v := ?_) (a' := ?_) bb1_26 rfl rfl (any_of HT_.out (by kernel_rfl)) (fun _ _ _ h => h) (Or.inl ⟨by rfl, ?_⟩) ?_ ?_
               rotate_left
               · intro w'; go_simp; with_reducible rfl
               rotate_left
               · simp only [qa_, qb_, qc_, qd_, i64_w, i32_w]; rfl
               refine pure_ (i := 26) (N := some 74) (v := ?_) (a' := ?_) bb1_27 rfl rfl (any_of HT_.out (by kernel_rfl)) (fun _ _ _ h => h) (Or.inl ⟨by rfl, ?_⟩) ?_ ?_
               rotate_left
               · intro w'; go_simp; with_reducible rfl
               rotate_left
               · simp only [qa_, qb_, qc_, qd_, i64_w, i32_w]; rfl
               refine pure_ (i := 27) (N := some 75) (v := ?_) (a' := ?_) bb1_28 rfl rfl (any_of HT_.out (by kernel_rfl)) (fun _ _ _ h => h) (Or.inl ⟨by rfl, ?_⟩) ?_ ?_
               rotate_left
               · intro w'; go_simp; with_reducible rfl
               rotate_left
               · simp only [qa_, qb_, qc_, qd_, i64_w, i32_w]; rfl
               refine pure_ (i := 28) (N := some 76) (v := ?_) (a' := ?_) bb1_29 rfl rfl (any_of HT_.out (by kernel_rfl)) (fun _ _ _ h => h) (Or.inl ⟨by rfl, ?_⟩) ?_ ?_
               rotate_left
               · intro w'; go_simp; with_reducible rfl
               rotate_left
               · simp only [qa_, qb_, qc_, qd_, i64_w, i32_w]; rfl
               refine pure_ (i := 29) (N := some 77) (v := ?_) (a' := ?_) bb1_30 rfl rfl (any_of HT_.out (by kernel_rfl)) (fun _ _ _ h => h) (Or.inl ⟨by rfl, ?_⟩) ?_ ?_
               rotate_left
               · intro w'; go_simp; with_reducible rfl
               rotate_left
               · simp only [qa_, qb_, qc_, qd_, i64_w, i32_w]; rfl
               refine pure_ (i := 30) (N := some 78) (v := ?_) (a' := ?_) bb1_31 rfl rfl (any_of HT_.out (by kernel_rfl)) (fun _ _ _ h => h) (Or.inl ⟨by rfl, ?_⟩) ?_ ?_
               rotate_left
               · intro w'; go_simp; with_reducible rfl
               rotate_left
               · simp only [qa_, qb_, qc_, qd_, i64_w, i32_w]; rfl
               refine pure_ (i := 31) (N := some 79) (v := ?_) (a' := ?_) bb1_32 rfl rfl (any_of HT_.out (by kernel_rfl)) (fun _ _ _ h => h) (Or.inl ⟨by rfl, ?_⟩) ?_ ?_
               rotate_left
               · intro w'; go_simp; with_reducible rfl
               rotate_left
               · simp only [qa_, qb_, qc_, qd_, i64_w, i32_w]; rfl
               refine pure_ (i := 32) (N := some 80) (v := ?_) (a' := ?_) bb1_33 rfl rfl (any_of HT_.out (by kernel_rfl)) (fun _ _ _ h => h) (Or.inl ⟨by rfl, ?_⟩) ?_ ?_
               rotate_left
               · intro w'; go_simp; with_reducible rfl
               rotate_left
               · simp only [qa_, qb_, qc_, qd_, i64_w, i32_w]; rfl
               refine take_ (i := 33) (N := some 81) (v := ?_) (a' := ?_) bb1_34 rfl rfl (take_ofW HT_.out HW_.out (by kernel_rfl)) (fun _ _ _ h => h) (Or.inl ⟨by rfl, ?_⟩) hHeld ?_ ?_
               rotate_left
               · rintro w' ⟨s0, s1, s2, s3, s4, s5, s6, s7, s8, s9, s10, s11, s12, s13, s14⟩; go_simp; with_reducible rfl
               rotate_left
               · simp only [qa_, qb_, qc_, qd_, i64_w, i32_w]; rfl
               refine one_ (i := 34) (N := some 82) bb1_35 rfl rfl (one_of HT_.out (by kernel_rfl)) (by decide) (fun K hK => ?_)
               refine goes_ Tryd.func35 (by kernel_rfl) rfl #[.slice Ao38 y330.length co38, .int .i64 (rd t323 x7_1)] (by rfl) rfl rfl (by (try simp only [List.map_toArray, List.map_cons, List.map_nil]); first | done | rfl | (simp only [List.length_drop, List.length_take]; rfl)) ?_
               with_reducible refine (cleatlaw04_has.calls k1 _ _ y330 (rd t323 x7_1) false _ ?side1 ?side2 A30.out).mono ?_
               (case side1 => repeat (first | exact (Kd.R_reads' HO_6.out).2.2 | (with_reducible refine Kd.C_alloc ?_ _) | (with_reducible refine Kd.C_drewN ?_ _) | (with_reducible refine Kd.C_drew ?_)))
               (case side2 => exact (Kd.R_reads' HO_6.out).2.1)
               rintro e w' ⟨rfl, ⟨nd, rfl⟩⟩
               refine ⟨_, rfl, ?_⟩
               refine hK.out _ _ ⟨(blk_cell BK322.out 0).trans rfl, (blk_cell BK322.out 1).trans rfl, (blk_cell BK322.out 2).trans rfl, (blk_cell BK322.out 3).trans rfl, (blk_cell BK322.out 4).trans rfl, (blk_cell BK322.out 5).trans rfl, (blk_cell BK322.out 6).trans rfl, (blk_cell BK322.out 7).trans rfl, (blk_cell BK322.out 8).trans rfl, (blk_cell BK322.out 9).trans rfl, hHeld.2.2.2.2.2.2.2.2.2.2.1, hHeld.2.2.2.2.2.2.2.2.2.2.2.1, hHeld.2.2.2.2.2.2.2.2.2.2.2.2.1, hHeld.2.2.2.2.2.2.2.2.2.2.2.2.2.1, hHeld.2.2.2.2.2.2.2.2.2.2.2.2.2.2⟩ (fun hHeld => ?_)
               clear hK K
               refine norm_ (a' := ?_) ?_ ?_
               rotate_left
               ·
                show Act.put _ (some 82) _ = _
                simp only [qa_, qb_, qc_, qd_, i64_w, i32_w]
                rfl
               refine pure_ (i := 35) (N := some 83) (v := ?_) (a' := ?_) bb1_36 rfl rfl (any_of HT_.out (by kernel_rfl)) (fun _ _ _ h => h) (Or.inl ⟨by rfl, ?_⟩) ?_ ?_
               rotate_left
               · intro w'; go_simp; with_reducible rfl
               rotate_left
               · simp only [qa_, qb_, qc_, qd_, i64_w, i32_w]; rfl
               refine pure_ (i := 36) (N := some 84) (v := ?_) (a' := ?_) bb1_37 rfl rfl (any_of HT_.out (by kernel_rfl)) (fun _ _ _ h => h) (Or.inl ⟨by rfl, ?_⟩) ?_ ?_
               rotate_left
               · intro w'; go_simp; with_reducible rfl
               rotate_left
               · simp only [qa_, qb_, qc_, qd_, i64_w, i32_w]; rfl
               refine pure_ (i := 37) (N := some 85) (v := ?_) (a' := ?_) bb1_38 rfl rfl (any_of HT_.out (by kernel_rfl)) (fun _ _ _ h => h) (Or.inl ⟨by rfl, ?_⟩) ?_ ?_
               rotate_left
               · intro w'; go_simp; with_reducible rfl
               rotate_left
               · simp only [qa_, qb_, qc_, qd_, i64_w, i32_w]; rfl
               refine take_ (i := 38) (N := some 86) (v := ?_) (a' := ?_) bb1_39 rfl rfl (take_ofW HT_.out HW_.out (by kernel_rfl)) (fun _ _ _ h => h) (Or.inl ⟨by rfl, ?_⟩) hHeld ?_ ?_
               rotate_left
               · rintro w' ⟨s0, s1, s2, s3, s4, s5, s6, s7, s8, s9, s10, s11, s12, s13, s14⟩; go_simp; with_reducible rfl
               rotate_left
               · simp only [qa_, qb_, qc_, qd_, i64_w, i32_w]; rfl
               refine pure_ (i := 39) (N := some 87) (v := ?_) (a' := ?_) bb1_40 rfl rfl (any_of HT_.out (by kernel_rfl)) (fun _ _ _ h => h) (Or.inl ⟨by rfl, ?_⟩) ?_ ?_
               rotate_left
               · intro w'; go_simp; with_reducible rfl
               rotate_left
               · simp only [qa_, qb_, qc_, qd_, i64_w, i32_w]; rfl
               refine pure_ (i := 40) (N := some 88) (v := ?_) (a' := ?_) bb1_41 rfl rfl (any_of HT_.out (by kernel_rfl)) (fun _ _ _ h => h) (Or.inl ⟨by rfl, ?_⟩) ?_ ?_
               rotate_left
               · intro w'; go_simp; with_reducible rfl
               rotate_left
               · simp only [qa_, qb_, qc_, qd_, i64_w, i32_w]; rfl
               refine pure_ (i := 41) (N := some 89) (v := undef) (a' := ?_) bb1_42 rfl rfl (any_of HT_.out (by kernel_rfl)) (fun _ _ _ h => h) (Or.inr ⟨by rfl, rfl⟩) ?_ ?_
               rotate_left
               · simp only [qa_, qb_, qc_, qd_, i64_w, i32_w]; rfl
               refine pure_ (i := 42) (N := some 90) (v := undef) (a' := ?_) bb1_43 rfl rfl (any_of HT_.out (by kernel_rfl)) (fun _ _ _ h => h) (Or.inr ⟨by rfl, rfl⟩) ?_ ?_
               rotate_left
               · simp only [qa_, qb_, qc_, qd_, i64_w, i32_w]; rfl
               refine pure_ (i := 43) (N := some 91) (v := undef) (a' := ?_) bb1_44 rfl rfl (any_of HT_.out (by kernel_rfl)) (fun _ _ _ h => h) (Or.inr ⟨by rfl, rfl⟩) ?_ ?_
               rotate_left
               · simp only [qa_, qb_, qc_, qd_, i64_w, i32_w]; rfl
               refine pure_ (i := 44) (N := some 92) (v := undef) (a' := ?_) bb1_45 rfl rfl (any_of HT_.out (by kernel_rfl)) (fun _ _ _ h => h) (Or.inr ⟨by rfl, rfl⟩) ?_ ?_
               rotate_left
               · simp only [qa_, qb_, qc_, qd_, i64_w, i32_w]; rfl
               refine pure_ (i := 45) (N := some 93) (v := undef) (a' := ?_) bb1_46 rfl rfl (any_of HT_.out (by kernel_rfl)) (fun _ _ _ h => h) (Or.inr ⟨by rfl, rfl⟩) ?_ ?_
               rotate_left
               · simp only [qa_, qb_, qc_, qd_, i64_w, i32_w]; rfl
               refine pure_ (i := 46) (N := some 94) (v := ?_) (a' := ?_) bb1_47 rfl rfl (any_of HT_.out (by kernel_rfl)) (fun _ _ _ h => h) (Or.inl ⟨by rfl, ?_⟩) ?_ ?_
               rotate_left
               · intro w'; go_simp; with_reducible rfl
               rotate_left
               · simp only [qa_, qb_, qc_, qd_, i64_w, i32_w]; rfl
               refine pure_ (i := 47) (N := some 95) (v := ?_) (a' := ?_) bb1_48 rfl rfl (any_of HT_.out (by kernel_rfl)) (fun _ _ _ h => h) (Or.inl ⟨by rfl, ?_⟩) ?_ ?_
               rotate_left
               · intro w'; go_simp; with_reducible rfl
               rotate_left
               · simp only [qa_, qb_, qc_, qd_, i64_w, i32_w]; rfl
               refine pure_ (i := 48) (N := some 96) (v := ?_) (a' := ?_) bb1_49 rfl rfl (any_of HT_.out (by kernel_rfl)) (fun _ _ _ h => h) (Or.inl ⟨by rfl, ?_⟩) ?_ ?_
               rotate_left
               · intro w'; go_simp; with_reducible rfl
               rotate_left
               · simp only [qa_, qb_, qc_, qd_, i64_w, i32_w]; rfl
               refine done_ (done_of HT_.out (by kernel_rfl)) ?_
               try go_wp2
               go_meet
               case rel => exact ⟨_, (true), (by first | rfl | (simp; done) | (simp [*]; done)), H', ⟨by have := HK1.out; first | omega | exact Nat.le_refl _⟩, ⟨by (with_reducible repeat (first | apply Kd.R_alloc | apply Kd.R_drewN | apply Kd.R_drew)); exact HO_3.out⟩, ⟨by (with_reducible repeat (first | apply Kd.R_alloc | apply Kd.R_drewN | apply Kd.R_drew)); exact HO_6.out⟩, ⟨by (with_reducible repeat (first | refine blk_drewN ?_ _ | refine blk_drew ?_ | refine blk_alloc ?_ _)); exact BK322.out⟩, ⟨by repeat (first | (with_reducible first | exact HB.out | apply below_alloc | apply pw_below_drewN | apply below_drew1 | refine below_set ?_ GE322.out) | exact HB.out)⟩⟩
           ·
            rw [if_neg c27] at H
            exact absurd H (by simp)
          ·
           rw [if_neg c26] at H
           exact absurd H (by simp)
         ·
          rw [if_neg c24] at H
          have c24b0 : decide (0 < x7_1) = false := decide_eq_false c24
          clear c24
          replace H := Option.bind_eq_some_iff.mp H
          obtain ⟨t341, A390, H⟩ := H
          replace H : (if t341 = true then (cleatlaw04_InstOwn.j1 k1 t323 t326 t327 y330 x7_1 false a0_0 a0_1 a0_2 a0_3 a0_4 a0_5 a0_6 a0_7 a0_8 a0_9) else (if a0_0 = 37 then (cleatlaw04_InstOwn.j1 k1 t323 t326 t327 y330 x7_1 ((rd t323 x7_1) != 0) a0_0 a0_1 a0_2 a0_3 a0_4 a0_5 a0_6 a0_7 a0_8 a0_9) else (cleatlaw04_InstOwn.j1 k1 t323 t326 t327 y330 x7_1 true a0_0 a0_1 a0_2 a0_3 a0_4 a0_5 a0_6 a0_7 a0_8 a0_9))) = some r := H
          have A39 := Aside0.mk A390
          clear A390
          by_cases c40 : t341 = true
          ·
           subst c40
           have H1 : (cleatlaw04_InstOwn.j1 k1 t323 t326 t327 y330 x7_1 false a0_0 a0_1 a0_2 a0_3 a0_4 a0_5 a0_6 a0_7 a0_8 a0_9) = some r := by rw [if_pos rfl] at H; exact H
           clear H
           have H := H1
           clear H1
           have H' := Aside0.mk H
           clear H
           try go_wp2
           have n0_ := Aside0.mk (Kd.R_drew HO_3.out)
           have n1_ := Aside0.mk (Kd.R_drew HO_6.out)
           have n2_ := Aside0.mk (blk_drew BK322.out)
           have n3_ := Aside0.mk (below_drew1 HB.out)
           clear HO_3
           clear HO_6
           clear BK322
           clear HB
           have HO_3 := n0_
           have HO_6 := n1_
           have BK322 := n2_
           have HB := n3_
           clear n0_ n1_ n2_ n3_
           have p333 : 0 ≤ (x7_1 : Int) := of_decide_eq_true (by first | (with_reducible assumption) | assumption)
           have q333 : x7_1 < (t323.length : Int) := of_decide_eq_true (by first | (with_reducible assumption) | assumption)
           obtain ⟨ad333, e333, hx333_0⟩ := Kd.at_int (Kd.R_reads' HO_3.out).2.2 x7_1 p333 q333
           cases e333
           replace p333 := eq_true p333
           replace q333 := eq_true q333
           have p334 : 0 ≤ (x7_1 : Int) := of_decide_eq_true (by first | (with_reducible assumption) | assumption)
           have q334 : x7_1 < (t323.length : Int) := of_decide_eq_true (by first | (with_reducible assumption) | assumption)
           obtain ⟨ad334, e334, hx334_0⟩ := Kd.at_int (Kd.R_reads' HO_3.out).2.2 x7_1 p334 q334
           obtain rfl : ad333 = ad334 := (by injection e334)
           replace p334 := eq_true p334
           replace q334 := eq_true q334
           have p340 : 0 ≤ (x7_1 : Int) := of_decide_eq_true (by first | (with_reducible assumption) | assumption)
           have q340 : x7_1 < (t323.length : Int) := of_decide_eq_true (by first | (with_reducible assumption) | assumption)
           obtain ⟨ad340, e340, hx340_0⟩ := Kd.at_int (Kd.R_reads' HO_3.out).2.2 x7_1 p340 q340
           obtain rfl : ad333 = ad340 := (by injection e340)
           replace p340 := eq_true p340
           replace q340 := eq_true q340
           obtain ⟨Ao42, co42, eo42⟩ := Kd.R_slice HO_6.out
           (first | subst eo42 | (injection eo42 with f1_ f2_ f3_; have f4_ := f1_.symm; have f5_ := f3_.symm; clear f1_ f2_ f3_; subst f4_; subst f5_))
           refine start_ (n := 49) (S := fun w' => w'.cell? (ad333.add (x7_1).toNat) = some (.int .i64 (rd t323 x7_1)) ∧ w'.cell? (ad333.add (x7_1).toNat) = some (.int .i64 (rd t323 x7_1)) ∧ w'.cell? (ad333.add (x7_1).toNat) = some (.int .i64 (rd t323 x7_1))) (ds := []) bb1_0 (by kernel_rfl) rfl rfl ⟨hx333_0, hx334_0, hx340_0⟩ (fun hHeld => ?_); refine with_tabW cleatlaw04_InstOwn.tab9 cleatlaw04_InstOwn.bits9 (fun HT_ HW_ => ?_)
           generalize wr.drew = w41 at HO_3 HO_6 BK322 HB hx333_0 hx334_0 hx340_0 hHeld ⊢
           refine pure_ (i := 0) (N := some 48) (v := ?_) (a' := ?_) bb1_1 rfl rfl (any_of HT_.out (by kernel_rfl)) (fun _ _ _ h => h) (Or.inl ⟨by rfl, ?_⟩) ?_ ?_
           rotate_left
           · intro w'; go_simp; with_reducible rfl
           rotate_left
           · simp only [qa_, qb_, qc_, qd_, i64_w, i32_w]; rfl
           refine pure_ (i := 1) (N := some 49) (v := ?_) (a' := ?_) bb1_2 rfl rfl (any_of HT_.out (by kernel_rfl)) (fun _ _ _ h => h) (Or.inl ⟨by rfl, ?_⟩) ?_ ?_
           rotate_left
           · intro w'; go_simp; with_reducible rfl
           rotate_left
           · simp only [qa_, qb_, qc_, qd_, i64_w, i32_w]; rfl
           refine pure_ (i := 2) (N := some 50) (v := ?_) (a' := ?_) bb1_3 rfl rfl (any_of HT_.out (by kernel_rfl)) (fun _ _ _ h => h) (Or.inl ⟨by rfl, ?_⟩) ?_ ?_
           rotate_left
           · intro w'; go_simp; with_reducible rfl
           rotate_left
           · simp only [qa_, qb_, qc_, qd_, i64_w, i32_w]; rfl
           refine take_ (i := 3) (N := some 51) (v := ?_) (a' := ?_) bb1_4 rfl rfl (take_ofW HT_.out HW_.out (by kernel_rfl)) (fun _ _ _ h => h) (Or.inl ⟨by rfl, ?_⟩) hHeld ?_ ?_
           rotate_left
           · rintro w' ⟨s0, s1, s2⟩; go_simp; with_reducible rfl
           rotate_left
           · simp only [qa_, qb_, qc_, qd_, i64_w, i32_w]; rfl
           refine pure_ (i := 4) (N := some 52) (v := ?_) (a' := ?_) bb1_5 rfl rfl (any_of HT_.out (by kernel_rfl)) (fun _ _ _ h => h) (Or.inl ⟨by rfl, ?_⟩) ?_ ?_
           rotate_left
           · intro w'; go_simp; with_reducible rfl
           rotate_left
           · simp only [qa_, qb_, qc_, qd_, i64_w, i32_w]; rfl
           refine pure_ (i := 5) (N := some 53) (v := ?_) (a' := ?_) bb1_6 rfl rfl (any_of HT_.out (by kernel_rfl)) (fun _ _ _ h => h) (Or.inl ⟨by rfl, ?_⟩) ?_ ?_
           rotate_left
           · intro w'; go_simp; with_reducible rfl
           rotate_left
           · simp only [qa_, qb_, qc_, qd_, i64_w, i32_w]; rfl
           refine pure_ (i := 6) (N := some 54) (v := ?_) (a' := ?_) bb1_7 rfl rfl (any_of HT_.out (by kernel_rfl)) (fun _ _ _ h => h) (Or.inl ⟨by rfl, ?_⟩) ?_ ?_
           rotate_left
           · intro w'; go_simp; with_reducible rfl
           rotate_left
           · simp only [qa_, qb_, qc_, qd_, i64_w, i32_w]; rfl
           refine pure_ (i := 7) (N := some 55) (v := ?_) (a' := ?_) bb1_8 rfl rfl (any_of HT_.out (by kernel_rfl)) (fun _ _ _ h => h) (Or.inl ⟨by rfl, ?_⟩) ?_ ?_
           rotate_left
           · intro w'; go_simp; with_reducible rfl
           rotate_left
           · simp only [qa_, qb_, qc_, qd_, i64_w, i32_w]; rfl
           refine pure_ (i := 8) (N := some 56) (v := ?_) (a' := ?_) bb1_9 rfl rfl (any_of HT_.out (by kernel_rfl)) (fun _ _ _ h => h) (Or.inl ⟨by rfl, ?_⟩) ?_ ?_
           rotate_left
           · intro w'; go_simp; with_reducible rfl
           rotate_left
           · simp only [qa_, qb_, qc_, qd_, i64_w, i32_w]; rfl
           refine take_ (i := 9) (N := some 57) (v := ?_) (a' := ?_) bb1_10 rfl rfl (take_ofW HT_.out HW_.out (by kernel_rfl)) (fun _ _ _ h => h) (Or.inl ⟨by rfl, ?_⟩) hHeld ?_ ?_
           rotate_left
           · rintro w' ⟨s0, s1, s2⟩; go_simp; with_reducible rfl
           rotate_left
           · simp only [qa_, qb_, qc_, qd_, i64_w, i32_w]; rfl
           refine pure_ (i := 10) (N := some 58) (v := ?_) (a' := ?_) bb1_11 rfl rfl (any_of HT_.out (by kernel_rfl)) (fun _ _ _ h => h) (Or.inl ⟨by rfl, ?_⟩) ?_ ?_
           rotate_left
           · intro w'; go_simp; with_reducible rfl
           rotate_left
           · simp only [qa_, qb_, qc_, qd_, i64_w, i32_w]; rfl
           refine pure_ (i := 11) (N := some 59) (v := ?_) (a' := ?_) bb1_12 rfl rfl (any_of HT_.out (by kernel_rfl)) (fun _ _ _ h => h) (Or.inl ⟨by rfl, ?_⟩) ?_ ?_
           rotate_left
           · intro w'; go_simp; with_reducible rfl
           rotate_left
           · simp only [qa_, qb_, qc_, qd_, i64_w, i32_w]; rfl
           refine pure_ (i := 12) (N := some 60) (v := ?_) (a' := ?_) bb1_13 rfl rfl (any_of HT_.out (by kernel_rfl)) (fun _ _ _ h => h) (Or.inl ⟨by rfl, ?_⟩) ?_ ?_
           rotate_left
           · intro w'; go_simp; with_reducible rfl
           rotate_left
           · simp only [qa_, qb_, qc_, qd_, i64_w, i32_w]; rfl
           refine pure_ (i := 13) (N := some 61) (v := ?_) (a' := ?_) bb1_14 rfl rfl (any_of HT_.out (by kernel_rfl)) (fun _ _ _ h => h) (Or.inl ⟨by rfl, ?_⟩) ?_ ?_
           rotate_left
           · intro w'; go_simp; with_reducible rfl
           rotate_left
           · simp only [qa_, qb_, qc_, qd_, i64_w, i32_w]; rfl
           refine pure_ (i := 14) (N := some 62) (v := ?_) (a' := ?_) bb1_15 rfl rfl (any_of HT_.out (by kernel_rfl)) (fun _ _ _ h => h) (Or.inl ⟨by rfl, ?_⟩) ?_ ?_
           rotate_left
           · intro w'; go_simp; with_reducible rfl
           rotate_left
           · simp only [qa_, qb_, qc_, qd_, i64_w, i32_w]; rfl
           refine pure_ (i := 15) (N := some 63) (v := ?_) (a' := ?_) bb1_16 rfl rfl (any_of HT_.out (by kernel_rfl)) (fun _ _ _ h => h) (Or.inl ⟨by rfl, ?_⟩) ?_ ?_
           rotate_left
           · intro w'; go_simp; with_reducible rfl
           rotate_left
           · simp only [qa_, qb_, qc_, qd_, i64_w, i32_w]; rfl
           refine pure_ (i := 16) (N := some 64) (v := undef) (a' := ?_) bb1_17 rfl rfl (any_of HT_.out (by kernel_rfl)) (fun _ _ _ h => h) (Or.inr ⟨by rfl, rfl⟩) ?_ ?_
           rotate_left
           · simp only [qa_, qb_, qc_, qd_, i64_w, i32_w]; rfl
           refine pure_ (i := 17) (N := some 65) (v := undef) (a' := ?_) bb1_18 rfl rfl (any_of HT_.out (by kernel_rfl)) (fun _ _ _ h => h) (Or.inr ⟨by rfl, rfl⟩) ?_ ?_
           rotate_left
           · simp only [qa_, qb_, qc_, qd_, i64_w, i32_w]; rfl
           refine pure_ (i := 18) (N := some 66) (v := undef) (a' := ?_) bb1_19 rfl rfl (any_of HT_.out (by kernel_rfl)) (fun _ _ _ h => h) (Or.inr ⟨by rfl, rfl⟩) ?_ ?_
           rotate_left
           · simp only [qa_, qb_, qc_, qd_, i64_w, i32_w]; rfl
           refine pure_ (i := 19) (N := some 67) (v := undef) (a' := ?_) bb1_20 rfl rfl (any_of HT_.out (by kernel_rfl)) (fun _ _ _ h => h) (Or.inr ⟨by rfl, rfl⟩) ?_ ?_
           rotate_left
           · simp only [qa_, qb_, qc_, qd_, i64_w, i32_w]; rfl
           refine pure_ (i := 20) (N := some 68) (v := undef) (a' := ?_) bb1_21 rfl rfl (any_of HT_.out (by kernel_rfl)) (fun _ _ _ h => h) (Or.inr ⟨by rfl, rfl⟩) ?_ ?_
           rotate_left
           · simp only [qa_, qb_, qc_, qd_, i64_w, i32_w]; rfl
           refine pure_ (i := 21) (N := some 69) (v := undef) (a' := ?_) bb1_22 rfl rfl (any_of HT_.out (by kernel_rfl)) (fun _ _ _ h => h) (Or.inr ⟨by rfl, rfl⟩) ?_ ?_
           rotate_left
           · simp only [qa_, qb_, qc_, qd_, i64_w, i32_w]; rfl
           refine pure_ (i := 22) (N := some 70) (v := undef) (a' := ?_) bb1_23 rfl rfl (any_of HT_.out (by kernel_rfl)) (fun _ _ _ h => h) (Or.inr ⟨by rfl, rfl⟩) ?_ ?_
           rotate_left
           · simp only [qa_, qb_, qc_, qd_, i64_w, i32_w]; rfl
           refine pure_ (i := 23) (N := some 71) (v := undef) (a' := ?_) bb1_24 rfl rfl (any_of HT_.out (by kernel_rfl)) (fun _ _ _ h => h) (Or.inr ⟨by rfl, rfl⟩) ?_ ?_
           rotate_left
           · simp only [qa_, qb_, qc_, qd_, i64_w, i32_w]; rfl
           refine pure_ (i := 24) (N := some 72) (v := undef) (a' := ?_) bb1_25 rfl rfl (any_of HT_.out (by kernel_rfl)) (fun _ _ _ h => h) (Or.inr ⟨by rfl, rfl⟩) ?_ ?_
           rotate_left
           · simp only [qa_, qb_, qc_, qd_, i64_w, i32_w]; rfl
           refine pure_ (i := 25) (N := some 73) (v := undef) (a' := ?_) bb1_26 rfl rfl (any_of HT_.out (by kernel_rfl)) (fun _ _ _ h => h) (Or.inr ⟨by rfl, rfl⟩) ?_ ?_
           rotate_left
           · simp only [qa_, qb_, qc_, qd_, i64_w, i32_w]; rfl
           refine pure_ (i := 26) (N := some 74) (v := ?_) (a' := ?_) bb1_27 rfl rfl (any_of HT_.out (by kernel_rfl)) (fun _ _ _ h => h) (Or.inl ⟨by rfl, ?_⟩) ?_ ?_
           rotate_left
           · intro w'; go_simp; with_reducible rfl
           rotate_left
           · simp only [qa_, qb_, qc_, qd_, i64_w, i32_w]; rfl
           refine pure_ (i := 27) (N := some 75) (v := ?_) (a' := ?_) bb1_28 rfl rfl (any_of HT_.out (by kernel_rfl)) (fun _ _ _ h => h) (Or.inl ⟨by rfl, ?_⟩) ?_ ?_
           rotate_left
           · intro w'; go_simp; with_reducible rfl
           rotate_left
           · simp only [qa_, qb_, qc_, qd_, i64_w, i32_w]; rfl
           refine pure_ (i := 28) (N := some 76) (v := ?_) (a' := ?_) bb1_29 rfl rfl (any_of HT_.out (by kernel_rfl)) (fun _ _ _ h => h) (Or.inl ⟨by rfl, ?_⟩) ?_ ?_
           rotate_left
           · intro w'; go_simp; with_reducible rfl
           rotate_left
           · simp only [qa_, qb_, qc_, qd_, i64_w, i32_w]; rfl
           refine pure_ (i := 29) (N := some 77) (v := ?_) (a' := ?_) bb1_30 rfl rfl (any_of HT_.out (by kernel_rfl)) (fun _ _ _ h => h) (Or.inl ⟨by rfl, ?_⟩) ?_ ?_
           rotate_left
           · intro w'; go_simp; with_reducible rfl
           rotate_left
           · simp only [qa_, qb_, qc_, qd_, i64_w, i32_w]; rfl
           refine pure_ (i := 30) (N := some 78) (v := ?_) (a' := ?_) bb1_31 rfl rfl (any_of HT_.out (by kernel_rfl)) (fun _ _ _ h => h) (Or.inl ⟨by rfl, ?_⟩) ?_ ?_
           rotate_left
           · intro w'; go_simp; with_reducible rfl
           rotate_left
           · simp only [qa_, qb_, qc_, qd_, i64_w, i32_w]; rfl
           refine pure_ (i := 31) (N := some 79) (v := ?_) (a' := ?_) bb1_32 rfl rfl (any_of HT_.out (by kernel_rfl)) (fun _ _ _ h => h) (Or.inl ⟨by rfl, ?_⟩) ?_ ?_
           rotate_left
           · intro w'; go_simp; with_reducible rfl
           rotate_left
           · simp only [qa_, qb_, qc_, qd_, i64_w, i32_w]; rfl
           refine pure_ (i := 32) (N := some 80) (v := ?_) (a' := ?_) bb1_33 rfl rfl (any_of HT_.out (by kernel_rfl)) (fun _ _ _ h => h) (Or.inl ⟨by rfl, ?_⟩) ?_ ?_
           rotate_left
           · intro w'; go_simp; with_reducible rfl
           rotate_left
           · simp only [qa_, qb_, qc_, qd_, i64_w, i32_w]; rfl
           refine take_ (i := 33) (N := some 81) (v := ?_) (a' := ?_) bb1_34 rfl rfl (take_ofW HT_.out HW_.out (by kernel_rfl)) (fun _ _ _ h => h) (Or.inl ⟨by rfl, ?_⟩) hHeld ?_ ?_
           rotate_left
           · rintro w' ⟨s0, s1, s2⟩; go_simp; with_reducible rfl
           rotate_left
           · simp only [qa_, qb_, qc_, qd_, i64_w, i32_w]; rfl
           refine one_ (i := 34) (N := some 82) bb1_35 rfl rfl (one_of HT_.out (by kernel_rfl)) (by decide) (fun K hK => ?_)
           refine goes_ Tryd.func35 (by kernel_rfl) rfl #[.slice Ao42 y330.length co42, .int .i64 (rd t323 x7_1)] (by rfl) rfl rfl (by (try simp only [List.map_toArray, List.map_cons, List.map_nil]); first | done | rfl | (simp only [List.length_drop, List.length_take]; rfl)) ?_
           with_reducible refine (cleatlaw04_has.calls k1 _ _ y330 (rd t323 x7_1) true _ ?side1 ?side2 A39.out).mono ?_
           (case side1 => repeat (first | exact (Kd.R_reads' HO_6.out).2.2 | (with_reducible refine Kd.C_alloc ?_ _) | (with_reducible refine Kd.C_drewN ?_ _) | (with_reducible refine Kd.C_drew ?_)))
           (case side2 => exact (Kd.R_reads' HO_6.out).2.1)
           rintro e w' ⟨rfl, ⟨nd, rfl⟩⟩
           refine ⟨_, rfl, ?_⟩
           refine hK.out _ _ ⟨hHeld.1, hHeld.2.1, hHeld.2.2⟩ (fun hHeld => ?_)
           clear hK K
           refine norm_ (a' := ?_) ?_ ?_
           rotate_left
           ·
            show Act.put _ (some 82) _ = _
            simp only [qa_, qb_, qc_, qd_, i64_w, i32_w]
            rfl
           refine pure_ (i := 35) (N := some 83) (v := ?_) (a' := ?_) bb1_36 rfl rfl (any_of HT_.out (by kernel_rfl)) (fun _ _ _ h => h) (Or.inl ⟨by rfl, ?_⟩) ?_ ?_
           rotate_left
           · intro w'; go_simp; with_reducible rfl
           rotate_left
           · simp only [qa_, qb_, qc_, qd_, i64_w, i32_w]; rfl
           refine pure_ (i := 36) (N := some 84) (v := ?_) (a' := ?_) bb1_37 rfl rfl (any_of HT_.out (by kernel_rfl)) (fun _ _ _ h => h) (Or.inl ⟨by rfl, ?_⟩) ?_ ?_
           rotate_left
           · intro w'; go_simp; with_reducible rfl
           rotate_left
           · simp only [qa_, qb_, qc_, qd_, i64_w, i32_w]; rfl
           refine pure_ (i := 37) (N := some 85) (v := undef) (a' := ?_) bb1_38 rfl rfl (any_of HT_.out (by kernel_rfl)) (fun _ _ _ h => h) (Or.inr ⟨by rfl, rfl⟩) ?_ ?_
           rotate_left
           · simp only [qa_, qb_, qc_, qd_, i64_w, i32_w]; rfl
           refine pure_ (i := 38) (N := some 86) (v := undef) (a' := ?_) bb1_39 rfl rfl (any_of HT_.out (by kernel_rfl)) (fun _ _ _ h => h) (Or.inr ⟨by rfl, rfl⟩) ?_ ?_
           rotate_left
           · simp only [qa_, qb_, qc_, qd_, i64_w, i32_w]; rfl
           refine pure_ (i := 39) (N := some 87) (v := undef) (a' := ?_) bb1_40 rfl rfl (any_of HT_.out (by kernel_rfl)) (fun _ _ _ h => h) (Or.inr ⟨by rfl, rfl⟩) ?_ ?_
           rotate_left
           · simp only [qa_, qb_, qc_, qd_, i64_w, i32_w]; rfl
           refine pure_ (i := 40) (N := some 88) (v := undef) (a' := ?_) bb1_41 rfl rfl (any_of HT_.out (by kernel_rfl)) (fun _ _ _ h => h) (Or.inr ⟨by rfl, rfl⟩) ?_ ?_
           rotate_left
           · simp only [qa_, qb_, qc_, qd_, i64_w, i32_w]; rfl
           refine pure_ (i := 41) (N := some 89) (v := undef) (a' := ?_) bb1_42 rfl rfl (any_of HT_.out (by kernel_rfl)) (fun _ _ _ h => h) (Or.inr ⟨by rfl, rfl⟩) ?_ ?_
           rotate_left
           · simp only [qa_, qb_, qc_, qd_, i64_w, i32_w]; rfl
           refine pure_ (i := 42) (N := some 90) (v := undef) (a' := ?_) bb1_43 rfl rfl (any_of HT_.out (by kernel_rfl)) (fun _ _ _ h => h) (Or.inr ⟨by rfl, rfl⟩) ?_ ?_
           rotate_left
           · simp only [qa_, qb_, qc_, qd_, i64_w, i32_w]; rfl
           refine pure_ (i := 43) (N := some 91) (v := undef) (a' := ?_) bb1_44 rfl rfl (any_of HT_.out (by kernel_rfl)) (fun _ _ _ h => h) (Or.inr ⟨by rfl, rfl⟩) ?_ ?_
           rotate_left
           · simp only [qa_, qb_, qc_, qd_, i64_w, i32_w]; rfl
           refine pure_ (i := 44) (N := some 92) (v := undef) (a' := ?_) bb1_45 rfl rfl (any_of HT_.out (by kernel_rfl)) (fun _ _ _ h => h) (Or.inr ⟨by rfl, rfl⟩) ?_ ?_
           rotate_left
           · simp only [qa_, qb_, qc_, qd_, i64_w, i32_w]; rfl
           refine pure_ (i := 45) (N := some 93) (v := undef) (a' := ?_) bb1_46 rfl rfl (any_of HT_.out (by kernel_rfl)) (fun _ _ _ h => h) (Or.inr ⟨by rfl, rfl⟩) ?_ ?_
           rotate_left
           · simp only [qa_, qb_, qc_, qd_, i64_w, i32_w]; rfl
           refine pure_ (i := 46) (N := some 94) (v := undef) (a' := ?_) bb1_47 rfl rfl (any_of HT_.out (by kernel_rfl)) (fun _ _ _ h => h) (Or.inr ⟨by rfl, rfl⟩) ?_ ?_
           rotate_left
           · simp only [qa_, qb_, qc_, qd_, i64_w, i32_w]; rfl
           refine pure_ (i := 47) (N := some 95) (v := ?_) (a' := ?_) bb1_48 rfl rfl (any_of HT_.out (by kernel_rfl)) (fun _ _ _ h => h) (Or.inl ⟨by rfl, ?_⟩) ?_ ?_
           rotate_left
           · intro w'; go_simp; with_reducible rfl
           rotate_left
           · simp only [qa_, qb_, qc_, qd_, i64_w, i32_w]; rfl
           refine pure_ (i := 48) (N := some 96) (v := ?_) (a' := ?_) bb1_49 rfl rfl (any_of HT_.out (by kernel_rfl)) (fun _ _ _ h => h) (Or.inl ⟨by rfl, ?_⟩) ?_ ?_
           rotate_left
           · intro w'; go_simp; with_reducible rfl
           rotate_left
           · simp only [qa_, qb_, qc_, qd_, i64_w, i32_w]; rfl
           refine done_ (done_of HT_.out (by kernel_rfl)) ?_
           try go_wp2
           go_meet
           case rel => exact ⟨_, (false), (by first | rfl | (simp; done) | (simp [*]; done)), H', ⟨by have := HK1.out; first | omega | exact Nat.le_refl _⟩, ⟨by (with_reducible repeat (first | apply Kd.R_alloc | apply Kd.R_drewN | apply Kd.R_drew)); exact HO_3.out⟩, ⟨by (with_reducible repeat (first | apply Kd.R_alloc | apply Kd.R_drewN | apply Kd.R_drew)); exact HO_6.out⟩, ⟨by (with_reducible repeat (first | refine blk_drewN ?_ _ | refine blk_drew ?_ | refine blk_alloc ?_ _)); exact BK322.out⟩, ⟨by repeat (first | (with_reducible first | exact HB.out | apply below_alloc | apply pw_below_drewN | apply below_drew1 | refine below_set ?_ GE322.out) | exact HB.out)⟩⟩
          ·
           replace c40 := Bool.eq_false_iff.mpr c40
           subst c40
           have H1 : (if a0_0 = 37 then (cleatlaw04_InstOwn.j1 k1 t323 t326 t327 y330 x7_1 ((rd t323 x7_1) != 0) a0_0 a0_1 a0_2 a0_3 a0_4 a0_5 a0_6 a0_7 a0_8 a0_9) else (cleatlaw04_InstOwn.j1 k1 t323 t326 t327 y330 x7_1 true a0_0 a0_1 a0_2 a0_3 a0_4 a0_5 a0_6 a0_7 a0_8 a0_9)) = some r := by rw [if_neg (show ¬ (false = true) by decide)] at H; exact H
           clear H
           have H := H1
           clear H1
           by_cases c43 : a0_0 = 37
           ·
            rw [if_pos c43] at H
            have c43b0 : (a0_0 == 37) = true := beq_iff_eq.mpr c43
            have c43b1 : (a0_0 != 37) = false := bne_eq_false_iff_eq.mpr c43
            clear c43
            have H' := Aside0.mk H
            clear H
            try go_wp2
            have n0_ := Aside0.mk (Kd.R_drew HO_3.out)
            have n1_ := Aside0.mk (Kd.R_drew HO_6.out)
            have n2_ := Aside0.mk (blk_drew BK322.out)
            have n3_ := Aside0.mk (below_drew1 HB.out)
            clear HO_3
            clear HO_6
            clear BK322
            clear HB
            have HO_3 := n0_
            have HO_6 := n1_
            have BK322 := n2_
            have HB := n3_
            clear n0_ n1_ n2_ n3_
            have p333 : 0 ≤ (x7_1 : Int) := of_decide_eq_true (by first | (with_reducible assumption) | assumption)
            have q333 : x7_1 < (t323.length : Int) := of_decide_eq_true (by first | (with_reducible assumption) | assumption)
            obtain ⟨ad333, e333, hx333_0⟩ := Kd.at_int (Kd.R_reads' HO_3.out).2.2 x7_1 p333 q333
            cases e333
            replace p333 := eq_true p333
            replace q333 := eq_true q333
            have p334 : 0 ≤ (x7_1 : Int) := of_decide_eq_true (by first | (with_reducible assumption) | assumption)
            have q334 : x7_1 < (t323.length : Int) := of_decide_eq_true (by first | (with_reducible assumption) | assumption)
            obtain ⟨ad334, e334, hx334_0⟩ := Kd.at_int (Kd.R_reads' HO_3.out).2.2 x7_1 p334 q334
            obtain rfl : ad333 = ad334 := (by injection e334)
            replace p334 := eq_true p334
            replace q334 := eq_true q334
            have p340 : 0 ≤ (x7_1 : Int) := of_decide_eq_true (by first | (with_reducible assumption) | assumption)
            have q340 : x7_1 < (t323.length : Int) := of_decide_eq_true (by first | (with_reducible assumption) | assumption)
            obtain ⟨ad340, e340, hx340_0⟩ := Kd.at_int (Kd.R_reads' HO_3.out).2.2 x7_1 p340 q340
            obtain rfl : ad333 = ad340 := (by injection e340)
            replace p340 := eq_true p340
            replace q340 := eq_true q340
            obtain ⟨Ao45, co45, eo45⟩ := Kd.R_slice HO_6.out
            (first | subst eo45 | (injection eo45 with f1_ f2_ f3_; have f4_ := f1_.symm; have f5_ := f3_.symm; clear f1_ f2_ f3_; subst f4_; subst f5_))
            have p342 : 0 ≤ (x7_1 : Int) := of_decide_eq_true (by first | (with_reducible assumption) | assumption)
            have q342 : x7_1 < (t323.length : Int) := of_decide_eq_true (by first | (with_reducible assumption) | assumption)
            obtain ⟨ad342, e342, hx342_0⟩ := Kd.at_int (Kd.R_reads' HO_3.out).2.2 x7_1 p342 q342
            obtain rfl : ad333 = ad342 := (by injection e342)
            replace p342 := eq_true p342
            replace q342 := eq_true q342
            refine start_ (n := 49) (S := fun w' => w'.cell? ⟨gb322, 0, none⟩ = some (.int .i64 a0_0) ∧ w'.cell? ⟨gb322, 1, none⟩ = some (.int .i64 a0_1) ∧ w'.cell? ⟨gb322, 2, none⟩ = some (.int .i64 a0_2) ∧ w'.cell? ⟨gb322, 3, none⟩ = some (.int .i64 a0_3) ∧ w'.cell? ⟨gb322, 4, none⟩ = some (.int .i64 a0_4) ∧ w'.cell? ⟨gb322, 5, none⟩ = some (.int .i64 a0_5) ∧ w'.cell? ⟨gb322, 6, none⟩ = some (.int .u64 a0_6) ∧ w'.cell? ⟨gb322, 7, none⟩ = some (.int .i64 a0_7) ∧ w'.cell? ⟨gb322, 8, none⟩ = some (.int .i64 a0_8) ∧ w'.cell? ⟨gb322, 9, none⟩ = some (.int .i64 a0_9) ∧ w'.cell? (ad333.add (x7_1).toNat) = some (.int .i64 (rd t323 x7_1)) ∧ w'.cell? (ad333.add (x7_1).toNat) = some (.int .i64 (rd t323 x7_1)) ∧ w'.cell? (ad333.add (x7_1).toNat) = some (.int .i64 (rd t323 x7_1)) ∧ w'.cell? (ad333.add (x7_1).toNat) = some (.int .i64 (rd t323 x7_1))) (ds := []) bb1_0 (by kernel_rfl) rfl rfl ⟨(blk_cell BK322.out 0).trans rfl, (blk_cell BK322.out 1).trans rfl, (blk_cell BK322.out 2).trans rfl, (blk_cell BK322.out 3).trans rfl, (blk_cell BK322.out 4).trans rfl, (blk_cell BK322.out 5).trans rfl, (blk_cell BK322.out 6).trans rfl, (blk_cell BK322.out 7).trans rfl, (blk_cell BK322.out 8).trans rfl, (blk_cell BK322.out 9).trans rfl, hx333_0, hx334_0, hx340_0, hx342_0⟩ (fun hHeld => ?_); refine with_tabW cleatlaw04_InstOwn.tab9 cleatlaw04_InstOwn.bits9 (fun HT_ HW_ => ?_)
            generalize wr.drew = w44 at HO_3 HO_6 BK322 HB hx333_0 hx334_0 hx340_0 hx342_0 hHeld ⊢
            refine pure_ (i := 0) (N := some 48) (v := ?_) (a' := ?_) bb1_1 rfl rfl (any_of HT_.out (by kernel_rfl)) (fun _ _ _ h => h) (Or.inl ⟨by rfl, ?_⟩) ?_ ?_
            rotate_left
            · intro w'; go_simp; with_reducible rfl
            rotate_left
            · simp only [qa_, qb_, qc_, qd_, i64_w, i32_w]; rfl
            refine pure_ (i := 1) (N := some 49) (v := ?_) (a' := ?_) bb1_2 rfl rfl (any_of HT_.out (by kernel_rfl)) (fun _ _ _ h => h) (Or.inl ⟨by rfl, ?_⟩) ?_ ?_
            rotate_left
            · intro w'; go_simp; with_reducible rfl
            rotate_left
            · simp only [qa_, qb_, qc_, qd_, i64_w, i32_w]; rfl
            refine pure_ (i := 2) (N := some 50) (v := ?_) (a' := ?_) bb1_3 rfl rfl (any_of HT_.out (by kernel_rfl)) (fun _ _ _ h => h) (Or.inl ⟨by rfl, ?_⟩) ?_ ?_
            rotate_left
            · intro w'; go_simp; with_reducible rfl
            rotate_left
            · simp only [qa_, qb_, qc_, qd_, i64_w, i32_w]; rfl
            refine take_ (i := 3) (N := some 51) (v := ?_) (a' := ?_) bb1_4 rfl rfl (take_ofW HT_.out HW_.out (by kernel_rfl)) (fun _ _ _ h => h) (Or.inl ⟨by rfl, ?_⟩) hHeld ?_ ?_
            rotate_left
            · rintro w' ⟨s0, s1, s2, s3, s4, s5, s6, s7, s8, s9, s10, s11, s12, s13⟩; go_simp; with_reducible rfl
            rotate_left
            · simp only [qa_, qb_, qc_, qd_, i64_w, i32_w]; rfl
            refine pure_ (i := 4) (N := some 52) (v := ?_) (a' := ?_) bb1_5 rfl rfl (any_of HT_.out (by kernel_rfl)) (fun _ _ _ h => h) (Or.inl ⟨by rfl, ?_⟩) ?_ ?_
            rotate_left
            · intro w'; go_simp; with_reducible rfl
            rotate_left
            · simp only [qa_, qb_, qc_, qd_, i64_w, i32_w]; rfl
            refine pure_ (i := 5) (N := some 53) (v := ?_) (a' := ?_) bb1_6 rfl rfl (any_of HT_.out (by kernel_rfl)) (fun _ _ _ h => h) (Or.inl ⟨by rfl, ?_⟩) ?_ ?_
            rotate_left
            · intro w'; go_simp; with_reducible rfl
            rotate_left
            · simp only [qa_, qb_, qc_, qd_, i64_w, i32_w]; rfl
            refine pure_ (i := 6) (N := some 54) (v := ?_) (a' := ?_) bb1_7 rfl rfl (any_of HT_.out (by kernel_rfl)) (fun _ _ _ h => h) (Or.inl ⟨by rfl, ?_⟩) ?_ ?_
            rotate_left
            · intro w'; go_simp; with_reducible rfl
            rotate_left
            · simp only [qa_, qb_, qc_, qd_, i64_w, i32_w]; rfl
            refine pure_ (i := 7) (N := some 55) (v := ?_) (a' := ?_) bb1_8 rfl rfl (any_of HT_.out (by kernel_rfl)) (fun _ _ _ h => h) (Or.inl ⟨by rfl, ?_⟩) ?_ ?_
            rotate_left
            · intro w'; go_simp; with_reducible rfl
            rotate_left
            · simp only [qa_, qb_, qc_, qd_, i64_w, i32_w]; rfl
            refine pure_ (i := 8) (N := some 56) (v := ?_) (a' := ?_) bb1_9 rfl rfl (any_of HT_.out (by kernel_rfl)) (fun _ _ _ h => h) (Or.inl ⟨by rfl, ?_⟩) ?_ ?_
            rotate_left
            · intro w'; go_simp; with_reducible rfl
            rotate_left
            · simp only [qa_, qb_, qc_, qd_, i64_w, i32_w]; rfl
            refine take_ (i := 9) (N := some 57) (v := ?_) (a' := ?_) bb1_10 rfl rfl (take_ofW HT_.out HW_.out (by kernel_rfl)) (fun _ _ _ h => h) (Or.inl ⟨by rfl, ?_⟩) hHeld ?_ ?_
            rotate_left
            · rintro w' ⟨s0, s1, s2, s3, s4, s5, s6, s7, s8, s9, s10, s11, s12, s13⟩; go_simp; with_reducible rfl
            rotate_left
            · simp only [qa_, qb_, qc_, qd_, i64_w, i32_w]; rfl
            refine pure_ (i := 10) (N := some 58) (v := ?_) (a' := ?_) bb1_11 rfl rfl (any_of HT_.out (by kernel_rfl)) (fun _ _ _ h => h) (Or.inl ⟨by rfl, ?_⟩) ?_ ?_
            rotate_left
            · intro w'; go_simp; with_reducible rfl
            rotate_left
            · simp only [qa_, qb_, qc_, qd_, i64_w, i32_w]; rfl
            refine pure_ (i := 11) (N := some 59) (v := ?_) (a' := ?_) bb1_12 rfl rfl (any_of HT_.out (by kernel_rfl)) (fun _ _ _ h => h) (Or.inl ⟨by rfl, ?_⟩) ?_ ?_
            rotate_left
            · intro w'; go_simp; with_reducible rfl
            rotate_left
            · simp only [qa_, qb_, qc_, qd_, i64_w, i32_w]; rfl
            refine pure_ (i := 12) (N := some 60) (v := ?_) (a' := ?_) bb1_13 rfl rfl (any_of HT_.out (by kernel_rfl)) (fun _ _ _ h => h) (Or.inl ⟨by rfl, ?_⟩) ?_ ?_
            rotate_left
            · intro w'; go_simp; with_reducible rfl
            rotate_left
            · simp only [qa_, qb_, qc_, qd_, i64_w, i32_w]; rfl
            refine pure_ (i := 13) (N := some 61) (v := ?_) (a' := ?_) bb1_14 rfl rfl (any_of HT_.out (by kernel_rfl)) (fun _ _ _ h => h) (Or.inl ⟨by rfl, ?_⟩) ?_ ?_
            rotate_left
            · intro w'; go_simp; with_reducible rfl
            rotate_left
            · simp only [qa_, qb_, qc_, qd_, i64_w, i32_w]; rfl
            refine pure_ (i := 14) (N := some 62) (v := ?_) (a' := ?_) bb1_15 rfl rfl (any_of HT_.out (by kernel_rfl)) (fun _ _ _ h => h) (Or.inl ⟨by rfl, ?_⟩) ?_ ?_
            rotate_left
            · intro w'; go_simp; with_reducible rfl
            rotate_left
            · simp only [qa_, qb_, qc_, qd_, i64_w, i32_w]; rfl
            refine pure_ (i := 15) (N := some 63) (v := ?_) (a' := ?_) bb1_16 rfl rfl (any_of HT_.out (by kernel_rfl)) (fun _ _ _ h => h) (Or.inl ⟨by rfl, ?_⟩) ?_ ?_
            rotate_left
            · intro w'; go_simp; with_reducible rfl
            rotate_left
            · simp only [qa_, qb_, qc_, qd_, i64_w, i32_w]; rfl
            refine pure_ (i := 16) (N := some 64) (v := undef) (a' := ?_) bb1_17 rfl rfl (any_of HT_.out (by kernel_rfl)) (fun _ _ _ h => h) (Or.inr ⟨by rfl, rfl⟩) ?_ ?_
            rotate_left
            · simp only [qa_, qb_, qc_, qd_, i64_w, i32_w]; rfl
            refine pure_ (i := 17) (N := some 65) (v := undef) (a' := ?_) bb1_18 rfl rfl (any_of HT_.out (by kernel_rfl)) (fun _ _ _ h => h) (Or.inr ⟨by rfl, rfl⟩) ?_ ?_
            rotate_left
            · simp only [qa_, qb_, qc_, qd_, i64_w, i32_w]; rfl
            refine pure_ (i := 18) (N := some 66) (v := undef) (a' := ?_) bb1_19 rfl rfl (any_of HT_.out (by kernel_rfl)) (fun _ _ _ h => h) (Or.inr ⟨by rfl, rfl⟩) ?_ ?_
            rotate_left
            · simp only [qa_, qb_, qc_, qd_, i64_w, i32_w]; rfl
            refine pure_ (i := 19) (N := some 67) (v := undef) (a' := ?_) bb1_20 rfl rfl (any_of HT_.out (by kernel_rfl)) (fun _ _ _ h => h) (Or.inr ⟨by rfl, rfl⟩) ?_ ?_
            rotate_left
            · simp only [qa_, qb_, qc_, qd_, i64_w, i32_w]; rfl
            refine pure_ (i := 20) (N := some 68) (v := undef) (a' := ?_) bb1_21 rfl rfl (any_of HT_.out (by kernel_rfl)) (fun _ _ _ h => h) (Or.inr ⟨by rfl, rfl⟩) ?_ ?_
            rotate_left
            · simp only [qa_, qb_, qc_, qd_, i64_w, i32_w]; rfl
            refine pure_ (i := 21) (N := some 69) (v := undef) (a' := ?_) bb1_22 rfl rfl (any_of HT_.out (by kernel_rfl)) (fun _ _ _ h => h) (Or.inr ⟨by rfl, rfl⟩) ?_ ?_
            rotate_left
            · simp only [qa_, qb_, qc_, qd_, i64_w, i32_w]; rfl
            refine pure_ (i := 22) (N := some 70) (v := undef) (a' := ?_) bb1_23 rfl rfl (any_of HT_.out (by kernel_rfl)) (fun _ _ _ h => h) (Or.inr ⟨by rfl, rfl⟩) ?_ ?_
            rotate_left
            · simp only [qa_, qb_, qc_, qd_, i64_w, i32_w]; rfl
            refine pure_ (i := 23) (N := some 71) (v := undef) (a' := ?_) bb1_24 rfl rfl (any_of HT_.out (by kernel_rfl)) (fun _ _ _ h => h) (Or.inr ⟨by rfl, rfl⟩) ?_ ?_
            rotate_left
            · simp only [qa_, qb_, qc_, qd_, i64_w, i32_w]; rfl
            refine pure_ (i := 24) (N := some 72) (v := undef) (a' := ?_) bb1_25 rfl rfl (any_of HT_.out (by kernel_rfl)) (fun _ _ _ h => h) (Or.inr ⟨by rfl, rfl⟩) ?_ ?_
            rotate_left
            · simp only [qa_, qb_, qc_, qd_, i64_w, i32_w]; rfl
            refine pure_ (i := 25) (N := some 73) (v := undef) (a' := ?_) bb1_26 rfl rfl (any_of HT_.out (by kernel_rfl)) (fun _ _ _ h => h) (Or.inr ⟨by rfl, rfl⟩) ?_ ?_
            rotate_left
            · simp only [qa_, qb_, qc_, qd_, i64_w, i32_w]; rfl
            refine pure_ (i := 26) (N := some 74) (v := ?_) (a' := ?_) bb1_27 rfl rfl (any_of HT_.out (by kernel_rfl)) (fun _ _ _ h => h) (Or.inl ⟨by rfl, ?_⟩) ?_ ?_
            rotate_left
            · intro w'; go_simp; with_reducible rfl
            rotate_left
            · simp only [qa_, qb_, qc_, qd_, i64_w, i32_w]; rfl
            refine pure_ (i := 27) (N := some 75) (v := ?_) (a' := ?_) bb1_28 rfl rfl (any_of HT_.out (by kernel_rfl)) (fun _ _ _ h => h) (Or.inl ⟨by rfl, ?_⟩) ?_ ?_
            rotate_left
            · intro w'; go_simp; with_reducible rfl
            rotate_left
            · simp only [qa_, qb_, qc_, qd_, i64_w, i32_w]; rfl
            refine pure_ (i := 28) (N := some 76) (v := ?_) (a' := ?_) bb1_29 rfl rfl (any_of HT_.out (by kernel_rfl)) (fun _ _ _ h => h) (Or.inl ⟨by rfl, ?_⟩) ?_ ?_
            rotate_left
            · intro w'; go_simp; with_reducible rfl
            rotate_left
            · simp only [qa_, qb_, qc_, qd_, i64_w, i32_w]; rfl
            refine pure_ (i := 29) (N := some 77) (v := ?_) (a' := ?_) bb1_30 rfl rfl (any_of HT_.out (by kernel_rfl)) (fun _ _ _ h => h) (Or.inl ⟨by rfl, ?_⟩) ?_ ?_
            rotate_left
            · intro w'; go_simp; with_reducible rfl
            rotate_left
            · simp only [qa_, qb_, qc_, qd_, i64_w, i32_w]; rfl
            refine pure_ (i := 30) (N := some 78) (v := ?_) (a' := ?_) bb1_31 rfl rfl (any_of HT_.out (by kernel_rfl)) (fun _ _ _ h => h) (Or.inl ⟨by rfl, ?_⟩) ?_ ?_
            rotate_left
            · intro w'; go_simp; with_reducible rfl
            rotate_left
            · simp only [qa_, qb_, qc_, qd_, i64_w, i32_w]; rfl
            refine pure_ (i := 31) (N := some 79) (v := ?_) (a' := ?_) bb1_32 rfl rfl (any_of HT_.out (by kernel_rfl)) (fun _ _ _ h => h) (Or.inl ⟨by rfl, ?_⟩) ?_ ?_
            rotate_left
            · intro w'; go_simp; with_reducible rfl
            rotate_left
            · simp only [qa_, qb_, qc_, qd_, i64_w, i32_w]; rfl
            refine pure_ (i := 32) (N := some 80) (v := ?_) (a' := ?_) bb1_33 rfl rfl (any_of HT_.out (by kernel_rfl)) (fun _ _ _ h => h) (Or.inl ⟨by rfl, ?_⟩) ?_ ?_
            rotate_left
            · intro w'; go_simp; with_reducible rfl
            rotate_left
            · simp only [qa_, qb_, qc_, qd_, i64_w, i32_w]; rfl
            refine take_ (i := 33) (N := some 81) (v := ?_) (a' := ?_) bb1_34 rfl rfl (take_ofW HT_.out HW_.out (by kernel_rfl)) (fun _ _ _ h => h) (Or.inl ⟨by rfl, ?_⟩) hHeld ?_ ?_
            rotate_left
            · rintro w' ⟨s0, s1, s2, s3, s4, s5, s6, s7, s8, s9, s10, s11, s12, s13⟩; go_simp; with_reducible rfl
            rotate_left
            · simp only [qa_, qb_, qc_, qd_, i64_w, i32_w]; rfl
            refine one_ (i := 34) (N := some 82) bb1_35 rfl rfl (one_of HT_.out (by kernel_rfl)) (by decide) (fun K hK => ?_)
            refine goes_ Tryd.func35 (by kernel_rfl) rfl #[.slice Ao45 y330.length co45, .int .i64 (rd t323 x7_1)] (by rfl) rfl rfl (by (try simp only [List.map_toArray, List.map_cons, List.map_nil]); first | done | rfl | (simp only [List.length_drop, List.length_take]; rfl)) ?_
            with_reducible refine (cleatlaw04_has.calls k1 _ _ y330 (rd t323 x7_1) false _ ?side1 ?side2 A39.out).mono ?_
            (case side1 => repeat (first | exact (Kd.R_reads' HO_6.out).2.2 | (with_reducible refine Kd.C_alloc ?_ _) | (with_reducible refine Kd.C_drewN ?_ _) | (with_reducible refine Kd.C_drew ?_)))
            (case side2 => exact (Kd.R_reads' HO_6.out).2.1)
            rintro e w' ⟨rfl, ⟨nd, rfl⟩⟩
            refine ⟨_, rfl, ?_⟩
            refine hK.out _ _ ⟨(blk_cell BK322.out 0).trans rfl, (blk_cell BK322.out 1).trans rfl, (blk_cell BK322.out 2).trans rfl, (blk_cell BK322.out 3).trans rfl, (blk_cell BK322.out 4).trans rfl, (blk_cell BK322.out 5).trans rfl, (blk_cell BK322.out 6).trans rfl, (blk_cell BK322.out 7).trans rfl, (blk_cell BK322.out 8).trans rfl, (blk_cell BK322.out 9).trans rfl, hHeld.2.2.2.2.2.2.2.2.2.2.1, hHeld.2.2.2.2.2.2.2.2.2.2.2.1, hHeld.2.2.2.2.2.2.2.2.2.2.2.2.1, hHeld.2.2.2.2.2.2.2.2.2.2.2.2.2⟩ (fun hHeld => ?_)
            clear hK K
            refine norm_ (a' := ?_) ?_ ?_
            rotate_left
            ·
             show Act.put _ (some 82) _ = _
             simp only [qa_, qb_, qc_, qd_, i64_w, i32_w]
             rfl
            refine pure_ (i := 35) (N := some 83) (v := ?_) (a' := ?_) bb1_36 rfl rfl (any_of HT_.out (by kernel_rfl)) (fun _ _ _ h => h) (Or.inl ⟨by rfl, ?_⟩) ?_ ?_
            rotate_left
            · intro w'; go_simp; with_reducible rfl
            rotate_left
            · simp only [qa_, qb_, qc_, qd_, i64_w, i32_w]; rfl
            refine pure_ (i := 36) (N := some 84) (v := ?_) (a' := ?_) bb1_37 rfl rfl (any_of HT_.out (by kernel_rfl)) (fun _ _ _ h => h) (Or.inl ⟨by rfl, ?_⟩) ?_ ?_
            rotate_left
            · intro w'; go_simp; with_reducible rfl
            rotate_left
            · simp only [qa_, qb_, qc_, qd_, i64_w, i32_w]; rfl
            refine pure_ (i := 37) (N := some 85) (v := ?_) (a' := ?_) bb1_38 rfl rfl (any_of HT_.out (by kernel_rfl)) (fun _ _ _ h => h) (Or.inl ⟨by rfl, ?_⟩) ?_ ?_
            rotate_left
            · intro w'; go_simp; with_reducible rfl
            rotate_left
            · simp only [qa_, qb_, qc_, qd_, i64_w, i32_w]; rfl
            refine take_ (i := 38) (N := some 86) (v := ?_) (a' := ?_) bb1_39 rfl rfl (take_ofW HT_.out HW_.out (by kernel_rfl)) (fun _ _ _ h => h) (Or.inl ⟨by rfl, ?_⟩) hHeld ?_ ?_
            rotate_left
            · rintro w' ⟨s0, s1, s2, s3, s4, s5, s6, s7, s8, s9, s10, s11, s12, s13⟩; go_simp; with_reducible rfl
            rotate_left
            · simp only [qa_, qb_, qc_, qd_, i64_w, i32_w]; rfl
            refine pure_ (i := 39) (N := some 87) (v := ?_) (a' := ?_) bb1_40 rfl rfl (any_of HT_.out (by kernel_rfl)) (fun _ _ _ h => h) (Or.inl ⟨by rfl, ?_⟩) ?_ ?_
            rotate_left
            · intro w'; go_simp; with_reducible rfl
            rotate_left
            · simp only [qa_, qb_, qc_, qd_, i64_w, i32_w]; rfl
            refine pure_ (i := 40) (N := some 88) (v := ?_) (a' := ?_) bb1_41 rfl rfl (any_of HT_.out (by kernel_rfl)) (fun _ _ _ h => h) (Or.inl ⟨by rfl, ?_⟩) ?_ ?_
            rotate_left
            · intro w'; go_simp; with_reducible rfl
            rotate_left
            · simp only [qa_, qb_, qc_, qd_, i64_w, i32_w]; rfl
            refine pure_ (i := 41) (N := some 89) (v := ?_) (a' := ?_) bb1_42 rfl rfl (any_of HT_.out (by kernel_rfl)) (fun _ _ _ h => h) (Or.inl ⟨by rfl, ?_⟩) ?_ ?_
            rotate_left
            · intro w'; go_simp; with_reducible rfl
            rotate_left
            · simp only [qa_, qb_, qc_, qd_, i64_w, i32_w]; rfl
            refine pure_ (i := 42) (N := some 90) (v := ?_) (a' := ?_) bb1_43 rfl rfl (any_of HT_.out (by kernel_rfl)) (fun _ _ _ h => h) (Or.inl ⟨by rfl, ?_⟩) ?_ ?_
            rotate_left
            · intro w'; go_simp; with_reducible rfl
            rotate_left
            · simp only [qa_, qb_, qc_, qd_, i64_w, i32_w]; rfl
            refine pure_ (i := 43) (N := some 91) (v := ?_) (a' := ?_) bb1_44 rfl rfl (any_of HT_.out (by kernel_rfl)) (fun _ _ _ h => h) (Or.inl ⟨by rfl, ?_⟩) ?_ ?_
            rotate_left
            · intro w'; go_simp; with_reducible rfl
            rotate_left
            · simp only [qa_, qb_, qc_, qd_, i64_w, i32_w]; rfl
            refine take_ (i := 44) (N := some 92) (v := ?_) (a' := ?_) bb1_45 rfl rfl (take_ofW HT_.out HW_.out (by kernel_rfl)) (fun _ _ _ h => h) (Or.inl ⟨by rfl, ?_⟩) hHeld ?_ ?_
            rotate_left
            · rintro w' ⟨s0, s1, s2, s3, s4, s5, s6, s7, s8, s9, s10, s11, s12, s13⟩; go_simp; with_reducible rfl
            rotate_left
            · simp only [qa_, qb_, qc_, qd_, i64_w, i32_w]; rfl
            refine pure_ (i := 45) (N := some 93) (v := ?_) (a' := ?_) bb1_46 rfl rfl (any_of HT_.out (by kernel_rfl)) (fun _ _ _ h => h) (Or.inl ⟨by rfl, ?_⟩) ?_ ?_
            rotate_left
            · intro w'; go_simp; with_reducible rfl
            rotate_left
            · simp only [qa_, qb_, qc_, qd_, i64_w, i32_w]; rfl
            refine pure_ (i := 46) (N := some 94) (v := ?_) (a' := ?_) bb1_47 rfl rfl (any_of HT_.out (by kernel_rfl)) (fun _ _ _ h => h) (Or.inl ⟨by rfl, ?_⟩) ?_ ?_
            rotate_left
            · intro w'; go_simp; with_reducible rfl
            rotate_left
            · simp only [qa_, qb_, qc_, qd_, i64_w, i32_w]; rfl
            refine pure_ (i := 47) (N := some 95) (v := ?_) (a' := ?_) bb1_48 rfl rfl (any_of HT_.out (by kernel_rfl)) (fun _ _ _ h => h) (Or.inl ⟨by rfl, ?_⟩) ?_ ?_
            rotate_left
            · intro w'; go_simp; with_reducible rfl
            rotate_left
            · simp only [qa_, qb_, qc_, qd_, i64_w, i32_w]; rfl
            refine pure_ (i := 48) (N := some 96) (v := ?_) (a' := ?_) bb1_49 rfl rfl (any_of HT_.out (by kernel_rfl)) (fun _ _ _ h => h) (Or.inl ⟨by rfl, ?_⟩) ?_ ?_
            rotate_left
            · intro w'; go_simp; with_reducible rfl
            rotate_left
            · simp only [qa_, qb_, qc_, qd_, i64_w, i32_w]; rfl
            refine done_ (done_of HT_.out (by kernel_rfl)) ?_
            try go_wp2
            go_meet
            case rel => exact ⟨_, (((rd t323 x7_1) != 0)), (by first | rfl | (simp; done) | (simp [*]; done)), H', ⟨by have := HK1.out; first | omega | exact Nat.le_refl _⟩, ⟨by (with_reducible repeat (first | apply Kd.R_alloc | apply Kd.R_drewN | apply Kd.R_drew)); exact HO_3.out⟩, ⟨by (with_reducible repeat (first | apply Kd.R_alloc | apply Kd.R_drewN | apply Kd.R_drew)); exact HO_6.out⟩, ⟨by (with_reducible repeat (first | refine blk_drewN ?_ _ | refine blk_drew ?_ | refine blk_alloc ?_ _)); exact BK322.out⟩, ⟨by repeat (first | (with_reducible first | exact HB.out | apply below_alloc | apply pw_below_drewN | apply below_drew1 | refine below_set ?_ GE322.out) | exact HB.out)⟩⟩
           ·
            rw [if_neg c43] at H
            have c43b0 : (a0_0 == 37) = false := beq_eq_false_iff_ne.mpr c43
            have c43b1 : (a0_0 != 37) = true := bne_iff_ne.mpr c43
            have H' := Aside0.mk H
            clear H
            try go_wp2
            have n0_ := Aside0.mk (Kd.R_drew HO_3.out)
            have n1_ := Aside0.mk (Kd.R_drew HO_6.out)
            have n2_ := Aside0.mk (blk_drew BK322.out)
            have n3_ := Aside0.mk (below_drew1 HB.out)
            clear HO_3
            clear HO_6
            clear BK322
            clear HB
            have HO_3 := n0_
            have HO_6 := n1_
            have BK322 := n2_
            have HB := n3_
            clear n0_ n1_ n2_ n3_
            have p333 : 0 ≤ (x7_1 : Int) := of_decide_eq_true (by first | (with_reducible assumption) | assumption)
            have q333 : x7_1 < (t323.length : Int) := of_decide_eq_true (by first | (with_reducible assumption) | assumption)
            obtain ⟨ad333, e333, hx333_0⟩ := Kd.at_int (Kd.R_reads' HO_3.out).2.2 x7_1 p333 q333
            cases e333
            replace p333 := eq_true p333
            replace q333 := eq_true q333
            have p334 : 0 ≤ (x7_1 : Int) := of_decide_eq_true (by first | (with_reducible assumption) | assumption)
            have q334 : x7_1 < (t323.length : Int) := of_decide_eq_true (by first | (with_reducible assumption) | assumption)
            obtain ⟨ad334, e334, hx334_0⟩ := Kd.at_int (Kd.R_reads' HO_3.out).2.2 x7_1 p334 q334
            obtain rfl : ad333 = ad334 := (by injection e334)
            replace p334 := eq_true p334
            replace q334 := eq_true q334
            have p340 : 0 ≤ (x7_1 : Int) := of_decide_eq_true (by first | (with_reducible assumption) | assumption)
            have q340 : x7_1 < (t323.length : Int) := of_decide_eq_true (by first | (with_reducible assumption) | assumption)
            obtain ⟨ad340, e340, hx340_0⟩ := Kd.at_int (Kd.R_reads' HO_3.out).2.2 x7_1 p340 q340
            obtain rfl : ad333 = ad340 := (by injection e340)
            replace p340 := eq_true p340
            replace q340 := eq_true q340
            obtain ⟨Ao47, co47, eo47⟩ := Kd.R_slice HO_6.out
            (first | subst eo47 | (injection eo47 with f1_ f2_ f3_; have f4_ := f1_.symm; have f5_ := f3_.symm; clear f1_ f2_ f3_; subst f4_; subst f5_))
            refine start_ (n := 49) (S := fun w' => w'.cell? ⟨gb322, 0, none⟩ = some (.int .i64 a0_0) ∧ w'.cell? ⟨gb322, 1, none⟩ = some (.int .i64 a0_1) ∧ w'.cell? ⟨gb322, 2, none⟩ = some (.int .i64 a0_2) ∧ w'.cell? ⟨gb322, 3, none⟩ = some (.int .i64 a0_3) ∧ w'.cell? ⟨gb322, 4, none⟩ = some (.int .i64 a0_4) ∧ w'.cell? ⟨gb322, 5, none⟩ = some (.int .i64 a0_5) ∧ w'.cell? ⟨gb322, 6, none⟩ = some (.int .u64 a0_6) ∧ w'.cell? ⟨gb322, 7, none⟩ = some (.int .i64 a0_7) ∧ w'.cell? ⟨gb322, 8, none⟩ = some (.int .i64 a0_8) ∧ w'.cell? ⟨gb322, 9, none⟩ = some (.int .i64 a0_9) ∧ w'.cell? (ad333.add (x7_1).toNat) = some (.int .i64 (rd t323 x7_1)) ∧ w'.cell? (ad333.add (x7_1).toNat) = some (.int .i64 (rd t323 x7_1)) ∧ w'.cell? (ad333.add (x7_1).toNat) = some (.int .i64 (rd t323 x7_1))) (ds := []) bb1_0 (by kernel_rfl) rfl rfl ⟨(blk_cell BK322.out 0).trans rfl, (blk_cell BK322.out 1).trans rfl, (blk_cell BK322.out 2).trans rfl, (blk_cell BK322.out 3).trans rfl, (blk_cell BK322.out 4).trans rfl, (blk_cell BK322.out 5).trans rfl, (blk_cell BK322.out 6).trans rfl, (blk_cell BK322.out 7).trans rfl, (blk_cell BK322.out 8).trans rfl, (blk_cell BK322.out 9).trans rfl, hx333_0, hx334_0, hx340_0⟩ (fun hHeld => ?_); refine with_tabW cleatlaw04_InstOwn.tab9 cleatlaw04_InstOwn.bits9 (fun HT_ HW_ => ?_)
            generalize wr.drew = w46 at HO_3 HO_6 BK322 HB hx333_0 hx334_0 hx340_0 hHeld ⊢
            refine pure_ (i := 0) (N := some 48) (v := ?_) (a' := ?_) bb1_1 rfl rfl (any_of HT_.out (by kernel_rfl)) (fun _ _ _ h => h) (Or.inl ⟨by rfl, ?_⟩) ?_ ?_
            rotate_left
            · intro w'; go_simp; with_reducible rfl
            rotate_left
            · simp only [qa_, qb_, qc_, qd_, i64_w, i32_w]; rfl
            refine pure_ (i := 1) (N := some 49) (v := ?_) (a' := ?_) bb1_2 rfl rfl (any_of HT_.out (by kernel_rfl)) (fun _ _ _ h => h) (Or.inl ⟨by rfl, ?_⟩) ?_ ?_
            rotate_left
            · intro w'; go_simp; with_reducible rfl
            rotate_left
            · simp only [qa_, qb_, qc_, qd_, i64_w, i32_w]; rfl
            refine pure_ (i := 2) (N := some 50) (v := ?_) (a' := ?_) bb1_3 rfl rfl (any_of HT_.out (by kernel_rfl)) (fun _ _ _ h => h) (Or.inl ⟨by rfl, ?_⟩) ?_ ?_
            rotate_left
            · intro w'; go_simp; with_reducible rfl
            rotate_left
            · simp only [qa_, qb_, qc_, qd_, i64_w, i32_w]; rfl
            refine take_ (i := 3) (N := some 51) (v := ?_) (a' := ?_) bb1_4 rfl rfl (take_ofW HT_.out HW_.out (by kernel_rfl)) (fun _ _ _ h => h) (Or.inl ⟨by rfl, ?_⟩) hHeld ?_ ?_
            rotate_left
            · rintro w' ⟨s0, s1, s2, s3, s4, s5, s6, s7, s8, s9, s10, s11, s12⟩; go_simp; with_reducible rfl
            rotate_left
            · simp only [qa_, qb_, qc_, qd_, i64_w, i32_w]; rfl
            refine pure_ (i := 4) (N := some 52) (v := ?_) (a' := ?_) bb1_5 rfl rfl (any_of HT_.out (by kernel_rfl)) (fun _ _ _ h => h) (Or.inl ⟨by rfl, ?_⟩) ?_ ?_
            rotate_left
            · intro w'; go_simp; with_reducible rfl
            rotate_left
            · simp only [qa_, qb_, qc_, qd_, i64_w, i32_w]; rfl
            refine pure_ (i := 5) (N := some 53) (v := ?_) (a' := ?_) bb1_6 rfl rfl (any_of HT_.out (by kernel_rfl)) (fun _ _ _ h => h) (Or.inl ⟨by rfl, ?_⟩) ?_ ?_
            rotate_left
            · intro w'; go_simp; with_reducible rfl
            rotate_left
            · simp only [qa_, qb_, qc_, qd_, i64_w, i32_w]; rfl
            refine pure_ (i := 6) (N := some 54) (v := ?_) (a' := ?_) bb1_7 rfl rfl (any_of HT_.out (by kernel_rfl)) (fun _ _ _ h => h) (Or.inl ⟨by rfl, ?_⟩) ?_ ?_
            rotate_left
            · intro w'; go_simp; with_reducible rfl
            rotate_left
            · simp only [qa_, qb_, qc_, qd_, i64_w, i32_w]; rfl
            refine pure_ (i := 7) (N := some 55) (v := ?_) (a' := ?_) bb1_8 rfl rfl (any_of HT_.out (by kernel_rfl)) (fun _ _ _ h => h) (Or.inl ⟨by rfl, ?_⟩) ?_ ?_
            rotate_left
            · intro w'; go_simp; with_reducible rfl
            rotate_left
            · simp only [qa_, qb_, qc_, qd_, i64_w, i32_w]; rfl
            refine pure_ (i := 8) (N := some 56) (v := ?_) (a' := ?_) bb1_9 rfl rfl (any_of HT_.out (by kernel_rfl)) (fun _ _ _ h => h) (Or.inl ⟨by rfl, ?_⟩) ?_ ?_
            rotate_left
            · intro w'; go_simp; with_reducible rfl
            rotate_left
            · simp only [qa_, qb_, qc_, qd_, i64_w, i32_w]; rfl
            refine take_ (i := 9) (N := some 57) (v := ?_) (a' := ?_) bb1_10 rfl rfl (take_ofW HT_.out HW_.out (by kernel_rfl)) (fun _ _ _ h => h) (Or.inl ⟨by rfl, ?_⟩) hHeld ?_ ?_
            rotate_left
            · rintro w' ⟨s0, s1, s2, s3, s4, s5, s6, s7, s8, s9, s10, s11, s12⟩; go_simp; with_reducible rfl
            rotate_left
            · simp only [qa_, qb_, qc_, qd_, i64_w, i32_w]; rfl
            refine pure_ (i := 10) (N := some 58) (v := ?_) (a' := ?_) bb1_11 rfl rfl (any_of HT_.out (by kernel_rfl)) (fun _ _ _ h => h) (Or.inl ⟨by rfl, ?_⟩) ?_ ?_
            rotate_left
            · intro w'; go_simp; with_reducible rfl
            rotate_left
            · simp only [qa_, qb_, qc_, qd_, i64_w, i32_w]; rfl
            refine pure_ (i := 11) (N := some 59) (v := ?_) (a' := ?_) bb1_12 rfl rfl (any_of HT_.out (by kernel_rfl)) (fun _ _ _ h => h) (Or.inl ⟨by rfl, ?_⟩) ?_ ?_
            rotate_left
            · intro w'; go_simp; with_reducible rfl
            rotate_left
            · simp only [qa_, qb_, qc_, qd_, i64_w, i32_w]; rfl
            refine pure_ (i := 12) (N := some 60) (v := ?_) (a' := ?_) bb1_13 rfl rfl (any_of HT_.out (by kernel_rfl)) (fun _ _ _ h => h) (Or.inl ⟨by rfl, ?_⟩) ?_ ?_
            rotate_left
            · intro w'; go_simp; with_reducible rfl
            rotate_left
            · simp only [qa_, qb_, qc_, qd_, i64_w, i32_w]; rfl
            refine pure_ (i := 13) (N := some 61) (v := ?_) (a' := ?_) bb1_14 rfl rfl (any_of HT_.out (by kernel_rfl)) (fun _ _ _ h => h) (Or.inl ⟨by rfl, ?_⟩) ?_ ?_
            rotate_left
            · intro w'; go_simp; with_reducible rfl
            rotate_left
            · simp only [qa_, qb_, qc_, qd_, i64_w, i32_w]; rfl
            refine pure_ (i := 14) (N := some 62) (v := ?_) (a' := ?_) bb1_15 rfl rfl (any_of HT_.out (by kernel_rfl)) (fun _ _ _ h => h) (Or.inl ⟨by rfl, ?_⟩) ?_ ?_
            rotate_left
            · intro w'; go_simp; with_reducible rfl
            rotate_left
            · simp only [qa_, qb_, qc_, qd_, i64_w, i32_w]; rfl
            refine pure_ (i := 15) (N := some 63) (v := ?_) (a' := ?_) bb1_16 rfl rfl (any_of HT_.out (by kernel_rfl)) (fun _ _ _ h => h) (Or.inl ⟨by rfl, ?_⟩) ?_ ?_
            rotate_left
            · intro w'; go_simp; with_reducible rfl
            rotate_left
            · simp only [qa_, qb_, qc_, qd_, i64_w, i32_w]; rfl
            refine pure_ (i := 16) (N := some 64) (v := undef) (a' := ?_) bb1_17 rfl rfl (any_of HT_.out (by kernel_rfl)) (fun _ _ _ h => h) (Or.inr ⟨by rfl, rfl⟩) ?_ ?_
            rotate_left
            · simp only [qa_, qb_, qc_, qd_, i64_w, i32_w]; rfl
            refine pure_ (i := 17) (N := some 65) (v := undef) (a' := ?_) bb1_18 rfl rfl (any_of HT_.out (by kernel_rfl)) (fun _ _ _ h => h) (Or.inr ⟨by rfl, rfl⟩) ?_ ?_
            rotate_left
            · simp only [qa_, qb_, qc_, qd_, i64_w, i32_w]; rfl
            refine pure_ (i := 18) (N := some 66) (v := undef) (a' := ?_) bb1_19 rfl rfl (any_of HT_.out (by kernel_rfl)) (fun _ _ _ h => h) (Or.inr ⟨by rfl, rfl⟩) ?_ ?_
            rotate_left
            · simp only [qa_, qb_, qc_, qd_, i64_w, i32_w]; rfl
            refine pure_ (i := 19) (N := some 67) (v := undef) (a' := ?_) bb1_20 rfl rfl (any_of HT_.out (by kernel_rfl)) (fun _ _ _ h => h) (Or.inr ⟨by rfl, rfl⟩) ?_ ?_
            rotate_left
            · simp only [qa_, qb_, qc_, qd_, i64_w, i32_w]; rfl
            refine pure_ (i := 20) (N := some 68) (v := undef) (a' := ?_) bb1_21 rfl rfl (any_of HT_.out (by kernel_rfl)) (fun _ _ _ h => h) (Or.inr ⟨by rfl, rfl⟩) ?_ ?_
            rotate_left
            · simp only [qa_, qb_, qc_, qd_, i64_w, i32_w]; rfl
            refine pure_ (i := 21) (N := some 69) (v := undef) (a' := ?_) bb1_22 rfl rfl (any_of HT_.out (by kernel_rfl)) (fun _ _ _ h => h) (Or.inr ⟨by rfl, rfl⟩) ?_ ?_
            rotate_left
            · simp only [qa_, qb_, qc_, qd_, i64_w, i32_w]; rfl
            refine pure_ (i := 22) (N := some 70) (v := undef) (a' := ?_) bb1_23 rfl rfl (any_of HT_.out (by kernel_rfl)) (fun _ _ _ h => h) (Or.inr ⟨by rfl, rfl⟩) ?_ ?_
            rotate_left
            · simp only [qa_, qb_, qc_, qd_, i64_w, i32_w]; rfl
            refine pure_ (i := 23) (N := some 71) (v := undef) (a' := ?_) bb1_24 rfl rfl (any_of HT_.out (by kernel_rfl)) (fun _ _ _ h => h) (Or.inr ⟨by rfl, rfl⟩) ?_ ?_
            rotate_left
            · simp only [qa_, qb_, qc_, qd_, i64_w, i32_w]; rfl
            refine pure_ (i := 24) (N := some 72) (v := undef) (a' := ?_) bb1_25 rfl rfl (any_of HT_.out (by kernel_rfl)) (fun _ _ _ h => h) (Or.inr ⟨by rfl, rfl⟩) ?_ ?_
            rotate_left
            · simp only [qa_, qb_, qc_, qd_, i64_w, i32_w]; rfl
            refine pure_ (i := 25) (N := some 73) (v := undef) (a' := ?_) bb1_26 rfl rfl (any_of HT_.out (by kernel_rfl)) (fun _ _ _ h => h) (Or.inr ⟨by rfl, rfl⟩) ?_ ?_
            rotate_left
            · simp only [qa_, qb_, qc_, qd_, i64_w, i32_w]; rfl
            refine pure_ (i := 26) (N := some 74) (v := ?_) (a' := ?_) bb1_27 rfl rfl (any_of HT_.out (by kernel_rfl)) (fun _ _ _ h => h) (Or.inl ⟨by rfl, ?_⟩) ?_ ?_
            rotate_left
            · intro w'; go_simp; with_reducible rfl
            rotate_left
            · simp only [qa_, qb_, qc_, qd_, i64_w, i32_w]; rfl
            refine pure_ (i := 27) (N := some 75) (v := ?_) (a' := ?_) bb1_28 rfl rfl (any_of HT_.out (by kernel_rfl)) (fun _ _ _ h => h) (Or.inl ⟨by rfl, ?_⟩) ?_ ?_
            rotate_left
            · intro w'; go_simp; with_reducible rfl
            rotate_left
            · simp only [qa_, qb_, qc_, qd_, i64_w, i32_w]; rfl
            refine pure_ (i := 28) (N := some 76) (v := ?_) (a' := ?_) bb1_29 rfl rfl (any_of HT_.out (by kernel_rfl)) (fun _ _ _ h => h) (Or.inl ⟨by rfl, ?_⟩) ?_ ?_
            rotate_left
            · intro w'; go_simp; with_reducible rfl
            rotate_left
            · simp only [qa_, qb_, qc_, qd_, i64_w, i32_w]; rfl
            refine pure_ (i := 29) (N := some 77) (v := ?_) (a' := ?_) bb1_30 rfl rfl (any_of HT_.out (by kernel_rfl)) (fun _ _ _ h => h) (Or.inl ⟨by rfl, ?_⟩) ?_ ?_
            rotate_left
            · intro w'; go_simp; with_reducible rfl
            rotate_left
            · simp only [qa_, qb_, qc_, qd_, i64_w, i32_w]; rfl
            refine pure_ (i := 30) (N := some 78) (v := ?_) (a' := ?_) bb1_31 rfl rfl (any_of HT_.out (by kernel_rfl)) (fun _ _ _ h => h) (Or.inl ⟨by rfl, ?_⟩) ?_ ?_
            rotate_left
            · intro w'; go_simp; with_reducible rfl
            rotate_left
            · simp only [qa_, qb_, qc_, qd_, i64_w, i32_w]; rfl
            refine pure_ (i := 31) (N := some 79) (v := ?_) (a' := ?_) bb1_32 rfl rfl (any_of HT_.out (by kernel_rfl)) (fun _ _ _ h => h) (Or.inl ⟨by rfl, ?_⟩) ?_ ?_
            rotate_left
            · intro w'; go_simp; with_reducible rfl
            rotate_left
            · simp only [qa_, qb_, qc_, qd_, i64_w, i32_w]; rfl
            refine pure_ (i := 32) (N := some 80) (v := ?_) (a' := ?_) bb1_33 rfl rfl (any_of HT_.out (by kernel_rfl)) (fun _ _ _ h => h) (Or.inl ⟨by rfl, ?_⟩) ?_ ?_
            rotate_left
            · intro w'; go_simp; with_reducible rfl
            rotate_left
            · simp only [qa_, qb_, qc_, qd_, i64_w, i32_w]; rfl
            refine take_ (i := 33) (N := some 81) (v := ?_) (a' := ?_) bb1_34 rfl rfl (take_ofW HT_.out HW_.out (by kernel_rfl)) (fun _ _ _ h => h) (Or.inl ⟨by rfl, ?_⟩) hHeld ?_ ?_
            rotate_left
            · rintro w' ⟨s0, s1, s2, s3, s4, s5, s6, s7, s8, s9, s10, s11, s12⟩; go_simp; with_reducible rfl
            rotate_left
            · simp only [qa_, qb_, qc_, qd_, i64_w, i32_w]; rfl
            refine one_ (i := 34) (N := some 82) bb1_35 rfl rfl (one_of HT_.out (by kernel_rfl)) (by decide) (fun K hK => ?_)
            refine goes_ Tryd.func35 (by kernel_rfl) rfl #[.slice Ao47 y330.length co47, .int .i64 (rd t323 x7_1)] (by rfl) rfl rfl (by (try simp only [List.map_toArray, List.map_cons, List.map_nil]); first | done | rfl | (simp only [List.length_drop, List.length_take]; rfl)) ?_
            with_reducible refine (cleatlaw04_has.calls k1 _ _ y330 (rd t323 x7_1) false _ ?side1 ?side2 A39.out).mono ?_
            (case side1 => repeat (first | exact (Kd.R_reads' HO_6.out).2.2 | (with_reducible refine Kd.C_alloc ?_ _) | (with_reducible refine Kd.C_drewN ?_ _) | (with_reducible refine Kd.C_drew ?_)))
            (case side2 => exact (Kd.R_reads' HO_6.out).2.1)
            rintro e w' ⟨rfl, ⟨nd, rfl⟩⟩
            refine ⟨_, rfl, ?_⟩
            refine hK.out _ _ ⟨(blk_cell BK322.out 0).trans rfl, (blk_cell BK322.out 1).trans rfl, (blk_cell BK322.out 2).trans rfl, (blk_cell BK322.out 3).trans rfl, (blk_cell BK322.out 4).trans rfl, (blk_cell BK322.out 5).trans rfl, (blk_cell BK322.out 6).trans rfl, (blk_cell BK322.out 7).trans rfl, (blk_cell BK322.out 8).trans rfl, (blk_cell BK322.out 9).trans rfl, hHeld.2.2.2.2.2.2.2.2.2.2.1, hHeld.2.2.2.2.2.2.2.2.2.2.2.1, hHeld.2.2.2.2.2.2.2.2.2.2.2.2⟩ (fun hHeld => ?_)
            clear hK K
            refine norm_ (a' := ?_) ?_ ?_
            rotate_left
            ·
             show Act.put _ (some 82) _ = _
             simp only [qa_, qb_, qc_, qd_, i64_w, i32_w]
             rfl
            refine pure_ (i := 35) (N := some 83) (v := ?_) (a' := ?_) bb1_36 rfl rfl (any_of HT_.out (by kernel_rfl)) (fun _ _ _ h => h) (Or.inl ⟨by rfl, ?_⟩) ?_ ?_
            rotate_left
            · intro w'; go_simp; with_reducible rfl
            rotate_left
            · simp only [qa_, qb_, qc_, qd_, i64_w, i32_w]; rfl
            refine pure_ (i := 36) (N := some 84) (v := ?_) (a' := ?_) bb1_37 rfl rfl (any_of HT_.out (by kernel_rfl)) (fun _ _ _ h => h) (Or.inl ⟨by rfl, ?_⟩) ?_ ?_
            rotate_left
            · intro w'; go_simp; with_reducible rfl
            rotate_left
            · simp only [qa_, qb_, qc_, qd_, i64_w, i32_w]; rfl
            refine pure_ (i := 37) (N := some 85) (v := ?_) (a' := ?_) bb1_38 rfl rfl (any_of HT_.out (by kernel_rfl)) (fun _ _ _ h => h) (Or.inl ⟨by rfl, ?_⟩) ?_ ?_
            rotate_left
            · intro w'; go_simp; with_reducible rfl
            rotate_left
            · simp only [qa_, qb_, qc_, qd_, i64_w, i32_w]; rfl
            refine take_ (i := 38) (N := some 86) (v := ?_) (a' := ?_) bb1_39 rfl rfl (take_ofW HT_.out HW_.out (by kernel_rfl)) (fun _ _ _ h => h) (Or.inl ⟨by rfl, ?_⟩) hHeld ?_ ?_
            rotate_left
            · rintro w' ⟨s0, s1, s2, s3, s4, s5, s6, s7, s8, s9, s10, s11, s12⟩; go_simp; with_reducible rfl
            rotate_left
            · simp only [qa_, qb_, qc_, qd_, i64_w, i32_w]; rfl
            refine pure_ (i := 39) (N := some 87) (v := ?_) (a' := ?_) bb1_40 rfl rfl (any_of HT_.out (by kernel_rfl)) (fun _ _ _ h => h) (Or.inl ⟨by rfl, ?_⟩) ?_ ?_
            rotate_left
            · intro w'; go_simp; with_reducible rfl
            rotate_left
            · simp only [qa_, qb_, qc_, qd_, i64_w, i32_w]; rfl
            refine pure_ (i := 40) (N := some 88) (v := ?_) (a' := ?_) bb1_41 rfl rfl (any_of HT_.out (by kernel_rfl)) (fun _ _ _ h => h) (Or.inl ⟨by rfl, ?_⟩) ?_ ?_
            rotate_left
            · intro w'; go_simp; with_reducible rfl
            rotate_left
            · simp only [qa_, qb_, qc_, qd_, i64_w, i32_w]; rfl
            refine pure_ (i := 41) (N := some 89) (v := undef) (a' := ?_) bb1_42 rfl rfl (any_of HT_.out (by kernel_rfl)) (fun _ _ _ h => h) (Or.inr ⟨by rfl, rfl⟩) ?_ ?_
            rotate_left
            · simp only [qa_, qb_, qc_, qd_, i64_w, i32_w]; rfl
            refine pure_ (i := 42) (N := some 90) (v := undef) (a' := ?_) bb1_43 rfl rfl (any_of HT_.out (by kernel_rfl)) (fun _ _ _ h => h) (Or.inr ⟨by rfl, rfl⟩) ?_ ?_
            rotate_left
            · simp only [qa_, qb_, qc_, qd_, i64_w, i32_w]; rfl
            refine pure_ (i := 43) (N := some 91) (v := undef) (a' := ?_) bb1_44 rfl rfl (any_of HT_.out (by kernel_rfl)) (fun _ _ _ h => h) (Or.inr ⟨by rfl, rfl⟩) ?_ ?_
            rotate_left
            · simp only [qa_, qb_, qc_, qd_, i64_w, i32_w]; rfl
            refine pure_ (i := 44) (N := some 92) (v := undef) (a' := ?_) bb1_45 rfl rfl (any_of HT_.out (by kernel_rfl)) (fun _ _ _ h => h) (Or.inr ⟨by rfl, rfl⟩) ?_ ?_
            rotate_left
            · simp only [qa_, qb_, qc_, qd_, i64_w, i32_w]; rfl
            refine pure_ (i := 45) (N := some 93) (v := undef) (a' := ?_) bb1_46 rfl rfl (any_of HT_.out (by kernel_rfl)) (fun _ _ _ h => h) (Or.inr ⟨by rfl, rfl⟩) ?_ ?_
            rotate_left
            · simp only [qa_, qb_, qc_, qd_, i64_w, i32_w]; rfl
            refine pure_ (i := 46) (N := some 94) (v := ?_) (a' := ?_) bb1_47 rfl rfl (any_of HT_.out (by kernel_rfl)) (fun _ _ _ h => h) (Or.inl ⟨by rfl, ?_⟩) ?_ ?_
            rotate_left
            · intro w'; go_simp; with_reducible rfl
            rotate_left
            · simp only [qa_, qb_, qc_, qd_, i64_w, i32_w]; rfl
            refine pure_ (i := 47) (N := some 95) (v := ?_) (a' := ?_) bb1_48 rfl rfl (any_of HT_.out (by kernel_rfl)) (fun _ _ _ h => h) (Or.inl ⟨by rfl, ?_⟩) ?_ ?_
            rotate_left
            · intro w'; go_simp; with_reducible rfl
            rotate_left
            · simp only [qa_, qb_, qc_, qd_, i64_w, i32_w]; rfl
            refine pure_ (i := 48) (N := some 96) (v := ?_) (a' := ?_) bb1_49 rfl rfl (any_of HT_.out (by kernel_rfl)) (fun _ _ _ h => h) (Or.inl ⟨by rfl, ?_⟩) ?_ ?_
            rotate_left
            · intro w'; go_simp; with_reducible rfl
            rotate_left
            · simp only [qa_, qb_, qc_, qd_, i64_w, i32_w]; rfl
            refine done_ (done_of HT_.out (by kernel_rfl)) ?_
            try go_wp2
            go_meet
            case rel => exact ⟨_, (true), (by first | rfl | (simp; done) | (simp [*]; done)), H', ⟨by have := HK1.out; first | omega | exact Nat.le_refl _⟩, ⟨by (with_reducible repeat (first | apply Kd.R_alloc | apply Kd.R_drewN | apply Kd.R_drew)); exact HO_3.out⟩, ⟨by (with_reducible repeat (first | apply Kd.R_alloc | apply Kd.R_drewN | apply Kd.R_drew)); exact HO_6.out⟩, ⟨by (with_reducible repeat (first | refine blk_drewN ?_ _ | refine blk_drew ?_ | refine blk_alloc ?_ _)); exact BK322.out⟩, ⟨by repeat (first | (with_reducible first | exact HB.out | apply below_alloc | apply pw_below_drewN | apply below_drew1 | refine below_set ?_ GE322.out) | exact HB.out)⟩⟩
      ·
       rw [if_neg c19] at H
       exact absurd H (by simp)
     case rest =>
      clear HC17
      try clear c1
      try clear p2
      try clear c3
      try clear p3
      try clear q3
      try clear hx3
      try clear c4
      try clear c19
      try clear p33
      try clear q33
      try clear hx33
      try clear p34
      try clear q34
      try clear hx34
      try clear c35
      try clear c43
      try clear c43b0
      try clear c43b1
      try clear hx333_0
      try clear hx334_0
      try clear hx340_0
      try clear p333
      try clear p334
      try clear p340
      try clear q333
      try clear q334
      try clear q340
      obtain ⟨kq, x96_16, rfl, HA, HJ16, HO_3, HO_6, BK322, HB⟩ := hcut
      cases kq with
      | zero => exact absurd HA.out (by simp [cleatlaw04_InstOwn.j1])
      | succ kj16 =>
       have H := HA.out
       clear HA
       simp only [cleatlaw04_InstOwn.j1] at H
       by_cases c48 : x96_16 = true
       ·
        subst c48
        have H1 : (none) = some r := by rw [if_pos rfl] at H; exact H
        clear H
        have H := H1
        clear H1
        exact absurd H (by simp)
       ·
        replace c48 := Bool.eq_false_iff.mpr c48
        subst c48
        have H1 : (cleatlaw04_InstOwn.l0 kj16 t323 t326 t327 y330 (wrap64 (x7_1 + 1)) a0_0 a0_1 a0_2 a0_3 a0_4 a0_5 a0_6 a0_7 a0_8 a0_9) = some r := by rw [if_neg (show ¬ (false = true) by decide)] at H; exact H
        clear H
        have H := H1
        clear H1
        have H' := Aside0.mk H
        clear H
        go_wp2
        go_roundg kj16
        case measure => have := HK1.out; have := HJ16.out; omega
        case rel => exact ⟨(wrap64 (x7_1 + 1)), (by first | rfl | (simp; done) | (simp [*]; done)), H', ⟨by have := HK1.out; have := HJ16.out; omega⟩, ⟨by (with_reducible repeat (first | apply Kd.R_alloc | apply Kd.R_drewN | apply Kd.R_drew)); exact HO_3.out⟩, ⟨by (with_reducible repeat (first | apply Kd.R_alloc | apply Kd.R_drewN | apply Kd.R_drew)); exact HO_6.out⟩, ⟨by (with_reducible repeat (first | refine blk_drewN ?_ _ | refine blk_drew ?_ | refine blk_alloc ?_ _)); exact BK322.out⟩, ⟨by repeat (first | (with_reducible first | exact HB.out | apply below_alloc | apply pw_below_drewN | apply below_drew1 | refine below_set ?_ GE322.out) | exact HB.out)⟩⟩
    ·
     rw [if_neg c16] at H
     have c16b0 : decide (x7_1 < (t323.length : Int)) = false := decide_eq_false c16
     clear c16
     have HC49 := Aside0.mk H
     clear H
     obtain ⟨Ao50, co50, eo50⟩ := Kd.R_slice HO_3.out
     subst eo50
     go_upto_region 11 with (fail)
     go_cut [8] (fun v8 wc => ∃ (kq : Nat) (x8_48 : Bool), v8 = .bool x8_48 ∧ Aside0 (cleatlaw04_InstOwn.j2 kq t326 t327 x8_48 a0_0 a0_1 a0_2 a0_3 a0_4 a0_5 a0_6 a0_7 a0_8 a0_9 = some r) ∧ Aside0 (kq ≤ k1) ∧ Aside0 (wc.heap[gb322]? = some (.cells #[.int .i64 a0_0, .int .i64 a0_1, .int .i64 a0_2, .int .i64 a0_3, .int .i64 a0_4, .int .i64 a0_5, .int .u64 a0_6, .int .i64 a0_7, .int .i64 a0_8, .int .i64 a0_9] 37 (0, 0))) ∧ Aside0 (Below w.heap.size w wc))
     case first =>
      have H := HC49.out
      clear HC49
      by_cases c51 : a0_0 = 30
      ·
       rw [if_pos c51] at H
       have c51b0 : (a0_0 == 30) = true := beq_iff_eq.mpr c51
       have c51b1 : (a0_0 != 30) = false := bne_eq_false_iff_eq.mpr c51
       clear c51
       (first | rw [c51b0] | (simp only [i64_w, i32_w]; rw [c51b0]) | skip)
       have H' := Aside0.mk H
       clear H
       have hcz52_0 : wr.cell? ⟨gb322, 0, none⟩ = some (.int .i64 a0_0) := (blk_cell BK322.out 0).trans rfl
       have hcz52_1 : wr.cell? ⟨gb322, 1, none⟩ = some (.int .i64 a0_1) := (blk_cell BK322.out 1).trans rfl
       have hcz52_2 : wr.cell? ⟨gb322, 2, none⟩ = some (.int .i64 a0_2) := (blk_cell BK322.out 2).trans rfl
       have hcz52_3 : wr.cell? ⟨gb322, 3, none⟩ = some (.int .i64 a0_3) := (blk_cell BK322.out 3).trans rfl
       have hcz52_4 : wr.cell? ⟨gb322, 4, none⟩ = some (.int .i64 a0_4) := (blk_cell BK322.out 4).trans rfl
       have hcz52_5 : wr.cell? ⟨gb322, 5, none⟩ = some (.int .i64 a0_5) := (blk_cell BK322.out 5).trans rfl
       have hcz52_6 : wr.cell? ⟨gb322, 6, none⟩ = some (.int .u64 a0_6) := (blk_cell BK322.out 6).trans rfl
       have hcz52_7 : wr.cell? ⟨gb322, 7, none⟩ = some (.int .i64 a0_7) := (blk_cell BK322.out 7).trans rfl
       have hcz52_8 : wr.cell? ⟨gb322, 8, none⟩ = some (.int .i64 a0_8) := (blk_cell BK322.out 8).trans rfl
       have hcz52_9 : wr.cell? ⟨gb322, 9, none⟩ = some (.int .i64 a0_9) := (blk_cell BK322.out 9).trans rfl
       have hfz52_0 := blk_frozen BK322.out 0
       have hfz52_1 := blk_frozen BK322.out 1
       have hfz52_2 := blk_frozen BK322.out 2
       have hfz52_3 := blk_frozen BK322.out 3
       have hfz52_4 := blk_frozen BK322.out 4
       have hfz52_5 := blk_frozen BK322.out 5
       have hfz52_6 := blk_frozen BK322.out 6
       have hfz52_7 := blk_frozen BK322.out 7
       have hfz52_8 := blk_frozen BK322.out 8
       have hfz52_9 := blk_frozen BK322.out 9
       go_wp2
       go_meet
       case rel => exact ⟨_, (true), (by first | rfl | (simp; done) | (simp [*]; done)), H', ⟨by have := HK1.out; first | omega | exact Nat.le_refl _⟩, ⟨by (with_reducible repeat (first | refine blk_drewN ?_ _ | refine blk_drew ?_ | refine blk_alloc ?_ _)); exact BK322.out⟩, ⟨by repeat (first | (with_reducible first | exact HB.out | apply below_alloc | apply pw_below_drewN | apply below_drew1 | refine below_set ?_ GE322.out) | exact HB.out)⟩⟩
      ·
       rw [if_neg c51] at H
       have c51b0 : (a0_0 == 30) = false := beq_eq_false_iff_ne.mpr c51
       have c51b1 : (a0_0 != 30) = true := bne_iff_ne.mpr c51
       (first | rw [c51b0] | (simp only [i64_w, i32_w]; rw [c51b0]) | skip)
       have H' := Aside0.mk H
       clear H
       have hcz53_0 : wr.cell? ⟨gb322, 0, none⟩ = some (.int .i64 a0_0) := (blk_cell BK322.out 0).trans rfl
       have hcz53_1 : wr.cell? ⟨gb322, 1, none⟩ = some (.int .i64 a0_1) := (blk_cell BK322.out 1).trans rfl
       have hcz53_2 : wr.cell? ⟨gb322, 2, none⟩ = some (.int .i64 a0_2) := (blk_cell BK322.out 2).trans rfl
       have hcz53_3 : wr.cell? ⟨gb322, 3, none⟩ = some (.int .i64 a0_3) := (blk_cell BK322.out 3).trans rfl
       have hcz53_4 : wr.cell? ⟨gb322, 4, none⟩ = some (.int .i64 a0_4) := (blk_cell BK322.out 4).trans rfl
       have hcz53_5 : wr.cell? ⟨gb322, 5, none⟩ = some (.int .i64 a0_5) := (blk_cell BK322.out 5).trans rfl
       have hcz53_6 : wr.cell? ⟨gb322, 6, none⟩ = some (.int .u64 a0_6) := (blk_cell BK322.out 6).trans rfl
       have hcz53_7 : wr.cell? ⟨gb322, 7, none⟩ = some (.int .i64 a0_7) := (blk_cell BK322.out 7).trans rfl
       have hcz53_8 : wr.cell? ⟨gb322, 8, none⟩ = some (.int .i64 a0_8) := (blk_cell BK322.out 8).trans rfl
       have hcz53_9 : wr.cell? ⟨gb322, 9, none⟩ = some (.int .i64 a0_9) := (blk_cell BK322.out 9).trans rfl
       have hfz53_0 := blk_frozen BK322.out 0
       have hfz53_1 := blk_frozen BK322.out 1
       have hfz53_2 := blk_frozen BK322.out 2
       have hfz53_3 := blk_frozen BK322.out 3
       have hfz53_4 := blk_frozen BK322.out 4
       have hfz53_5 := blk_frozen BK322.out 5
       have hfz53_6 := blk_frozen BK322.out 6
       have hfz53_7 := blk_frozen BK322.out 7
       have hfz53_8 := blk_frozen BK322.out 8
       have hfz53_9 := blk_frozen BK322.out 9
       go_wp2
       go_meet
       case rel => exact ⟨_, ((a0_0 == 35)), (by first | rfl | (simp; done) | (simp [*]; done)), H', ⟨by have := HK1.out; first | omega | exact Nat.le_refl _⟩, ⟨by (with_reducible repeat (first | refine blk_drewN ?_ _ | refine blk_drew ?_ | refine blk_alloc ?_ _)); exact BK322.out⟩, ⟨by repeat (first | (with_reducible first | exact HB.out | apply below_alloc | apply pw_below_drewN | apply below_drew1 | refine below_set ?_ GE322.out) | exact HB.out)⟩⟩
     case rest =>
      clear HC49
      try clear c1
      try clear p2
      try clear c3
      try clear p3
      try clear q3
      try clear hx3
      try clear c4
      try clear c5
      try clear p6
      try clear c16
      try clear c16b0
      try clear c19
      try clear p33
      try clear q33
      try clear hx33
      try clear p34
      try clear q34
      try clear hx34
      try clear c35
      try clear c43
      try clear c43b0
      try clear c43b1
      try clear c48
      try clear c51
      try clear c51b0
      try clear c51b1
      try clear hcz52_0 hcz52_1 hcz52_2 hcz52_3 hcz52_4 hcz52_5 hcz52_6 hcz52_7 hcz52_8 hcz52_9
      try clear hcz53_0 hcz53_1 hcz53_2 hcz53_3 hcz53_4 hcz53_5 hcz53_6 hcz53_7 hcz53_8 hcz53_9
      try clear hfz52_0
      try clear hfz53_0
      try clear hx333_0
      try clear hx334_0
      try clear hx340_0
      try clear p2
      try clear p3
      try clear p33
      try clear p333
      try clear p334
      try clear p34
      try clear p340
      try clear q3
      try clear q33
      try clear q333
      try clear q334
      try clear q34
      try clear q340
      obtain ⟨kq, x8_48, rfl, HA, HJ48, BK322, HB⟩ := hcut
      cases kq with
      | zero => exact absurd HA.out (by simp [cleatlaw04_InstOwn.j2])
      | succ kj48 =>
       have H := HA.out
       clear HA
       simp only [cleatlaw04_InstOwn.j2] at H
       replace H := Option.bind_eq_some_iff.mp H
       obtain ⟨t343, A540, H⟩ := H
       replace H : (if t343 = true then (if t327 = true then (if x8_48 = true then (if t326 = 30 then (some true) else (none)) else (if t326 = a0_1 then (some true) else (none))) else (some (t326 == 0))) else (none)) = some r := H
       have A54 := Aside0.mk A540
       clear A540
       by_cases c55 : t343 = true
       ·
        subst c55
        have H1 : (if t327 = true then (if x8_48 = true then (if t326 = 30 then (some true) else (none)) else (if t326 = a0_1 then (some true) else (none))) else (some (t326 == 0))) = some r := by rw [if_pos rfl] at H; exact H
        clear H
        have H := H1
        clear H1
        by_cases c56 : t327 = true
        ·
         subst c56
         have H1 : (if x8_48 = true then (if t326 = 30 then (some true) else (none)) else (if t326 = a0_1 then (some true) else (none))) = some r := by rw [if_pos rfl] at H; exact H
         clear H
         have H := H1
         clear H1
         by_cases c57 : x8_48 = true
         ·
          subst c57
          have H1 : (if t326 = 30 then (some true) else (none)) = some r := by rw [if_pos rfl] at H; exact H
          clear H
          have H := H1
          clear H1
          by_cases c58 : t326 = 30
          ·
           rw [if_pos c58] at H
           have c58b0 : (t326 == 30) = true := beq_iff_eq.mpr c58
           have c58b1 : (t326 != 30) = false := bne_eq_false_iff_eq.mpr c58
           clear c58
           obtain rfl := Option.some.inj H
           go_wp2_with (first | ((with_reducible refine gate_callee (f := 29) rfl ?_); refine goesL_ (some 105) rfl rfl Tryd.func29 (by kernel_rfl) rfl #[] rfl (by (try simp only [List.map_toArray, List.map_cons, List.map_nil]); first | done | rfl | (simp only [List.length_drop, List.length_take]; rfl)) ?_; (with_reducible refine (cleatlaw04_shaped.calls kj48  true _ A54.out).mono ?_); rintro e w59 ⟨rfl, hb⟩; refine ⟨_, rfl, ?_⟩; have n0_ := Aside0.mk (blk_below (g := gb322) (o := .cells #[.int .i64 a0_0, .int .i64 a0_1, .int .i64 a0_2, .int .i64 a0_3, .int .i64 a0_4, .int .i64 a0_5, .int .u64 a0_6, .int .i64 a0_7, .int .i64 a0_8, .int .i64 a0_9] 37 (0, 0)) (by (with_reducible repeat (first | refine blk_drewN ?_ _ | refine blk_drew ?_ | refine blk_alloc ?_ _)); exact BK322.out) hb); have n1_ := Aside0.mk (below_step (by repeat (first | (with_reducible first | exact HB.out | apply below_alloc | apply pw_below_drewN | apply below_drew1 | refine below_set ?_ GE322.out) | exact HB.out)) hb); clear BK322; clear HB; have BK322 := n0_; have HB := n1_; clear n0_ n1_; (try clear hb); (try clear hb2); (try clear hk); (try clear hi)))
           go_ret
           exact ⟨by first | rfl | (simp [errW_none, errW_some] <;> rfl) | (simp [*, errW_none, errW_some] <;> rfl), by repeat (first | (with_reducible first | exact HB.out | apply below_alloc | apply pw_below_drewN | apply below_drew1 | refine below_set ?_ GE322.out) | exact HB.out)⟩
          ·
           rw [if_neg c58] at H
           exact absurd H (by simp)
         ·
          replace c57 := Bool.eq_false_iff.mpr c57
          subst c57
          have H1 : (if t326 = a0_1 then (some true) else (none)) = some r := by rw [if_neg (show ¬ (false = true) by decide)] at H; exact H
          clear H
          have H := H1
          clear H1
          by_cases c60 : t326 = a0_1
          ·
           rw [if_pos c60] at H
           have c60b0 : (t326 == a0_1) = true := beq_iff_eq.mpr c60
           have c60b1 : (t326 != a0_1) = false := bne_eq_false_iff_eq.mpr c60
           clear c60
           obtain rfl := Option.some.inj H
           go_wp2_with (first | ((with_reducible refine gate_callee (f := 29) rfl ?_); refine goesL_ (some 105) rfl rfl Tryd.func29 (by kernel_rfl) rfl #[] rfl (by (try simp only [List.map_toArray, List.map_cons, List.map_nil]); first | done | rfl | (simp only [List.length_drop, List.length_take]; rfl)) ?_; (with_reducible refine (cleatlaw04_shaped.calls kj48  true _ A54.out).mono ?_); rintro e w61 ⟨rfl, hb⟩; refine ⟨_, rfl, ?_⟩; have n0_ := Aside0.mk (blk_below (g := gb322) (o := .cells #[.int .i64 a0_0, .int .i64 a0_1, .int .i64 a0_2, .int .i64 a0_3, .int .i64 a0_4, .int .i64 a0_5, .int .u64 a0_6, .int .i64 a0_7, .int .i64 a0_8, .int .i64 a0_9] 37 (0, 0)) (by (with_reducible repeat (first | refine blk_drewN ?_ _ | refine blk_drew ?_ | refine blk_alloc ?_ _)); exact BK322.out) hb); have n1_ := Aside0.mk (below_step (by repeat (first | (with_reducible first | exact HB.out | apply below_alloc | apply pw_below_drewN | apply below_drew1 | refine below_set ?_ GE322.out) | exact HB.out)) hb); clear BK322; clear HB; have BK322 := n0_; have HB := n1_; clear n0_ n1_; (try clear hb); (try clear hb2); (try clear hk); (try clear hi); obtain ⟨hcz62_0, hcz62_1, hcz62_2, hcz62_3, hcz62_4, hcz62_5, hcz62_6, hcz62_7, hcz62_8, hcz62_9⟩ := cells10_ BK322.out; have hfz62_0 := fun j => blk_frozen BK322.out j))
           go_ret
           exact ⟨by first | rfl | (simp [errW_none, errW_some] <;> rfl) | (simp [*, errW_none, errW_some] <;> rfl), by repeat (first | (with_reducible first | exact HB.out | apply below_alloc | apply pw_below_drewN | apply below_drew1 | refine below_set ?_ GE322.out) | exact HB.out)⟩
          ·
           rw [if_neg c60] at H
           exact absurd H (by simp)
        ·
         replace c56 := Bool.eq_false_iff.mpr c56
         subst c56
         have H1 : (some (t326 == 0)) = some r := by rw [if_neg (show ¬ (false = true) by decide)] at H; exact H
         clear H
         have H := H1
         clear H1
         obtain rfl := Option.some.inj H
         go_wp2_with (first | ((with_reducible refine gate_callee (f := 29) rfl ?_); refine goesL_ (some 105) rfl rfl Tryd.func29 (by kernel_rfl) rfl #[] rfl (by (try simp only [List.map_toArray, List.map_cons, List.map_nil]); first | done | rfl | (simp only [List.length_drop, List.length_take]; rfl)) ?_; (with_reducible refine (cleatlaw04_shaped.calls kj48  true _ A54.out).mono ?_); rintro e w63 ⟨rfl, hb⟩; refine ⟨_, rfl, ?_⟩; have n0_ := Aside0.mk (blk_below (g := gb322) (o := .cells #[.int .i64 a0_0, .int .i64 a0_1, .int .i64 a0_2, .int .i64 a0_3, .int .i64 a0_4, .int .i64 a0_5, .int .u64 a0_6, .int .i64 a0_7, .int .i64 a0_8, .int .i64 a0_9] 37 (0, 0)) (by (with_reducible repeat (first | refine blk_drewN ?_ _ | refine blk_drew ?_ | refine blk_alloc ?_ _)); exact BK322.out) hb); have n1_ := Aside0.mk (below_step (by repeat (first | (with_reducible first | exact HB.out | apply below_alloc | apply pw_below_drewN | apply below_drew1 | refine below_set ?_ GE322.out) | exact HB.out)) hb); clear BK322; clear HB; have BK322 := n0_; have HB := n1_; clear n0_ n1_; (try clear hb); (try clear hb2); (try clear hk); (try clear hi)))
         go_ret
         exact ⟨by first | rfl | (simp [errW_none, errW_some] <;> rfl) | (simp [*, errW_none, errW_some] <;> rfl), by repeat (first | (with_reducible first | exact HB.out | apply below_alloc | apply pw_below_drewN | apply below_drew1 | refine below_set ?_ GE322.out) | exact HB.out)⟩
       ·
        replace c55 := Bool.eq_false_iff.mpr c55
        subst c55
        have H1 : (none) = some r := by rw [if_neg (show ¬ (false = true) by decide)] at H; exact H
        clear H
        have H := H1
        clear H1
        exact absurd H (by simp)
 ·
  replace c5 := Bool.eq_false_iff.mpr c5
  subst c5
  have H1 : ((cleatlaw04_shaped.f k).bind fun t329 => (if t329 = true then (if (t323.length : Int) = 0 then (if t327 = true then (none) else (some (t326 == 0))) else (none)) else (none))) = some r := by rw [if_neg (show ¬ (false = true) by decide)] at H; exact H
  clear H
  have H := H1
  clear H1
  replace H := Option.bind_eq_some_iff.mp H
  obtain ⟨t329, A640, H⟩ := H
  replace H : (if t329 = true then (if (t323.length : Int) = 0 then (if t327 = true then (none) else (some (t326 == 0))) else (none)) else (none)) = some r := H
  have A64 := Aside0.mk A640
  clear A640
  by_cases c65 : t329 = true
  ·
   subst c65
   have H1 : (if (t323.length : Int) = 0 then (if t327 = true then (none) else (some (t326 == 0))) else (none)) = some r := by rw [if_pos rfl] at H; exact H
   clear H
   have H := H1
   clear H1
   by_cases c66 : (t323.length : Int) = 0
   ·
    rw [if_pos c66] at H
    have c66b0 : ((t323.length : Int) == 0) = true := beq_iff_eq.mpr c66
    have c66b1 : ((t323.length : Int) != 0) = false := bne_eq_false_iff_eq.mpr c66
    clear c66
    by_cases c67 : t327 = true
    ·
     subst c67
     have H1 : (none) = some r := by rw [if_pos rfl] at H; exact H
     clear H
     have H := H1
     clear H1
     exact absurd H (by simp)
    ·
     replace c67 := Bool.eq_false_iff.mpr c67
     subst c67
     have H1 : (some (t326 == 0)) = some r := by rw [if_neg (show ¬ (false = true) by decide)] at H; exact H
     clear H
     have H := H1
     clear H1
     obtain rfl := Option.some.inj H
     go_enter Tryd.func9, Tryd.ntmps9
     go_wp2_with (first | ((with_reducible refine gate_dst (N := 1) rfl ?_); (try (refine gate_guard (by rfl) ?_; dsimp only)); refine box_event ?hg (N := 1) ?hd (cs := #[.int .i64 a0_0, .int .i64 a0_1, .int .i64 a0_2, .int .i64 a0_3, .int .i64 a0_4, .int .i64 a0_5, .int .u64 a0_6, .int .i64 a0_7, .int .i64 a0_8, .int .i64 a0_9]) (t := 37) ?hr ?_; (case hd => rfl); (case hg => rfl); (case hr => first | (go_simp; done) | (go_simp; rfl)); intro gb322 hg w68 hbox hb; have n0_ := Aside0.mk (below_step (by repeat (first | (with_reducible first | exact HB.out | apply below_alloc | apply pw_below_drewN | apply below_drew1) | exact HB.out)) hb); have n1_ := Aside0.mk (hbox); have n2_ := Aside0.mk ((by rw [hg]; exact (below_size (by repeat (first | (with_reducible first | exact HB.out | apply below_alloc | apply pw_below_drewN | apply below_drew1) | exact HB.out))) : w.heap.size ≤ gb322)); have n3_ := Aside0.mk ((by rw [hg]; exact (below_size (by repeat (first | (with_reducible first | exact HB.out | apply below_alloc | apply pw_below_drewN | apply below_drew1) | exact HB.out))) : w.heap.size ≤ gb322)); clear HB; have HB := n0_; have BK322 := n1_; have GW322 := n2_; have GE322 := n3_; clear n0_ n1_ n2_ n3_; clear hb hbox hg; obtain ⟨hcz69_0, hcz69_1, hcz69_2, hcz69_3, hcz69_4, hcz69_5, hcz69_6, hcz69_7, hcz69_8, hcz69_9⟩ := cells10_ BK322.out; have hfz69_0 := fun j => blk_frozen BK322.out j) | ((with_reducible refine gate_callee (f := 33) rfl ?_); refine goesL_ (some 10) rfl rfl Tryd.func33 (by kernel_rfl) rfl #[.agg #[.int .i64 a0_0, .int .i64 a0_1, .int .i64 a0_2, .int .i64 a0_3, .int .i64 a0_4, .int .i64 a0_5, .int .u64 a0_6, .int .i64 a0_7, .int .i64 a0_8, .int .i64 a0_9]] rfl (by (try simp only [List.map_toArray, List.map_cons, List.map_nil]); first | done | rfl | (simp only [List.length_drop, List.length_take]; rfl)) ?_; (with_reducible refine (inst_Reads.calls k a0_0 a0_1 a0_2 a0_3 a0_4 a0_5 a0_6 a0_7 a0_8 a0_9 t323 _ A2.out).mono ?_); rintro e w70 ⟨v324, rfl, ho0, hb⟩; refine ⟨_, rfl, ?_⟩; have n0_ := Aside0.mk (Kd.R_lower ho0 (below_size (by repeat (first | (with_reducible first | exact HB.out | apply below_alloc | apply pw_below_drewN | apply below_drew1 | refine below_set ?_ GE322.out) | exact HB.out)))); have n1_ := Aside0.mk (blk_below (g := gb322) (o := .cells #[.int .i64 a0_0, .int .i64 a0_1, .int .i64 a0_2, .int .i64 a0_3, .int .i64 a0_4, .int .i64 a0_5, .int .u64 a0_6, .int .i64 a0_7, .int .i64 a0_8, .int .i64 a0_9] 37 (0, 0)) (by (with_reducible repeat (first | refine blk_drewN ?_ _ | refine blk_drew ?_ | refine blk_alloc ?_ _)); exact BK322.out) hb); have n2_ := Aside0.mk (below_step (by repeat (first | (with_reducible first | exact HB.out | apply below_alloc | apply pw_below_drewN | apply below_drew1 | refine below_set ?_ GE322.out) | exact HB.out)) hb); clear BK322; clear HB; have HO325 := n0_; have BK322 := n1_; have HB := n2_; clear n0_ n1_ n2_; (try clear hb); (try clear hb2); (try clear hk); (try clear hi); (try clear ho0); obtain ⟨hcz71_0, hcz71_1, hcz71_2, hcz71_3, hcz71_4, hcz71_5, hcz71_6, hcz71_7, hcz71_8, hcz71_9⟩ := cells10_ BK322.out; have hfz71_0 := fun j => blk_frozen BK322.out j) | ((with_reducible refine gate_callee (f := 27) rfl ?_); refine goesL_ (some 13) rfl rfl Tryd.func27 (by kernel_rfl) rfl #[.agg #[.int .i64 a0_0, .int .i64 a0_1, .int .i64 a0_2, .int .i64 a0_3, .int .i64 a0_4, .int .i64 a0_5, .int .u64 a0_6, .int .i64 a0_7, .int .i64 a0_8, .int .i64 a0_9]] rfl (by (try simp only [List.map_toArray, List.map_cons, List.map_nil]); first | done | rfl | (simp only [List.length_drop, List.length_take]; rfl)) ?_; (with_reducible refine (inst_Writes.calls k a0_0 a0_1 a0_2 a0_3 a0_4 a0_5 a0_6 a0_7 a0_8 a0_9 t326 false _ A3.out).mono ?_); rintro e w72 ⟨rfl, hb⟩; refine ⟨_, rfl, ?_⟩; have n0_ := Aside0.mk (Kd.R_below (by (with_reducible repeat (first | apply Kd.R_alloc | apply Kd.R_drewN | apply Kd.R_drew)); exact HO325.out) hb); have n1_ := Aside0.mk (blk_below (g := gb322) (o := .cells #[.int .i64 a0_0, .int .i64 a0_1, .int .i64 a0_2, .int .i64 a0_3, .int .i64 a0_4, .int .i64 a0_5, .int .u64 a0_6, .int .i64 a0_7, .int .i64 a0_8, .int .i64 a0_9] 37 (0, 0)) (by (with_reducible repeat (first | refine blk_drewN ?_ _ | refine blk_drew ?_ | refine blk_alloc ?_ _)); exact BK322.out) hb); have n2_ := Aside0.mk (below_step (by repeat (first | (with_reducible first | exact HB.out | apply below_alloc | apply pw_below_drewN | apply below_drew1 | refine below_set ?_ GE322.out) | exact HB.out)) hb); clear HO325; clear BK322; clear HB; have HO325 := n0_; have BK322 := n1_; have HB := n2_; clear n0_ n1_ n2_; (try clear hb); (try clear hb2); (try clear hk); (try clear hi); obtain ⟨hcz73_0, hcz73_1, hcz73_2, hcz73_3, hcz73_4, hcz73_5, hcz73_6, hcz73_7, hcz73_8, hcz73_9⟩ := cells10_ BK322.out; have hfz73_0 := fun j => blk_frozen BK322.out j) | ((with_reducible refine gate_callee (f := 30) rfl ?_); refine goesL_ (some 17) rfl rfl Tryd.func30 (by kernel_rfl) rfl #[.agg #[.int .i64 a0_0, .int .i64 a0_1, .int .i64 a0_2, .int .i64 a0_3, .int .i64 a0_4, .int .i64 a0_5, .int .u64 a0_6, .int .i64 a0_7, .int .i64 a0_8, .int .i64 a0_9]] rfl (by (try simp only [List.map_toArray, List.map_cons, List.map_nil]); first | done | rfl | (simp only [List.length_drop, List.length_take]; rfl)) ?_; (with_reducible refine (inst_Is.calls k a0_0 a0_1 a0_2 a0_3 a0_4 a0_5 a0_6 a0_7 a0_8 a0_9 false _ A4.out).mono ?_); rintro e w74 ⟨rfl, hb⟩; refine ⟨_, rfl, ?_⟩; have n0_ := Aside0.mk (Kd.R_below (by (with_reducible repeat (first | apply Kd.R_alloc | apply Kd.R_drewN | apply Kd.R_drew)); exact HO325.out) hb); have n1_ := Aside0.mk (blk_below (g := gb322) (o := .cells #[.int .i64 a0_0, .int .i64 a0_1, .int .i64 a0_2, .int .i64 a0_3, .int .i64 a0_4, .int .i64 a0_5, .int .u64 a0_6, .int .i64 a0_7, .int .i64 a0_8, .int .i64 a0_9] 37 (0, 0)) (by (with_reducible repeat (first | refine blk_drewN ?_ _ | refine blk_drew ?_ | refine blk_alloc ?_ _)); exact BK322.out) hb); have n2_ := Aside0.mk (below_step (by repeat (first | (with_reducible first | exact HB.out | apply below_alloc | apply pw_below_drewN | apply below_drew1 | refine below_set ?_ GE322.out) | exact HB.out)) hb); clear HO325; clear BK322; clear HB; have HO325 := n0_; have BK322 := n1_; have HB := n2_; clear n0_ n1_ n2_; (try clear hb); (try clear hb2); (try clear hk); (try clear hi)) | ((with_reducible refine gate_callee (f := 29) rfl ?_); refine goesL_ (some 19) rfl rfl Tryd.func29 (by kernel_rfl) rfl #[] rfl (by (try simp only [List.map_toArray, List.map_cons, List.map_nil]); first | done | rfl | (simp only [List.length_drop, List.length_take]; rfl)) ?_; (with_reducible refine (cleatlaw04_shaped.calls k  true _ A64.out).mono ?_); rintro e w75 ⟨rfl, hb⟩; refine ⟨_, rfl, ?_⟩; have n0_ := Aside0.mk (Kd.R_below (by (with_reducible repeat (first | apply Kd.R_alloc | apply Kd.R_drewN | apply Kd.R_drew)); exact HO325.out) hb); have n1_ := Aside0.mk (blk_below (g := gb322) (o := .cells #[.int .i64 a0_0, .int .i64 a0_1, .int .i64 a0_2, .int .i64 a0_3, .int .i64 a0_4, .int .i64 a0_5, .int .u64 a0_6, .int .i64 a0_7, .int .i64 a0_8, .int .i64 a0_9] 37 (0, 0)) (by (with_reducible repeat (first | refine blk_drewN ?_ _ | refine blk_drew ?_ | refine blk_alloc ?_ _)); exact BK322.out) hb); have n2_ := Aside0.mk (below_step (by repeat (first | (with_reducible first | exact HB.out | apply below_alloc | apply pw_below_drewN | apply below_drew1 | refine below_set ?_ GE322.out) | exact HB.out)) hb); clear HO325; clear BK322; clear HB; have HO325 := n0_; have BK322 := n1_; have HB := n2_; clear n0_ n1_ n2_; (try clear hb); (try clear hb2); (try clear hk); (try clear hi); obtain ⟨Ao76, co76, eo76⟩ := Kd.R_slice HO325.out; subst eo76))
     go_ret
     exact ⟨by first | rfl | (simp [errW_none, errW_some] <;> rfl) | (simp [*, errW_none, errW_some] <;> rfl), by repeat (first | (with_reducible first | exact HB.out | apply below_alloc | apply pw_below_drewN | apply below_drew1 | refine below_set ?_ GE322.out) | exact HB.out)⟩
   ·
    rw [if_neg c66] at H
    exact absurd H (by simp)
  ·
   replace c65 := Bool.eq_false_iff.mpr c65
   subst c65
   have H1 : (none) = some r := by rw [if_neg (show ¬ (false = true) by decide)] at H; exact H
   clear H
   have H := H1
   clear H1
   exact absurd H (by simp)
end Go.Proofs.YtbklmlbmbnnjkaaDoor.R
