/- Written for this claim by a program of this session: what the claim uses of lemmas and proved contracts of Go functions. -/
import Derived.Test.YtbklmlbmbnnjkaaDoorZOwnRx0
import Derived.Test.YtbklmlbmbnnjkaaDoorZOwnRx7
namespace Go.Proofs.YtbklmlbmbnnjkaaDoor.R
open Go.RowKit Go.Proofs.YtbklmlbmbnnjkaaDoorW.PrintWords Go.Proofs.YtbklmlbmbnnjkaaDoorW.PrintLast Go.Proofs.YtbklmlbmbnnjkaaDoorW.PrintMore
attribute [local go_sem] max2_int min2_int max_two min_two max_three min_three max_four min_four   -- for this text's walks alone
set_option linter.unusedVariables false
set_option linter.unusedSimpArgs false
def cleatref02_again.l0 : Nat → Int → Int → Int → Int → Option (Int)
 | 0, _, _, _, _ => none
 | k + 1, x0, x1, x5, x6 => if x6 < 64 then (if x1 = 0 then (none) else ((cleatref01_Bit.f k x0 (Int.tmod x6 x1)).bind fun t169 => (if t169 = true then ((cleatref01_Power.f k x6).bind fun t170 => (cleatref02_again.l0 k x0 x1 (IntKind.u64.wrap (x5 + t170)) (wrap64 (x6 + 1)))) else (cleatref02_again.l0 k x0 x1 x5 (wrap64 (x6 + 1)))))) else (some x5)
def cleatref02_again.f (k : Nat) (a0 : Int) (a1 : Int) : Option (Int) := cleatref02_again.l0 k a0 a1 0 0
theorem cleatref02_again.mono_l : ∀ k, (∀ y0 y1 y2 y3, LeO (cleatref02_again.l0 k y0 y1 y2 y3) (cleatref02_again.l0 (k + 1) y0 y1 y2 y3))
 | 0 => fun _ _ _ _ r h => by simp [cleatref02_again.l0] at h
 | k + 1 => by
  have ih0 := cleatref02_again.mono_l k
  ·
   intro y0 y1 y2 y3
   unfold cleatref02_again.l0
   repeat' first
   | (with_reducible exact ih0 _ _ _ _)
   | (with_reducible exact cleatref01_Bit.mono _ _ _)
   | (with_reducible exact cleatref01_Power.mono _ _)
   | (with_reducible exact LeO.refl _)
   | (with_reducible exact LeO.none _)
   | (with_reducible refine LeO.ite ?_ ?_)
   | (with_reducible refine LeO.bind ?_ (fun _ => ?_))
   | exact ih0 _ _ _ _
   | exact cleatref01_Bit.mono _ _ _
   | exact cleatref01_Power.mono _ _
   | exact LeO.none _
   | refine LeO.ite ?_ ?_
   | refine LeO.bind ?_ (fun _ => ?_)
theorem cleatref02_again.mono : ∀ a0 a1 k, LeO (cleatref02_again.f k a0 a1) (cleatref02_again.f (k + 1) a0 a1) := by
 intro a0 a1 k
 have ih0 := cleatref02_again.mono_l k
 unfold cleatref02_again.f
 repeat' first
   | (with_reducible exact ih0 _ _ _ _)
   | (with_reducible exact cleatref01_Bit.mono _ _ _)
   | (with_reducible exact cleatref01_Power.mono _ _)
   | (with_reducible exact LeO.refl _)
   | (with_reducible exact LeO.none _)
   | (with_reducible refine LeO.ite ?_ ?_)
   | (with_reducible refine LeO.bind ?_ (fun _ => ?_))
   | exact ih0 _ _ _ _
   | exact cleatref01_Bit.mono _ _ _
   | exact cleatref01_Power.mono _ _
   | exact LeO.none _
   | refine LeO.ite ?_ ?_
   | refine LeO.bind ?_ (fun _ => ?_)
def cleatref01_Low.f (k : Nat) (a0 : Int) (a1 : Int) : Option (Int) := if a1 ≤ 0 then (some 0) else (if a1 ≥ 64 then (some a0) else ((cleatref01_Power.f k a1).bind fun t171 => (if t171 = 0 then (none) else (some (Int.tmod a0 t171)))))
theorem cleatref01_Low.mono : ∀ a0 a1 k, LeO (cleatref01_Low.f k a0 a1) (cleatref01_Low.f (k + 1) a0 a1) := by
 intro a0 a1 k
 unfold cleatref01_Low.f
 repeat' first
   | (with_reducible exact cleatref01_Power.mono _ _)
   | (with_reducible exact LeO.refl _)
   | (with_reducible exact LeO.none _)
   | (with_reducible refine LeO.ite ?_ ?_)
   | (with_reducible refine LeO.bind ?_ (fun _ => ?_))
   | exact cleatref01_Power.mono _ _
   | exact LeO.none _
   | refine LeO.ite ?_ ?_
   | refine LeO.bind ?_ (fun _ => ?_)
def cleatref02_Size.l0 : Nat → Int → Int → Option (Int)
 | 0, _, _ => none
 | k + 1, x0, x3 => if x3 < 64 then ((cleatref01_Low.f k x0 x3).bind fun t172 => ((cleatref02_again.f k t172 x3).bind fun t173 => (if t173 = x0 then (some x3) else (cleatref02_Size.l0 k x0 (wrap64 (2 * x3)))))) else (some 64)
def cleatref02_Size.f (k : Nat) (a0 : Int) : Option (Int) := cleatref02_Size.l0 k a0 2
theorem cleatref02_Size.mono_l : ∀ k, (∀ y0 y1, LeO (cleatref02_Size.l0 k y0 y1) (cleatref02_Size.l0 (k + 1) y0 y1))
 | 0 => fun _ _ r h => by simp [cleatref02_Size.l0] at h
 | k + 1 => by
  have ih0 := cleatref02_Size.mono_l k
  ·
   intro y0 y1
   unfold cleatref02_Size.l0
   repeat' first
   | (with_reducible exact ih0 _ _)
   | (with_reducible exact cleatref01_Low.mono _ _ _)
   | (with_reducible exact cleatref02_again.mono _ _ _)
   | (with_reducible exact LeO.refl _)
   | (with_reducible exact LeO.none _)
   | (with_reducible refine LeO.ite ?_ ?_)
   | (with_reducible refine LeO.bind ?_ (fun _ => ?_))
   | exact ih0 _ _
   | exact cleatref01_Low.mono _ _ _
   | exact cleatref02_again.mono _ _ _
   | exact LeO.none _
   | refine LeO.ite ?_ ?_
   | refine LeO.bind ?_ (fun _ => ?_)
theorem cleatref02_Size.mono : ∀ a0 k, LeO (cleatref02_Size.f k a0) (cleatref02_Size.f (k + 1) a0) := by
 intro a0 k
 have ih0 := cleatref02_Size.mono_l k
 unfold cleatref02_Size.f
 repeat' first
   | (with_reducible exact ih0 _ _)
   | (with_reducible exact cleatref01_Low.mono _ _ _)
   | (with_reducible exact cleatref02_again.mono _ _ _)
   | (with_reducible exact LeO.refl _)
   | (with_reducible exact LeO.none _)
   | (with_reducible refine LeO.ite ?_ ?_)
   | (with_reducible refine LeO.bind ?_ (fun _ => ?_))
   | exact ih0 _ _
   | exact cleatref01_Low.mono _ _ _
   | exact cleatref02_again.mono _ _ _
   | exact LeO.none _
   | refine LeO.ite ?_ ?_
   | refine LeO.bind ?_ (fun _ => ?_)
def cleatref02_Ones.l0 : Nat → Int → Int → Int → Option (Int)
 | 0, _, _, _ => none
 | k + 1, x0, x3, x4 => if x4 < 64 then ((cleatref01_Bit.f k x0 x4).bind fun t174 => (if t174 = true then (cleatref02_Ones.l0 k x0 (wrap64 (x3 + 1)) (wrap64 (x4 + 1))) else (cleatref02_Ones.l0 k x0 x3 (wrap64 (x4 + 1))))) else (some x3)
def cleatref02_Ones.f (k : Nat) (a0 : Int) : Option (Int) := cleatref02_Ones.l0 k a0 0 0
theorem cleatref02_Ones.mono_l : ∀ k, (∀ y0 y1 y2, LeO (cleatref02_Ones.l0 k y0 y1 y2) (cleatref02_Ones.l0 (k + 1) y0 y1 y2))
 | 0 => fun _ _ _ r h => by simp [cleatref02_Ones.l0] at h
 | k + 1 => by
  have ih0 := cleatref02_Ones.mono_l k
  ·
   intro y0 y1 y2
   unfold cleatref02_Ones.l0
   repeat' first
   | (with_reducible exact ih0 _ _ _)
   | (with_reducible exact cleatref01_Bit.mono _ _ _)
   | (with_reducible exact LeO.refl _)
   | (with_reducible exact LeO.none _)
   | (with_reducible refine LeO.ite ?_ ?_)
   | (with_reducible refine LeO.bind ?_ (fun _ => ?_))
   | exact ih0 _ _ _
   | exact cleatref01_Bit.mono _ _ _
   | exact LeO.none _
   | refine LeO.ite ?_ ?_
   | refine LeO.bind ?_ (fun _ => ?_)
theorem cleatref02_Ones.mono : ∀ a0 k, LeO (cleatref02_Ones.f k a0) (cleatref02_Ones.f (k + 1) a0) := by
 intro a0 k
 have ih0 := cleatref02_Ones.mono_l k
 unfold cleatref02_Ones.f
 repeat' first
   | (with_reducible exact ih0 _ _ _)
   | (with_reducible exact cleatref01_Bit.mono _ _ _)
   | (with_reducible exact LeO.refl _)
   | (with_reducible exact LeO.none _)
   | (with_reducible refine LeO.ite ?_ ?_)
   | (with_reducible refine LeO.bind ?_ (fun _ => ?_))
   | exact ih0 _ _ _
   | exact cleatref01_Bit.mono _ _ _
   | exact LeO.none _
   | refine LeO.ite ?_ ?_
   | refine LeO.bind ?_ (fun _ => ?_)
def cleatref01_Small.f (k : Nat) (a0 : Int) (a1 : Int) : Option (Bool) := if a1 ≥ 64 then (some true) else ((cleatref01_Power.f k a1).bind fun t175 => (some (decide (a0 < t175))))
theorem cleatref01_Small.mono : ∀ a0 a1 k, LeO (cleatref01_Small.f k a0 a1) (cleatref01_Small.f (k + 1) a0 a1) := by
 intro a0 a1 k
 unfold cleatref01_Small.f
 repeat' first
   | (with_reducible exact cleatref01_Power.mono _ _)
   | (with_reducible exact LeO.refl _)
   | (with_reducible exact LeO.none _)
   | (with_reducible refine LeO.ite ?_ ?_)
   | (with_reducible refine LeO.bind ?_ (fun _ => ?_))
   | exact cleatref01_Power.mono _ _
   | exact LeO.none _
   | refine LeO.ite ?_ ?_
   | refine LeO.bind ?_ (fun _ => ?_)
end Go.Proofs.YtbklmlbmbnnjkaaDoor.R
