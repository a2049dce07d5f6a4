/- Written for this claim by a program of this session: what the claim uses of lemmas and proved contracts of Go functions. -/
import Derived.Test.YtbklmlbmbnnjkaaDoorZOwnRx0
import Derived.Test.YtbklmlbmbnnjkaaDoorZOwnRx7
import Derived.Test.YtbklmlbmbnnjkaaDoorZOwnRx8
namespace Go.Proofs.YtbklmlbmbnnjkaaDoor.R
open Go.RowKit Go.Proofs.YtbklmlbmbnnjkaaDoorW.PrintWords Go.Proofs.YtbklmlbmbnnjkaaDoorW.PrintLast Go.Proofs.YtbklmlbmbnnjkaaDoorW.PrintMore
attribute [local go_sem] max2_int min2_int max_two min_two max_three min_three max_four min_four   -- for this text's walks alone
set_option linter.unusedVariables false
set_option linter.unusedSimpArgs false
mutual
def cleatref01_Rotate.j0 : Nat → Int → Int → Int → Bool → Option (Int × Int)
 | 0, _, _, _, _ => none
 | k + 1, x0, x1, x2, x40 => if x40 = true then (some (0, 1)) else ((cleatref01_Small.f k x0 x2).bind fun t176 => (if t176 = true then (cleatref01_Rotate.l0 k x0 x1 x2 0 0) else (some (0, 4))))
def cleatref01_Rotate.l0 : Nat → Int → Int → Int → Int → Int → Option (Int × Int)
 | 0, _, _, _, _, _ => none
 | k + 1, x0, x1, x2, x8, x9 => if x9 < x2 then (if x2 = 0 then (none) else ((cleatref01_Bit.f k x0 (Int.tmod (wrap64 (x9 + x1)) x2)).bind fun t177 => (if t177 = true then ((cleatref01_Power.f k x9).bind fun t178 => (cleatref01_Rotate.l0 k x0 x1 x2 (IntKind.u64.wrap (x8 + t178)) (wrap64 (x9 + 1)))) else (cleatref01_Rotate.l0 k x0 x1 x2 x8 (wrap64 (x9 + 1)))))) else (some (x8, 0))
end
def cleatref01_Rotate.f (k : Nat) (a0 : Int) (a1 : Int) (a2 : Int) : Option (Int × Int) := if a2 = 2 then (if a1 < 0 then (cleatref01_Rotate.j0 k a0 a1 a2 true) else (cleatref01_Rotate.j0 k a0 a1 a2 (decide (a1 ≥ a2)))) else (if a2 = 4 then (if a1 < 0 then (cleatref01_Rotate.j0 k a0 a1 a2 true) else (cleatref01_Rotate.j0 k a0 a1 a2 (decide (a1 ≥ a2)))) else (if a2 = 8 then (if a1 < 0 then (cleatref01_Rotate.j0 k a0 a1 a2 true) else (cleatref01_Rotate.j0 k a0 a1 a2 (decide (a1 ≥ a2)))) else (if a2 = 16 then (if a1 < 0 then (cleatref01_Rotate.j0 k a0 a1 a2 true) else (cleatref01_Rotate.j0 k a0 a1 a2 (decide (a1 ≥ a2)))) else (if a2 = 32 then (if a1 < 0 then (cleatref01_Rotate.j0 k a0 a1 a2 true) else (cleatref01_Rotate.j0 k a0 a1 a2 (decide (a1 ≥ a2)))) else (if a2 = 64 then (if a1 < 0 then (cleatref01_Rotate.j0 k a0 a1 a2 true) else (cleatref01_Rotate.j0 k a0 a1 a2 (decide (a1 ≥ a2)))) else (cleatref01_Rotate.j0 k a0 a1 a2 true))))))
theorem cleatref01_Rotate.mono_l : ∀ k, (∀ y0 y1 y2 y3, LeO (cleatref01_Rotate.j0 k y0 y1 y2 y3) (cleatref01_Rotate.j0 (k + 1) y0 y1 y2 y3)) ∧ (∀ y0 y1 y2 y3 y4, LeO (cleatref01_Rotate.l0 k y0 y1 y2 y3 y4) (cleatref01_Rotate.l0 (k + 1) y0 y1 y2 y3 y4))
 | 0 => ⟨fun _ _ _ _ r h => by simp [cleatref01_Rotate.j0] at h, fun _ _ _ _ _ r h => by simp [cleatref01_Rotate.l0] at h⟩
 | k + 1 => by
  obtain ⟨ih0, ih1⟩ := cleatref01_Rotate.mono_l k
  refine ⟨?_, ?_⟩
  ·
   intro y0 y1 y2 y3
   unfold cleatref01_Rotate.j0
   repeat' first
   | (with_reducible exact ih0 _ _ _ _)
   | (with_reducible exact ih1 _ _ _ _ _)
   | (with_reducible exact cleatref01_Bit.mono _ _ _)
   | (with_reducible exact cleatref01_Power.mono _ _)
   | (with_reducible exact cleatref01_Small.mono _ _ _)
   | (with_reducible exact LeO.refl _)
   | (with_reducible exact LeO.none _)
   | (with_reducible refine LeO.ite ?_ ?_)
   | (with_reducible refine LeO.bind ?_ (fun _ => ?_))
   | exact ih0 _ _ _ _
   | exact ih1 _ _ _ _ _
   | exact cleatref01_Bit.mono _ _ _
   | exact cleatref01_Power.mono _ _
   | exact cleatref01_Small.mono _ _ _
   | exact LeO.none _
   | refine LeO.ite ?_ ?_
   | refine LeO.bind ?_ (fun _ => ?_)
  ·
   intro y0 y1 y2 y3 y4
   unfold cleatref01_Rotate.l0
   repeat' first
   | (with_reducible exact ih0 _ _ _ _)
   | (with_reducible exact ih1 _ _ _ _ _)
   | (with_reducible exact cleatref01_Bit.mono _ _ _)
   | (with_reducible exact cleatref01_Power.mono _ _)
   | (with_reducible exact cleatref01_Small.mono _ _ _)
   | (with_reducible exact LeO.refl _)
   | (with_reducible exact LeO.none _)
   | (with_reducible refine LeO.ite ?_ ?_)
   | (with_reducible refine LeO.bind ?_ (fun _ => ?_))
   | exact ih0 _ _ _ _
   | exact ih1 _ _ _ _ _
   | exact cleatref01_Bit.mono _ _ _
   | exact cleatref01_Power.mono _ _
   | exact cleatref01_Small.mono _ _ _
   | exact LeO.none _
   | refine LeO.ite ?_ ?_
   | refine LeO.bind ?_ (fun _ => ?_)
theorem cleatref01_Rotate.mono : ∀ a0 a1 a2 k, LeO (cleatref01_Rotate.f k a0 a1 a2) (cleatref01_Rotate.f (k + 1) a0 a1 a2) := by
 intro a0 a1 a2 k
 obtain ⟨ih0, ih1⟩ := cleatref01_Rotate.mono_l k
 unfold cleatref01_Rotate.f
 repeat' first
   | (with_reducible exact ih0 _ _ _ _)
   | (with_reducible exact ih1 _ _ _ _ _)
   | (with_reducible exact cleatref01_Bit.mono _ _ _)
   | (with_reducible exact cleatref01_Power.mono _ _)
   | (with_reducible exact cleatref01_Small.mono _ _ _)
   | (with_reducible exact LeO.refl _)
   | (with_reducible exact LeO.none _)
   | (with_reducible refine LeO.ite ?_ ?_)
   | (with_reducible refine LeO.bind ?_ (fun _ => ?_))
   | exact ih0 _ _ _ _
   | exact ih1 _ _ _ _ _
   | exact cleatref01_Bit.mono _ _ _
   | exact cleatref01_Power.mono _ _
   | exact cleatref01_Small.mono _ _ _
   | exact LeO.none _
   | refine LeO.ite ?_ ?_
   | refine LeO.bind ?_ (fun _ => ?_)
def cleatref02_row.l0 : Nat → Int → Int → Int → Int → Int → Option (Int)
 | 0, _, _, _, _, _ => none
 | k + 1, x0, x1, x2, x7, x8 => if x8 < x0 then ((cleatref01_Power.f k x8).bind fun t179 => (cleatref02_row.l0 k x0 x1 x2 (IntKind.u64.wrap (x7 + t179)) (wrap64 (x8 + 1)))) else ((cleatref01_Rotate.f k x7 x1 x2).bind fun bt180 => (some bt180.1))
def cleatref02_row.f (k : Nat) (a0 : Int) (a1 : Int) (a2 : Int) : Option (Int) := cleatref02_row.l0 k a0 a1 a2 0 0
theorem cleatref02_row.mono_l : ∀ k, (∀ y0 y1 y2 y3 y4, LeO (cleatref02_row.l0 k y0 y1 y2 y3 y4) (cleatref02_row.l0 (k + 1) y0 y1 y2 y3 y4))
 | 0 => fun _ _ _ _ _ r h => by simp [cleatref02_row.l0] at h
 | k + 1 => by
  have ih0 := cleatref02_row.mono_l k
  ·
   intro y0 y1 y2 y3 y4
   unfold cleatref02_row.l0
   repeat' first
   | (with_reducible exact ih0 _ _ _ _ _)
   | (with_reducible exact cleatref01_Power.mono _ _)
   | (with_reducible exact cleatref01_Rotate.mono _ _ _ _)
   | (with_reducible exact LeO.refl _)
   | (with_reducible exact LeO.none _)
   | (with_reducible refine LeO.ite ?_ ?_)
   | (with_reducible refine LeO.bind ?_ (fun _ => ?_))
   | exact ih0 _ _ _ _ _
   | exact cleatref01_Power.mono _ _
   | exact cleatref01_Rotate.mono _ _ _ _
   | exact LeO.none _
   | refine LeO.ite ?_ ?_
   | refine LeO.bind ?_ (fun _ => ?_)
theorem cleatref02_row.mono : ∀ a0 a1 a2 k, LeO (cleatref02_row.f k a0 a1 a2) (cleatref02_row.f (k + 1) a0 a1 a2) := by
 intro a0 a1 a2 k
 have ih0 := cleatref02_row.mono_l k
 unfold cleatref02_row.f
 repeat' first
   | (with_reducible exact ih0 _ _ _ _ _)
   | (with_reducible exact cleatref01_Power.mono _ _)
   | (with_reducible exact cleatref01_Rotate.mono _ _ _ _)
   | (with_reducible exact LeO.refl _)
   | (with_reducible exact LeO.none _)
   | (with_reducible refine LeO.ite ?_ ?_)
   | (with_reducible refine LeO.bind ?_ (fun _ => ?_))
   | exact ih0 _ _ _ _ _
   | exact cleatref01_Power.mono _ _
   | exact cleatref01_Rotate.mono _ _ _ _
   | exact LeO.none _
   | refine LeO.ite ?_ ?_
   | refine LeO.bind ?_ (fun _ => ?_)
mutual
def cleatref02_Encode.l0 : Nat → Int → Int → Int → Int → Option (Int × Int × Int × Int)
 | 0, _, _, _, _ => none
 | k + 1, x0, x6, x7, x8 => if x8 < x6 then (if x7 > 0 then (cleatref02_Encode.j1 k x0 x6 x7 x8 (decide (x7 < x6))) else (cleatref02_Encode.j1 k x0 x6 x7 x8 false)) else (cleatref02_Encode.j1 k x0 x6 x7 x8 false)
def cleatref02_Encode.j1 : Nat → Int → Int → Int → Int → Bool → Option (Int × Int × Int × Int)
 | 0, _, _, _, _, _ => none
 | k + 1, x0, x6, x7, x8, x26 => if x26 = true then ((cleatref02_row.f k x7 x8 x6).bind fun t185 => ((cleatref01_Low.f k x0 x6).bind fun t186 => (if t185 = t186 then (if x6 = 64 then (some (1, x8, wrap64 (x7 - 1), 0)) else (some (0, x8, wrap64 ((wrap64 ((wrap64 (x7 - 1)) + 64)) - (wrap64 (2 * x6))), 0))) else (cleatref02_Encode.l0 k x0 x6 x7 (wrap64 (x8 + 1)))))) else (some (0, 0, 0, 3))
end
def cleatref02_Encode.f (k : Nat) (a0 : Int) : Option (Int × Int × Int × Int) := (cleatref02_Size.f k a0).bind fun t182 => ((cleatref01_Low.f k a0 t182).bind fun t183 => ((cleatref02_Ones.f k t183).bind fun t184 => (cleatref02_Encode.l0 k a0 t182 t184 0)))
theorem cleatref02_Encode.mono_l : ∀ k, (∀ y0 y1 y2 y3, LeO (cleatref02_Encode.l0 k y0 y1 y2 y3) (cleatref02_Encode.l0 (k + 1) y0 y1 y2 y3)) ∧ (∀ y0 y1 y2 y3 y4, LeO (cleatref02_Encode.j1 k y0 y1 y2 y3 y4) (cleatref02_Encode.j1 (k + 1) y0 y1 y2 y3 y4))
 | 0 => ⟨fun _ _ _ _ r h => by simp [cleatref02_Encode.l0] at h, fun _ _ _ _ _ r h => by simp [cleatref02_Encode.j1] at h⟩
 | k + 1 => by
  obtain ⟨ih0, ih1⟩ := cleatref02_Encode.mono_l k
  refine ⟨?_, ?_⟩
  ·
   intro y0 y1 y2 y3
   unfold cleatref02_Encode.l0
   repeat' first
   | (with_reducible exact ih0 _ _ _ _)
   | (with_reducible exact ih1 _ _ _ _ _)
   | (with_reducible exact cleatref01_Low.mono _ _ _)
   | (with_reducible exact cleatref02_Ones.mono _ _)
   | (with_reducible exact cleatref02_Size.mono _ _)
   | (with_reducible exact cleatref02_row.mono _ _ _ _)
   | (with_reducible exact LeO.refl _)
   | (with_reducible exact LeO.none _)
   | (with_reducible refine LeO.ite ?_ ?_)
   | (with_reducible refine LeO.bind ?_ (fun _ => ?_))
   | exact ih0 _ _ _ _
   | exact ih1 _ _ _ _ _
   | exact cleatref01_Low.mono _ _ _
   | exact cleatref02_Ones.mono _ _
   | exact cleatref02_Size.mono _ _
   | exact cleatref02_row.mono _ _ _ _
   | exact LeO.none _
   | refine LeO.ite ?_ ?_
   | refine LeO.bind ?_ (fun _ => ?_)
  ·
   intro y0 y1 y2 y3 y4
   unfold cleatref02_Encode.j1
   repeat' first
   | (with_reducible exact ih0 _ _ _ _)
   | (with_reducible exact ih1 _ _ _ _ _)
   | (with_reducible exact cleatref01_Low.mono _ _ _)
   | (with_reducible exact cleatref02_Ones.mono _ _)
   | (with_reducible exact cleatref02_Size.mono _ _)
   | (with_reducible exact cleatref02_row.mono _ _ _ _)
   | (with_reducible exact LeO.refl _)
   | (with_reducible exact LeO.none _)
   | (with_reducible refine LeO.ite ?_ ?_)
   | (with_reducible refine LeO.bind ?_ (fun _ => ?_))
   | exact ih0 _ _ _ _
   | exact ih1 _ _ _ _ _
   | exact cleatref01_Low.mono _ _ _
   | exact cleatref02_Ones.mono _ _
   | exact cleatref02_Size.mono _ _
   | exact cleatref02_row.mono _ _ _ _
   | exact LeO.none _
   | refine LeO.ite ?_ ?_
   | refine LeO.bind ?_ (fun _ => ?_)
theorem cleatref02_Encode.mono : ∀ a0 k, LeO (cleatref02_Encode.f k a0) (cleatref02_Encode.f (k + 1) a0) := by
 intro a0 k
 obtain ⟨ih0, ih1⟩ := cleatref02_Encode.mono_l k
 unfold cleatref02_Encode.f
 repeat' first
   | (with_reducible exact ih0 _ _ _ _)
   | (with_reducible exact ih1 _ _ _ _ _)
   | (with_reducible exact cleatref01_Low.mono _ _ _)
   | (with_reducible exact cleatref02_Ones.mono _ _)
   | (with_reducible exact cleatref02_Size.mono _ _)
   | (with_reducible exact cleatref02_row.mono _ _ _ _)
   | (with_reducible exact LeO.refl _)
   | (with_reducible exact LeO.none _)
   | (with_reducible refine LeO.ite ?_ ?_)
   | (with_reducible refine LeO.bind ?_ (fun _ => ?_))
   | exact ih0 _ _ _ _
   | exact ih1 _ _ _ _ _
   | exact cleatref01_Low.mono _ _ _
   | exact cleatref02_Ones.mono _ _
   | exact cleatref02_Size.mono _ _
   | exact cleatref02_row.mono _ _ _ _
   | exact LeO.none _
   | refine LeO.ite ?_ ?_
   | refine LeO.bind ?_ (fun _ => ?_)
def cleatref02_Is.f (k : Nat) (a0 : Int) : Option (Bool) := (cleatref02_Encode.f k a0).bind fun bt187 => (some (bt187.2.2.2 == 0))
theorem cleatref02_Is.mono : ∀ a0 k, LeO (cleatref02_Is.f k a0) (cleatref02_Is.f (k + 1) a0) := by
 intro a0 k
 unfold cleatref02_Is.f
 repeat' first
   | (with_reducible exact cleatref02_Encode.mono _ _)
   | (with_reducible exact LeO.refl _)
   | (with_reducible exact LeO.none _)
   | (with_reducible refine LeO.ite ?_ ?_)
   | (with_reducible refine LeO.bind ?_ (fun _ => ?_))
   | exact cleatref02_Encode.mono _ _
   | exact LeO.none _
   | refine LeO.ite ?_ ?_
   | refine LeO.bind ?_ (fun _ => ?_)
end Go.Proofs.YtbklmlbmbnnjkaaDoor.R
