/- Written for this claim by a program of this session (drive.py, over the print of the kit): Lean functions with the answers of Go functions, and the proofs that the Go code comes to these answers, under no condition but the readings of the arguments that each theorem names. -/
import Derived.Test.YtbklmlbmbnnjkaaDoorPx0
import Derived.Test.YtbklmlbmbnnjkaaDoorPx2
import Derived.Test.YtbklmlbmbnnjkaaDoorPx4
import Derived.Test.YtbklmlbmbnnjkaaDoorPx6
import Derived.Test.YtbklmlbmbnnjkaaDoorPx7
namespace Go.Proofs.YtbklmlbmbnnjkaaDoor.P
open Go.RowKit Go.Proofs.YtbklmlbmbnnjkaaDoorW.PrintWords Go.Proofs.YtbklmlbmbnnjkaaDoorW.PrintLast Go.Proofs.YtbklmlbmbnnjkaaDoorW.PrintMore
attribute [local go_sem] max2_int min2_int max_two min_two max_three min_three max_four min_four   -- for this text's walks alone
set_option linter.unusedVariables false
set_option linter.unusedSimpArgs false

/-! ### cleatlaw02_MaskRow: function 6 -/
mutual
def cleatlaw02_MaskRow.j0 : Nat → Int → Int → Int → Bool → Option (Bool)
  | 0, _, _, _, _ => none
  | k + 1, x0, x1, x2, x40 => if x40 = true then ((cleatlaw02_masked.f k).bind fun t217 => (some t217)) else ((bits_Low.f 18446744073709551615 x0).bind fun t218 => (cleatlaw02_MaskRow.l0 k x0 x1 x2 t218 t218 x1))
def cleatlaw02_MaskRow.l0 : Nat → Int → Int → Int → Int → Int → Int → Option (Bool)
  | 0, _, _, _, _, _, _ => none
  | k + 1, x0, x1, x2, x7, x8, x9 => if x9 < 64 then (if 0 ≤ x9 then (cleatlaw02_MaskRow.l0 k x0 x1 x2 x7 (IntKind.u64.wrap (x8 + (IntKind.u64.wrap (x8 * (shl .u64 1 x9))))) (wrap64 (2 * x9))) else (none)) else ((mask_Is.f k x8).bind fun t219 => (if x0 > 0 then (if (t219 != (decide (x0 < x1))) = true then (cleatlaw02_MaskRow.j2 k x0 x1 x2 x7 true) else ((mask_Is.f k x7).bind fun t220 => (cleatlaw02_MaskRow.j2 k x0 x1 x2 x7 (t220 != (decide (x0 < 64)))))) else (if (t219 != false) = true then (cleatlaw02_MaskRow.j2 k x0 x1 x2 x7 true) else ((mask_Is.f k x7).bind fun t221 => (cleatlaw02_MaskRow.j2 k x0 x1 x2 x7 (t221 != false))))))
def cleatlaw02_MaskRow.j2 : Nat → Int → Int → Int → Int → Bool → Option (Bool)
  | 0, _, _, _, _, _ => none
  | k + 1, x0, x1, x2, x7, x76 => if x76 = true then (none) else (if x1 < 64 then (cleatlaw02_MaskRow.j3 k x0 x2 x7 true) else (if x0 < 2 then (cleatlaw02_MaskRow.j3 k x0 x2 x7 true) else (if x0 > 60 then (cleatlaw02_MaskRow.j3 k x0 x2 x7 true) else (if x2 ≤ x0 then (cleatlaw02_MaskRow.j3 k x0 x2 x7 true) else (cleatlaw02_MaskRow.j3 k x0 x2 x7 (decide (x2 ≥ 63)))))))
def cleatlaw02_MaskRow.j3 : Nat → Int → Int → Int → Bool → Option (Bool)
  | 0, _, _, _, _ => none
  | k + 1, x0, x2, x7, x95 => if x95 = true then ((cleatlaw02_masked.f k).bind fun t222 => (some t222)) else ((cleatlaw02_masked.f k).bind fun t223 => (if t223 = true then (if 0 ≤ x2 then ((mask_Is.f k (IntKind.u64.wrap (x7 + (shl .u64 1 x2)))).bind fun t224 => (if t224 = true then (none) else ((mask_Ones.f (IntKind.u64.wrap (x7 + (shl .u64 1 x2)))).bind fun t225 => (some (t225 == (wrap64 (x0 + 1))))))) else (none)) else (none)))
end
def cleatlaw02_MaskRow.f (k : Nat) (a0 : Int) (a1 : Int) (a2 : Int) : Option (Bool) := if a1 = 2 then (if a0 < 0 then (cleatlaw02_MaskRow.j0 k a0 a1 a2 true) else (cleatlaw02_MaskRow.j0 k a0 a1 a2 (decide (a0 > a1)))) else (if a1 = 4 then (if a0 < 0 then (cleatlaw02_MaskRow.j0 k a0 a1 a2 true) else (cleatlaw02_MaskRow.j0 k a0 a1 a2 (decide (a0 > a1)))) else (if a1 = 8 then (if a0 < 0 then (cleatlaw02_MaskRow.j0 k a0 a1 a2 true) else (cleatlaw02_MaskRow.j0 k a0 a1 a2 (decide (a0 > a1)))) else (if a1 = 16 then (if a0 < 0 then (cleatlaw02_MaskRow.j0 k a0 a1 a2 true) else (cleatlaw02_MaskRow.j0 k a0 a1 a2 (decide (a0 > a1)))) else (if a1 = 32 then (if a0 < 0 then (cleatlaw02_MaskRow.j0 k a0 a1 a2 true) else (cleatlaw02_MaskRow.j0 k a0 a1 a2 (decide (a0 > a1)))) else (if a1 = 64 then (if a0 < 0 then (cleatlaw02_MaskRow.j0 k a0 a1 a2 true) else (cleatlaw02_MaskRow.j0 k a0 a1 a2 (decide (a0 > a1)))) else (cleatlaw02_MaskRow.j0 k a0 a1 a2 true))))))
theorem cleatlaw02_MaskRow.mono_l : ∀ k, (∀ y0 y1 y2 y3, LeO (cleatlaw02_MaskRow.j0 k y0 y1 y2 y3) (cleatlaw02_MaskRow.j0 (k + 1) y0 y1 y2 y3)) ∧ (∀ y0 y1 y2 y3 y4 y5, LeO (cleatlaw02_MaskRow.l0 k y0 y1 y2 y3 y4 y5) (cleatlaw02_MaskRow.l0 (k + 1) y0 y1 y2 y3 y4 y5)) ∧ (∀ y0 y1 y2 y3 y4, LeO (cleatlaw02_MaskRow.j2 k y0 y1 y2 y3 y4) (cleatlaw02_MaskRow.j2 (k + 1) y0 y1 y2 y3 y4)) ∧ (∀ y0 y1 y2 y3, LeO (cleatlaw02_MaskRow.j3 k y0 y1 y2 y3) (cleatlaw02_MaskRow.j3 (k + 1) y0 y1 y2 y3))
  | 0 => ⟨fun _ _ _ _ r h => by simp [cleatlaw02_MaskRow.j0] at h, fun _ _ _ _ _ _ r h => by simp [cleatlaw02_MaskRow.l0] at h, fun _ _ _ _ _ r h => by simp [cleatlaw02_MaskRow.j2] at h, fun _ _ _ _ r h => by simp [cleatlaw02_MaskRow.j3] at h⟩
  | k + 1 => by
    obtain ⟨ih0, ih1, ih2, ih3⟩ := cleatlaw02_MaskRow.mono_l k
    refine ⟨?_, ?_, ?_, ?_⟩
    · intro y0 y1 y2 y3
      unfold cleatlaw02_MaskRow.j0
      repeat' first
      | (with_reducible exact ih0 _ _ _ _)
      | (with_reducible exact ih1 _ _ _ _ _ _)
      | (with_reducible exact ih2 _ _ _ _ _)
      | (with_reducible exact ih3 _ _ _ _)
      | (with_reducible exact cleatlaw02_masked.mono _)
      | (with_reducible exact mask_Is.mono _ _)
      | (with_reducible exact LeO.refl _)
      | (with_reducible exact LeO.none _)
      | (with_reducible refine LeO.ite ?_ ?_)
      | (with_reducible refine LeO.bind ?_ (fun _ => ?_))
      | exact ih0 _ _ _ _
      | exact ih1 _ _ _ _ _ _
      | exact ih2 _ _ _ _ _
      | exact ih3 _ _ _ _
      | exact cleatlaw02_masked.mono _
      | exact mask_Is.mono _ _
      | exact LeO.none _
      | refine LeO.ite ?_ ?_
      | refine LeO.bind ?_ (fun _ => ?_)
    · intro y0 y1 y2 y3 y4 y5
      unfold cleatlaw02_MaskRow.l0
      repeat' first
      | (with_reducible exact ih0 _ _ _ _)
      | (with_reducible exact ih1 _ _ _ _ _ _)
      | (with_reducible exact ih2 _ _ _ _ _)
      | (with_reducible exact ih3 _ _ _ _)
      | (with_reducible exact cleatlaw02_masked.mono _)
      | (with_reducible exact mask_Is.mono _ _)
      | (with_reducible exact LeO.refl _)
      | (with_reducible exact LeO.none _)
      | (with_reducible refine LeO.ite ?_ ?_)
      | (with_reducible refine LeO.bind ?_ (fun _ => ?_))
      | exact ih0 _ _ _ _
      | exact ih1 _ _ _ _ _ _
      | exact ih2 _ _ _ _ _
      | exact ih3 _ _ _ _
      | exact cleatlaw02_masked.mono _
      | exact mask_Is.mono _ _
      | exact LeO.none _
      | refine LeO.ite ?_ ?_
      | refine LeO.bind ?_ (fun _ => ?_)
    · intro y0 y1 y2 y3 y4
      unfold cleatlaw02_MaskRow.j2
      repeat' first
      | (with_reducible exact ih0 _ _ _ _)
      | (with_reducible exact ih1 _ _ _ _ _ _)
      | (with_reducible exact ih2 _ _ _ _ _)
      | (with_reducible exact ih3 _ _ _ _)
      | (with_reducible exact cleatlaw02_masked.mono _)
      | (with_reducible exact mask_Is.mono _ _)
      | (with_reducible exact LeO.refl _)
      | (with_reducible exact LeO.none _)
      | (with_reducible refine LeO.ite ?_ ?_)
      | (with_reducible refine LeO.bind ?_ (fun _ => ?_))
      | exact ih0 _ _ _ _
      | exact ih1 _ _ _ _ _ _
      | exact ih2 _ _ _ _ _
      | exact ih3 _ _ _ _
      | exact cleatlaw02_masked.mono _
      | exact mask_Is.mono _ _
      | exact LeO.none _
      | refine LeO.ite ?_ ?_
      | refine LeO.bind ?_ (fun _ => ?_)
    · intro y0 y1 y2 y3
      unfold cleatlaw02_MaskRow.j3
      repeat' first
      | (with_reducible exact ih0 _ _ _ _)
      | (with_reducible exact ih1 _ _ _ _ _ _)
      | (with_reducible exact ih2 _ _ _ _ _)
      | (with_reducible exact ih3 _ _ _ _)
      | (with_reducible exact cleatlaw02_masked.mono _)
      | (with_reducible exact mask_Is.mono _ _)
      | (with_reducible exact LeO.refl _)
      | (with_reducible exact LeO.none _)
      | (with_reducible refine LeO.ite ?_ ?_)
      | (with_reducible refine LeO.bind ?_ (fun _ => ?_))
      | exact ih0 _ _ _ _
      | exact ih1 _ _ _ _ _ _
      | exact ih2 _ _ _ _ _
      | exact ih3 _ _ _ _
      | exact cleatlaw02_masked.mono _
      | exact mask_Is.mono _ _
      | exact LeO.none _
      | refine LeO.ite ?_ ?_
      | refine LeO.bind ?_ (fun _ => ?_)
theorem cleatlaw02_MaskRow.mono : ∀ a0 a1 a2 k, LeO (cleatlaw02_MaskRow.f k a0 a1 a2) (cleatlaw02_MaskRow.f (k + 1) a0 a1 a2) := by
  intro a0 a1 a2 k
  obtain ⟨ih0, ih1, ih2, ih3⟩ := cleatlaw02_MaskRow.mono_l k
  unfold cleatlaw02_MaskRow.f
  repeat' first
      | (with_reducible exact ih0 _ _ _ _)
      | (with_reducible exact ih1 _ _ _ _ _ _)
      | (with_reducible exact ih2 _ _ _ _ _)
      | (with_reducible exact ih3 _ _ _ _)
      | (with_reducible exact cleatlaw02_masked.mono _)
      | (with_reducible exact mask_Is.mono _ _)
      | (with_reducible exact LeO.refl _)
      | (with_reducible exact LeO.none _)
      | (with_reducible refine LeO.ite ?_ ?_)
      | (with_reducible refine LeO.bind ?_ (fun _ => ?_))
      | exact ih0 _ _ _ _
      | exact ih1 _ _ _ _ _ _
      | exact ih2 _ _ _ _ _
      | exact ih3 _ _ _ _
      | exact cleatlaw02_masked.mono _
      | exact mask_Is.mono _ _
      | exact LeO.none _
      | refine LeO.ite ?_ ?_
      | refine LeO.bind ?_ (fun _ => ?_)
set_option maxHeartbeats 8000000 in
set_option maxRecDepth 100000 in
theorem cleatlaw02_MaskRow.calls (k : Nat) (a0 : Int) (a1 : Int) (a2 : Int) (r : Bool) (w : World) (h : cleatlaw02_MaskRow.f k a0 a1 a2 = some r) (hTab : TabW w := by first | exact hTab | exact TabW.drew hTab | exact TabW.drewN hTab _ | exact TabW.below hTab (by repeat (first | (with_reducible first | exact HB.out | apply below_alloc | apply pw_below_drewN | apply below_drew1) | exact HB.out | exact Below.refl _ _))) :
    Calls Tryd.prog 6 #[.int .i64 a0, .int .i64 a1, .int .i64 a2] w fun e w' => e = .returned (.bool r) ∧ Below w.heap.size w w' := by
  have HB := Aside0.mk (Below.refl w.heap.size w)
  have H : (if a1 = 2 then (if a0 < 0 then (cleatlaw02_MaskRow.j0 k a0 a1 a2 true) else (cleatlaw02_MaskRow.j0 k a0 a1 a2 (decide (a0 > a1)))) else (if a1 = 4 then (if a0 < 0 then (cleatlaw02_MaskRow.j0 k a0 a1 a2 true) else (cleatlaw02_MaskRow.j0 k a0 a1 a2 (decide (a0 > a1)))) else (if a1 = 8 then (if a0 < 0 then (cleatlaw02_MaskRow.j0 k a0 a1 a2 true) else (cleatlaw02_MaskRow.j0 k a0 a1 a2 (decide (a0 > a1)))) else (if a1 = 16 then (if a0 < 0 then (cleatlaw02_MaskRow.j0 k a0 a1 a2 true) else (cleatlaw02_MaskRow.j0 k a0 a1 a2 (decide (a0 > a1)))) else (if a1 = 32 then (if a0 < 0 then (cleatlaw02_MaskRow.j0 k a0 a1 a2 true) else (cleatlaw02_MaskRow.j0 k a0 a1 a2 (decide (a0 > a1)))) else (if a1 = 64 then (if a0 < 0 then (cleatlaw02_MaskRow.j0 k a0 a1 a2 true) else (cleatlaw02_MaskRow.j0 k a0 a1 a2 (decide (a0 > a1)))) else (cleatlaw02_MaskRow.j0 k a0 a1 a2 true))))))) = some r := h
  clear h
  have HC4 := Aside0.mk H
  clear H
  go_enter Tryd.func6, Tryd.ntmps6
  go_upto_region 1 with (fail)
  go_cut [40] (fun v40 wc => ∃ (kq : Nat) (x40_3 : Bool), v40 = .bool x40_3 ∧ Aside0 (cleatlaw02_MaskRow.j0 kq a0 a1 a2 x40_3 = some r) ∧ Aside0 (kq ≤ k) ∧ Aside0 (Below w.heap.size w wc))
  case first =>
    have H := HC4.out
    clear HC4
    by_cases c5 : a1 = 2
    · rw [if_pos c5] at H
      have c5b0 : (a1 == 2) = true := beq_iff_eq.mpr c5
      have c5b1 : (a1 != 2) = false := bne_eq_false_iff_eq.mpr c5
      clear c5
      (first | rw [c5b0] | (simp only [i64_w, i32_w]; rw [c5b0]) | skip)
      by_cases c6 : a0 < 0
      · rw [if_pos c6] at H
        have c6b0 : decide (a0 < 0) = true := decide_eq_true c6
        clear c6
        have H' := Aside0.mk H
        clear H
        go_wp2
        go_meet
        case rel => exact ⟨_, (true), (by first | rfl | (simp; done) | (simp [*]; done)), H', ⟨by first | omega | exact Nat.le_refl _⟩, ⟨by repeat (first | (with_reducible first | exact HB.out | apply below_alloc | apply pw_below_drewN | apply below_drew1) | exact HB.out)⟩⟩
      · rw [if_neg c6] at H
        have c6b0 : decide (a0 < 0) = false := decide_eq_false c6
        clear c6
        have H' := Aside0.mk H
        clear H
        go_wp2
        go_meet
        case rel => exact ⟨_, (decide (a0 > a1)), (by first | rfl | (simp; done) | (simp [*]; done)), H', ⟨by first | omega | exact Nat.le_refl _⟩, ⟨by repeat (first | (with_reducible first | exact HB.out | apply below_alloc | apply pw_below_drewN | apply below_drew1) | exact HB.out)⟩⟩
    · rw [if_neg c5] at H
      have c5b0 : (a1 == 2) = false := beq_eq_false_iff_ne.mpr c5
      have c5b1 : (a1 != 2) = true := bne_iff_ne.mpr c5
      (first | rw [c5b0] | (simp only [i64_w, i32_w]; rw [c5b0]) | skip)
      by_cases c7 : a1 = 4
      · rw [if_pos c7] at H
        have c7b0 : (a1 == 4) = true := beq_iff_eq.mpr c7
        have c7b1 : (a1 != 4) = false := bne_eq_false_iff_eq.mpr c7
        clear c7
        by_cases c8 : a0 < 0
        · rw [if_pos c8] at H
          have c8b0 : decide (a0 < 0) = true := decide_eq_true c8
          clear c8
          have H' := Aside0.mk H
          clear H
          go_wp2
          go_meet
          case rel => exact ⟨_, (true), (by first | rfl | (simp; done) | (simp [*]; done)), H', ⟨by first | omega | exact Nat.le_refl _⟩, ⟨by repeat (first | (with_reducible first | exact HB.out | apply below_alloc | apply pw_below_drewN | apply below_drew1) | exact HB.out)⟩⟩
        · rw [if_neg c8] at H
          have c8b0 : decide (a0 < 0) = false := decide_eq_false c8
          clear c8
          have H' := Aside0.mk H
          clear H
          go_wp2
          go_meet
          case rel => exact ⟨_, (decide (a0 > a1)), (by first | rfl | (simp; done) | (simp [*]; done)), H', ⟨by first | omega | exact Nat.le_refl _⟩, ⟨by repeat (first | (with_reducible first | exact HB.out | apply below_alloc | apply pw_below_drewN | apply below_drew1) | exact HB.out)⟩⟩
      · rw [if_neg c7] at H
        have c7b0 : (a1 == 4) = false := beq_eq_false_iff_ne.mpr c7
        have c7b1 : (a1 != 4) = true := bne_iff_ne.mpr c7
        by_cases c9 : a1 = 8
        · rw [if_pos c9] at H
          have c9b0 : (a1 == 8) = true := beq_iff_eq.mpr c9
          have c9b1 : (a1 != 8) = false := bne_eq_false_iff_eq.mpr c9
          clear c9
          by_cases c10 : a0 < 0
          · rw [if_pos c10] at H
            have c10b0 : decide (a0 < 0) = true := decide_eq_true c10
            clear c10
            have H' := Aside0.mk H
            clear H
            go_wp2
            go_meet
            case rel => exact ⟨_, (true), (by first | rfl | (simp; done) | (simp [*]; done)), H', ⟨by first | omega | exact Nat.le_refl _⟩, ⟨by repeat (first | (with_reducible first | exact HB.out | apply below_alloc | apply pw_below_drewN | apply below_drew1) | exact HB.out)⟩⟩
          · rw [if_neg c10] at H
            have c10b0 : decide (a0 < 0) = false := decide_eq_false c10
            clear c10
            have H' := Aside0.mk H
            clear H
            go_wp2
            go_meet
            case rel => exact ⟨_, (decide (a0 > a1)), (by first | rfl | (simp; done) | (simp [*]; done)), H', ⟨by first | omega | exact Nat.le_refl _⟩, ⟨by repeat (first | (with_reducible first | exact HB.out | apply below_alloc | apply pw_below_drewN | apply below_drew1) | exact HB.out)⟩⟩
        · rw [if_neg c9] at H
          have c9b0 : (a1 == 8) = false := beq_eq_false_iff_ne.mpr c9
          have c9b1 : (a1 != 8) = true := bne_iff_ne.mpr c9
          by_cases c11 : a1 = 16
          · rw [if_pos c11] at H
            have c11b0 : (a1 == 16) = true := beq_iff_eq.mpr c11
            have c11b1 : (a1 != 16) = false := bne_eq_false_iff_eq.mpr c11
            clear c11
            by_cases c12 : a0 < 0
            · rw [if_pos c12] at H
              have c12b0 : decide (a0 < 0) = true := decide_eq_true c12
              clear c12
              have H' := Aside0.mk H
              clear H
              go_wp2
              go_meet
              case rel => exact ⟨_, (true), (by first | rfl | (simp; done) | (simp [*]; done)), H', ⟨by first | omega | exact Nat.le_refl _⟩, ⟨by repeat (first | (with_reducible first | exact HB.out | apply below_alloc | apply pw_below_drewN | apply below_drew1) | exact HB.out)⟩⟩
            · rw [if_neg c12] at H
              have c12b0 : decide (a0 < 0) = false := decide_eq_false c12
              clear c12
              have H' := Aside0.mk H
              clear H
              go_wp2
              go_meet
              case rel => exact ⟨_, (decide (a0 > a1)), (by first | rfl | (simp; done) | (simp [*]; done)), H', ⟨by first | omega | exact Nat.le_refl _⟩, ⟨by repeat (first | (with_reducible first | exact HB.out | apply below_alloc | apply pw_below_drewN | apply below_drew1) | exact HB.out)⟩⟩
          · rw [if_neg c11] at H
            have c11b0 : (a1 == 16) = false := beq_eq_false_iff_ne.mpr c11
            have c11b1 : (a1 != 16) = true := bne_iff_ne.mpr c11
            by_cases c13 : a1 = 32
            · rw [if_pos c13] at H
              have c13b0 : (a1 == 32) = true := beq_iff_eq.mpr c13
              have c13b1 : (a1 != 32) = false := bne_eq_false_iff_eq.mpr c13
              clear c13
              by_cases c14 : a0 < 0
              · rw [if_pos c14] at H
                have c14b0 : decide (a0 < 0) = true := decide_eq_true c14
                clear c14
                have H' := Aside0.mk H
                clear H
                go_wp2
                go_meet
                case rel => exact ⟨_, (true), (by first | rfl | (simp; done) | (simp [*]; done)), H', ⟨by first | omega | exact Nat.le_refl _⟩, ⟨by repeat (first | (with_reducible first | exact HB.out | apply below_alloc | apply pw_below_drewN | apply below_drew1) | exact HB.out)⟩⟩
              · rw [if_neg c14] at H
                have c14b0 : decide (a0 < 0) = false := decide_eq_false c14
                clear c14
                have H' := Aside0.mk H
                clear H
                go_wp2
                go_meet
                case rel => exact ⟨_, (decide (a0 > a1)), (by first | rfl | (simp; done) | (simp [*]; done)), H', ⟨by first | omega | exact Nat.le_refl _⟩, ⟨by repeat (first | (with_reducible first | exact HB.out | apply below_alloc | apply pw_below_drewN | apply below_drew1) | exact HB.out)⟩⟩
            · rw [if_neg c13] at H
              have c13b0 : (a1 == 32) = false := beq_eq_false_iff_ne.mpr c13
              have c13b1 : (a1 != 32) = true := bne_iff_ne.mpr c13
              by_cases c15 : a1 = 64
              · rw [if_pos c15] at H
                have c15b0 : (a1 == 64) = true := beq_iff_eq.mpr c15
                have c15b1 : (a1 != 64) = false := bne_eq_false_iff_eq.mpr c15
                clear c15
                by_cases c16 : a0 < 0
                · rw [if_pos c16] at H
                  have c16b0 : decide (a0 < 0) = true := decide_eq_true c16
                  clear c16
                  have H' := Aside0.mk H
                  clear H
                  go_wp2
                  go_meet
                  case rel => exact ⟨_, (true), (by first | rfl | (simp; done) | (simp [*]; done)), H', ⟨by first | omega | exact Nat.le_refl _⟩, ⟨by repeat (first | (with_reducible first | exact HB.out | apply below_alloc | apply pw_below_drewN | apply below_drew1) | exact HB.out)⟩⟩
                · rw [if_neg c16] at H
                  have c16b0 : decide (a0 < 0) = false := decide_eq_false c16
                  clear c16
                  have H' := Aside0.mk H
                  clear H
                  go_wp2
                  go_meet
                  case rel => exact ⟨_, (decide (a0 > a1)), (by first | rfl | (simp; done) | (simp [*]; done)), H', ⟨by first | omega | exact Nat.le_refl _⟩, ⟨by repeat (first | (with_reducible first | exact HB.out | apply below_alloc | apply pw_below_drewN | apply below_drew1) | exact HB.out)⟩⟩
              · rw [if_neg c15] at H
                have c15b0 : (a1 == 64) = false := beq_eq_false_iff_ne.mpr c15
                have c15b1 : (a1 != 64) = true := bne_iff_ne.mpr c15
                have H' := Aside0.mk H
                clear H
                go_wp2
                go_meet
                case rel => exact ⟨_, (true), (by first | rfl | (simp; done) | (simp [*]; done)), H', ⟨by first | omega | exact Nat.le_refl _⟩, ⟨by repeat (first | (with_reducible first | exact HB.out | apply below_alloc | apply pw_below_drewN | apply below_drew1) | exact HB.out)⟩⟩
  case rest =>
    clear HC4
    try clear c1
    try clear p2
    try clear c5
    try clear c5b0
    try clear c5b1
    try clear c6
    try clear c6b0
    try clear c7
    try clear c7b0
    try clear c7b1
    try clear c8
    try clear c8b0
    try clear c9
    try clear c9b0
    try clear c9b1
    try clear c10
    try clear c10b0
    try clear c11
    try clear c11b0
    try clear c11b1
    try clear c12
    try clear c12b0
    try clear c13
    try clear c13b0
    try clear c13b1
    try clear c14
    try clear c14b0
    try clear c15
    try clear c15b0
    try clear c15b1
    try clear c16
    try clear c16b0
    obtain ⟨kq, x40_3, rfl, HA, HJ3, HB⟩ := hcut
    cases kq with
    | zero => exact absurd HA.out (by simp [cleatlaw02_MaskRow.j0])
    | succ kj3 =>
      have H := HA.out
      clear HA
      simp only [cleatlaw02_MaskRow.j0] at H
      by_cases c17 : x40_3 = true
      · subst c17
        have H1 : ((cleatlaw02_masked.f kj3).bind fun t217 => (some t217)) = some r := by rw [if_pos rfl] at H; exact H
        clear H
        have H := H1
        clear H1
        replace H := Option.bind_eq_some_iff.mp H
        obtain ⟨t217, A180, H⟩ := H
        replace H : (some t217) = some r := H
        have A18 := Aside0.mk A180
        clear A180
        obtain rfl := Option.some.inj H
        go_wp2_with (first | ((with_reducible refine gate_callee (f := 18) rfl ?_); refine goesL_ (some 41) rfl rfl Tryd.func18 (by kernel_rfl) rfl #[] rfl (by (try simp only [List.map_toArray, List.map_cons, List.map_nil]); first | done | rfl | (simp only [List.length_drop, List.length_take]; rfl)) ?_; (with_reducible refine (cleatlaw02_masked.calls kj3  t217 _ A18.out).mono ?_); rintro e w19 ⟨rfl, hb⟩; refine ⟨_, rfl, ?_⟩; have n0_ := Aside0.mk (below_step (by repeat (first | (with_reducible first | exact HB.out | apply below_alloc | apply pw_below_drewN | apply below_drew1) | exact HB.out)) hb); clear HB; have HB := n0_; clear n0_; (try clear hb); (try clear hb2); (try clear hk); (try clear hi)))
        go_ret
        exact ⟨by first | rfl | (simp [errW_none, errW_some] <;> rfl) | (simp [*, errW_none, errW_some] <;> rfl), by repeat (first | (with_reducible first | exact HB.out | apply below_alloc | apply pw_below_drewN | apply below_drew1) | exact HB.out)⟩
      · replace c17 := Bool.eq_false_iff.mpr c17
        subst c17
        have H1 : ((bits_Low.f 18446744073709551615 a0).bind fun t218 => (cleatlaw02_MaskRow.l0 kj3 a0 a1 a2 t218 t218 a1)) = some r := by rw [if_neg (show ¬ (false = true) by decide)] at H; exact H
        clear H
        have H := H1
        clear H1
        replace H := Option.bind_eq_some_iff.mp H
        obtain ⟨t218, A200, H⟩ := H
        replace H : (cleatlaw02_MaskRow.l0 kj3 a0 a1 a2 t218 t218 a1) = some r := H
        have A20 := Aside0.mk A200
        clear A200
        have H' := Aside0.mk H
        clear H
        go_wp2_with (first | ((with_reducible refine gate_callee (f := 26) rfl ?_); refine goesL_ (some 43) rfl rfl Tryd.func26 (by kernel_rfl) rfl #[.int .u64 18446744073709551615, .int .i64 a0] rfl (by (try simp only [List.map_toArray, List.map_cons, List.map_nil]); first | done | rfl | (simp only [List.length_drop, List.length_take]; rfl)) ?_; (with_reducible refine (bits_Low.calls 18446744073709551615 a0 t218 _ A20.out).mono ?_); rintro e w21 ⟨rfl, hb⟩; refine ⟨_, rfl, ?_⟩; have n0_ := Aside0.mk (below_step (by repeat (first | (with_reducible first | exact HB.out | apply below_alloc | apply pw_below_drewN | apply below_drew1) | exact HB.out)) hb); clear HB; have HB := n0_; clear n0_; (try clear hb); (try clear hb2); (try clear hk); (try clear hi)))
        go_loopg [8, 9] kj3 (fun kq v8 v9 w' => ∃ (x8_2 : Int) (x9_2 : Int), v8 = .int .u64 x8_2 ∧ v9 = .int .i64 x9_2 ∧ Aside0 (cleatlaw02_MaskRow.l0 kq a0 a1 a2 t218 x8_2 x9_2 = some r) ∧ Aside0 (kq ≤ kj3) ∧ Aside0 (Below w.heap.size w w'))
        case atStart => exact ⟨(t218), (a1), (by first | rfl | (simp; done) | (simp [*]; done)), (by first | rfl | (simp; done) | (simp [*]; done)), H', ⟨Nat.le_refl _⟩, ⟨by repeat (first | (with_reducible first | exact HB.out | apply below_alloc | apply pw_below_drewN | apply below_drew1) | exact HB.out)⟩⟩
        case round =>
          clear H'
          try clear c1
          try clear c2
          try clear p2
          try clear c5
          try clear c5b0
          try clear c5b1
          try clear c6
          try clear c6b0
          try clear c7
          try clear c7b0
          try clear c7b1
          try clear c8
          try clear c8b0
          try clear c9
          try clear c9b0
          try clear c9b1
          try clear c10
          try clear c10b0
          try clear c11
          try clear c11b0
          try clear c11b1
          try clear c12
          try clear c12b0
          try clear c13
          try clear c13b0
          try clear c13b1
          try clear c14
          try clear c14b0
          try clear c15
          try clear c15b0
          try clear c15b1
          try clear c16
          try clear c16b0
          try clear c17
          try clear c18
          try clear p2
          obtain ⟨x8_2, x9_2, rfl, rfl, HA, HK2, HB⟩ := hrel
          cases gk with
          | zero => exact absurd HA.out (by simp [cleatlaw02_MaskRow.l0])
          | succ k2 =>
            have H := HA.out
            clear HA
            simp only [cleatlaw02_MaskRow.l0] at H
            by_cases c22 : x9_2 < 64
            · rw [if_pos c22] at H
              have c22b0 : decide (x9_2 < 64) = true := decide_eq_true c22
              clear c22
              by_cases c23 : 0 ≤ x9_2
              · rw [if_pos c23] at H
                have c23b0 := eq_true c23
                have c23b1 : decide (0 ≤ x9_2) = true := decide_eq_true c23
                clear c23
                obtain ⟨ji24, hji24⟩ : ∃ j_ : Int, (shl .u64 1 x9_2) = j_ := ⟨_, rfl⟩
                replace H : (cleatlaw02_MaskRow.l0 k2 a0 a1 a2 t218 (IntKind.u64.wrap (x8_2 + (IntKind.u64.wrap (x8_2 * (ji24))))) (wrap64 (2 * x9_2))) = some r := by first | (rw [hji24] at H; exact H) | (simp only [hji24] at H ⊢; exact H)
                have hji24_ : (IntKind.u64.wrap (1 * 2 ^ min x9_2.toNat 64)) = ji24 := hji24
                have hji24z : x9_2 ≤ 64 → (IntKind.u64.wrap (1 * 2 ^ x9_2.toNat)) = ji24 := shl_small hji24
                have hji24u : (IntKind.u64.wrap (2 ^ min x9_2.toNat 64)) = ji24 := by have h_ := hji24_; rw [Int.one_mul] at h_; exact h_
                have hji24v : x9_2 ≤ 64 → (IntKind.u64.wrap (2 ^ x9_2.toNat)) = ji24 := fun hle_ => by have h_ := hji24z hle_; rw [Int.one_mul] at h_; exact h_
                have H' := Aside0.mk H
                clear H
                go_wp2
                go_roundg k2
                case measure => have := HJ3.out; have := HK2.out; omega
                case rel => exact ⟨(IntKind.u64.wrap (x8_2 + (IntKind.u64.wrap (x8_2 * (ji24))))), (wrap64 (2 * x9_2)), (by first | rfl | (simp; done) | (simp only [← hji24] <;> (first | rfl | simp)) | (simp [*]; done)), (by first | rfl | (simp; done) | (simp [*]; done)), H', ⟨by have := HJ3.out; have := HK2.out; omega⟩, ⟨by repeat (first | (with_reducible first | exact HB.out | apply below_alloc | apply pw_below_drewN | apply below_drew1) | exact HB.out)⟩⟩
              · rw [if_neg c23] at H
                exact absurd H (by simp)
            · rw [if_neg c22] at H
              have c22b0 : decide (x9_2 < 64) = false := decide_eq_false c22
              clear c22
              have HC25 := Aside0.mk H
              clear H
              go_upto_region 9 with (fail)
              go_cut [76] (fun v76 wc => ∃ (kq : Nat) (x76_24 : Bool), v76 = .bool x76_24 ∧ Aside0 (cleatlaw02_MaskRow.j2 kq a0 a1 a2 t218 x76_24 = some r) ∧ Aside0 (kq ≤ k2) ∧ Aside0 (Below w.heap.size w wc))
              case first =>
                have H := HC25.out
                clear HC25
                replace H := Option.bind_eq_some_iff.mp H
                obtain ⟨t219, A260, H⟩ := H
                replace H : (if a0 > 0 then (if (t219 != (decide (a0 < a1))) = true then (cleatlaw02_MaskRow.j2 k2 a0 a1 a2 t218 true) else ((mask_Is.f k2 t218).bind fun t220 => (cleatlaw02_MaskRow.j2 k2 a0 a1 a2 t218 (t220 != (decide (a0 < 64)))))) else (if (t219 != false) = true then (cleatlaw02_MaskRow.j2 k2 a0 a1 a2 t218 true) else ((mask_Is.f k2 t218).bind fun t221 => (cleatlaw02_MaskRow.j2 k2 a0 a1 a2 t218 (t221 != false))))) = some r := H
                have A26 := Aside0.mk A260
                clear A260
                by_cases c27 : a0 > 0
                · rw [if_pos c27] at H
                  have c27b0 : decide (0 < a0) = true := decide_eq_true c27
                  clear c27
                  (first | rw [c27b0] | (simp only [i64_w, i32_w]; rw [c27b0]) | skip)
                  by_cases c28 : (t219 != (decide (a0 < a1))) = true
                  · rw [if_pos c28] at H
                    have c28b0 : (t219 != (decide (a0 < a1))) = true := c28
                    (try (have c28b1 : decide (t219 = (decide (a0 < a1))) = false := by simpa using c28))
                    (try (have c28b2 : (t219 == (decide (a0 < a1))) = false := by simpa using c28))
                    (try (have c28b3 : ¬ (t219 = (decide (a0 < a1))) := by simpa using c28))
                    clear c28
                    have H' := Aside0.mk H
                    clear H
                    go_wp2_with (first | ((with_reducible refine gate_callee (f := 19) rfl ?_); refine goesL_ (some 57) rfl rfl Tryd.func19 (by kernel_rfl) rfl #[.int .u64 x8_2] rfl (by (try simp only [List.map_toArray, List.map_cons, List.map_nil]); first | done | rfl | (simp only [List.length_drop, List.length_take]; rfl)) ?_; (with_reducible refine (mask_Is.calls k2 x8_2 t219 _ A26.out).mono ?_); rintro e w29 ⟨rfl, hb⟩; refine ⟨_, rfl, ?_⟩; have n0_ := Aside0.mk (below_step (by repeat (first | (with_reducible first | exact HB.out | apply below_alloc | apply pw_below_drewN | apply below_drew1) | exact HB.out)) hb); clear HB; have HB := n0_; clear n0_; (try clear hb); (try clear hb2); (try clear hk); (try clear hi)))
                    go_meet
                    case rel => exact ⟨_, (true), (by first | rfl | (simp; done) | (simp [*]; done)), H', ⟨by have := HJ3.out; have := HK2.out; first | omega | exact Nat.le_refl _⟩, ⟨by repeat (first | (with_reducible first | exact HB.out | apply below_alloc | apply pw_below_drewN | apply below_drew1) | exact HB.out)⟩⟩
                  · rw [if_neg c28] at H
                    have c28b0 : (t219 != (decide (a0 < a1))) = false := by simpa using c28
                    (try (have c28b1 : decide (t219 = (decide (a0 < a1))) = true := by simpa using c28))
                    (try (have c28b2 : (t219 == (decide (a0 < a1))) = true := by simpa using c28))
                    clear c28
                    replace H := Option.bind_eq_some_iff.mp H
                    obtain ⟨t220, A300, H⟩ := H
                    replace H : (cleatlaw02_MaskRow.j2 k2 a0 a1 a2 t218 (t220 != (decide (a0 < 64)))) = some r := H
                    have A30 := Aside0.mk A300
                    clear A300
                    have H' := Aside0.mk H
                    clear H
                    go_wp2_with (first | ((with_reducible refine gate_callee (f := 19) rfl ?_); refine goesL_ (some 57) rfl rfl Tryd.func19 (by kernel_rfl) rfl #[.int .u64 x8_2] rfl (by (try simp only [List.map_toArray, List.map_cons, List.map_nil]); first | done | rfl | (simp only [List.length_drop, List.length_take]; rfl)) ?_; (with_reducible refine (mask_Is.calls k2 x8_2 t219 _ A26.out).mono ?_); rintro e w31 ⟨rfl, hb⟩; refine ⟨_, rfl, ?_⟩; have n0_ := Aside0.mk (below_step (by repeat (first | (with_reducible first | exact HB.out | apply below_alloc | apply pw_below_drewN | apply below_drew1) | exact HB.out)) hb); clear HB; have HB := n0_; clear n0_; (try clear hb); (try clear hb2); (try clear hk); (try clear hi)) | (go_at_call 19; (with_reducible refine (mask_Is.calls k2 t218 t220 _ A30.out).mono ?_); rintro e w32 ⟨rfl, hb⟩; have n0_ := Aside0.mk (below_step (by repeat (first | (with_reducible first | exact HB.out | apply below_alloc | apply pw_below_drewN | apply below_drew1) | exact HB.out)) hb); clear HB; have HB := n0_; clear n0_; (try clear hb); (try clear hb2); (try clear hk); (try clear hi)))
                    go_meet
                    case rel => exact ⟨_, ((t220 != (decide (a0 < 64)))), (by first | rfl | (simp; done) | (simp [*]; done)), H', ⟨by have := HJ3.out; have := HK2.out; first | omega | exact Nat.le_refl _⟩, ⟨by repeat (first | (with_reducible first | exact HB.out | apply below_alloc | apply pw_below_drewN | apply below_drew1) | exact HB.out)⟩⟩
                · rw [if_neg c27] at H
                  have c27b0 : decide (0 < a0) = false := decide_eq_false c27
                  clear c27
                  (first | rw [c27b0] | (simp only [i64_w, i32_w]; rw [c27b0]) | skip)
                  by_cases c33 : (t219 != false) = true
                  · rw [if_pos c33] at H
                    have c33b0 : (t219 != false) = true := c33
                    (try (have c33b1 : decide (t219 = false) = false := by simpa using c33))
                    (try (have c33b2 : (t219 == false) = false := by simpa using c33))
                    (try (have c33b3 : ¬ (t219 = false) := by simpa using c33))
                    clear c33
                    have H' := Aside0.mk H
                    clear H
                    go_wp2_with (first | ((with_reducible refine gate_callee (f := 19) rfl ?_); refine goesL_ (some 57) rfl rfl Tryd.func19 (by kernel_rfl) rfl #[.int .u64 x8_2] rfl (by (try simp only [List.map_toArray, List.map_cons, List.map_nil]); first | done | rfl | (simp only [List.length_drop, List.length_take]; rfl)) ?_; (with_reducible refine (mask_Is.calls k2 x8_2 t219 _ A26.out).mono ?_); rintro e w34 ⟨rfl, hb⟩; refine ⟨_, rfl, ?_⟩; have n0_ := Aside0.mk (below_step (by repeat (first | (with_reducible first | exact HB.out | apply below_alloc | apply pw_below_drewN | apply below_drew1) | exact HB.out)) hb); clear HB; have HB := n0_; clear n0_; (try clear hb); (try clear hb2); (try clear hk); (try clear hi)))
                    go_meet
                    case rel => exact ⟨_, (true), (by first | rfl | (simp; done) | (simp [*]; done)), H', ⟨by have := HJ3.out; have := HK2.out; first | omega | exact Nat.le_refl _⟩, ⟨by repeat (first | (with_reducible first | exact HB.out | apply below_alloc | apply pw_below_drewN | apply below_drew1) | exact HB.out)⟩⟩
                  · rw [if_neg c33] at H
                    have c33b0 : (t219 != false) = false := by simpa using c33
                    (try (have c33b1 : decide (t219 = false) = true := by simpa using c33))
                    (try (have c33b2 : (t219 == false) = true := by simpa using c33))
                    clear c33
                    replace H := Option.bind_eq_some_iff.mp H
                    obtain ⟨t221, A350, H⟩ := H
                    replace H : (cleatlaw02_MaskRow.j2 k2 a0 a1 a2 t218 (t221 != false)) = some r := H
                    have A35 := Aside0.mk A350
                    clear A350
                    have H' := Aside0.mk H
                    clear H
                    go_wp2_with (first | ((with_reducible refine gate_callee (f := 19) rfl ?_); refine goesL_ (some 57) rfl rfl Tryd.func19 (by kernel_rfl) rfl #[.int .u64 x8_2] rfl (by (try simp only [List.map_toArray, List.map_cons, List.map_nil]); first | done | rfl | (simp only [List.length_drop, List.length_take]; rfl)) ?_; (with_reducible refine (mask_Is.calls k2 x8_2 t219 _ A26.out).mono ?_); rintro e w36 ⟨rfl, hb⟩; refine ⟨_, rfl, ?_⟩; have n0_ := Aside0.mk (below_step (by repeat (first | (with_reducible first | exact HB.out | apply below_alloc | apply pw_below_drewN | apply below_drew1) | exact HB.out)) hb); clear HB; have HB := n0_; clear n0_; (try clear hb); (try clear hb2); (try clear hk); (try clear hi)) | (go_at_call 19; (with_reducible refine (mask_Is.calls k2 t218 t221 _ A35.out).mono ?_); rintro e w37 ⟨rfl, hb⟩; have n0_ := Aside0.mk (below_step (by repeat (first | (with_reducible first | exact HB.out | apply below_alloc | apply pw_below_drewN | apply below_drew1) | exact HB.out)) hb); clear HB; have HB := n0_; clear n0_; (try clear hb); (try clear hb2); (try clear hk); (try clear hi)))
                    go_meet
                    case rel => exact ⟨_, ((t221 != false)), (by first | rfl | (simp; done) | (simp [*]; done)), H', ⟨by have := HJ3.out; have := HK2.out; first | omega | exact Nat.le_refl _⟩, ⟨by repeat (first | (with_reducible first | exact HB.out | apply below_alloc | apply pw_below_drewN | apply below_drew1) | exact HB.out)⟩⟩
              case rest =>
                clear HC25
                try clear c1
                try clear c2
                try clear p2
                try clear c3
                try clear c5
                try clear c5b0
                try clear c5b1
                try clear c6
                try clear c6b0
                try clear p6
                try clear c7
                try clear c7b0
                try clear c7b1
                try clear c8
                try clear c8b0
                try clear c9
                try clear c9b0
                try clear c9b1
                try clear c10
                try clear c10b0
                try clear c11
                try clear c11b0
                try clear c11b1
                try clear c12
                try clear c12b0
                try clear c13
                try clear c13b0
                try clear c13b1
                try clear c14
                try clear c14b0
                try clear c15
                try clear c15b0
                try clear c15b1
                try clear c16
                try clear c16b0
                try clear c17
                try clear c18
                try clear c19
                try clear c22
                try clear c22b0
                try clear c23
                try clear c23b0
                try clear c23b1
                try clear c26
                try clear c27
                try clear c27b0
                try clear c28
                try clear c28b0
                try clear c28b1
                try clear c28b2
                try clear c33
                try clear c33b0
                try clear c33b1
                try clear c33b2
                try clear p2
                obtain ⟨kq, x76_24, rfl, HA, HJ24, HB⟩ := hcut
                cases kq with
                | zero => exact absurd HA.out (by simp [cleatlaw02_MaskRow.j2])
                | succ kj24 =>
                  have H := HA.out
                  clear HA
                  simp only [cleatlaw02_MaskRow.j2] at H
                  by_cases c38 : x76_24 = true
                  · subst c38
                    have H1 : (none) = some r := by rw [if_pos rfl] at H; exact H
                    clear H
                    have H := H1
                    clear H1
                    exact absurd H (by simp)
                  · replace c38 := Bool.eq_false_iff.mpr c38
                    subst c38
                    have H1 : (if a1 < 64 then (cleatlaw02_MaskRow.j3 kj24 a0 a2 t218 true) else (if a0 < 2 then (cleatlaw02_MaskRow.j3 kj24 a0 a2 t218 true) else (if a0 > 60 then (cleatlaw02_MaskRow.j3 kj24 a0 a2 t218 true) else (if a2 ≤ a0 then (cleatlaw02_MaskRow.j3 kj24 a0 a2 t218 true) else (cleatlaw02_MaskRow.j3 kj24 a0 a2 t218 (decide (a2 ≥ 63))))))) = some r := by rw [if_neg (show ¬ (false = true) by decide)] at H; exact H
                    clear H
                    have H := H1
                    clear H1
                    have HC39 := Aside0.mk H
                    clear H
                    go_upto_region 11 with (fail)
                    go_cut [95] (fun v95 wc => ∃ (kq : Nat) (x95_38 : Bool), v95 = .bool x95_38 ∧ Aside0 (cleatlaw02_MaskRow.j3 kq a0 a2 t218 x95_38 = some r) ∧ Aside0 (kq ≤ kj24) ∧ Aside0 (Below w.heap.size w wc))
                    case first =>
                      have H := HC39.out
                      clear HC39
                      by_cases c40 : a1 < 64
                      · rw [if_pos c40] at H
                        have c40b0 : decide (a1 < 64) = true := decide_eq_true c40
                        clear c40
                        (first | rw [c40b0] | (simp only [i64_w, i32_w]; rw [c40b0]) | skip)
                        have H' := Aside0.mk H
                        clear H
                        go_wp2
                        go_meet
                        case rel => exact ⟨_, (true), (by first | rfl | (simp; done) | (simp [*]; done)), H', ⟨by have := HJ3.out; have := HK2.out; have := HJ24.out; first | omega | exact Nat.le_refl _⟩, ⟨by repeat (first | (with_reducible first | exact HB.out | apply below_alloc | apply pw_below_drewN | apply below_drew1) | exact HB.out)⟩⟩
                      · rw [if_neg c40] at H
                        have c40b0 : decide (a1 < 64) = false := decide_eq_false c40
                        clear c40
                        (first | rw [c40b0] | (simp only [i64_w, i32_w]; rw [c40b0]) | skip)
                        by_cases c41 : a0 < 2
                        · rw [if_pos c41] at H
                          have c41b0 : decide (a0 < 2) = true := decide_eq_true c41
                          clear c41
                          have H' := Aside0.mk H
                          clear H
                          go_wp2
                          go_meet
                          case rel => exact ⟨_, (true), (by first | rfl | (simp; done) | (simp [*]; done)), H', ⟨by have := HJ3.out; have := HK2.out; have := HJ24.out; first | omega | exact Nat.le_refl _⟩, ⟨by repeat (first | (with_reducible first | exact HB.out | apply below_alloc | apply pw_below_drewN | apply below_drew1) | exact HB.out)⟩⟩
                        · rw [if_neg c41] at H
                          have c41b0 : decide (a0 < 2) = false := decide_eq_false c41
                          clear c41
                          by_cases c42 : a0 > 60
                          · rw [if_pos c42] at H
                            have c42b0 : decide (60 < a0) = true := decide_eq_true c42
                            clear c42
                            have H' := Aside0.mk H
                            clear H
                            go_wp2
                            go_meet
                            case rel => exact ⟨_, (true), (by first | rfl | (simp; done) | (simp [*]; done)), H', ⟨by have := HJ3.out; have := HK2.out; have := HJ24.out; first | omega | exact Nat.le_refl _⟩, ⟨by repeat (first | (with_reducible first | exact HB.out | apply below_alloc | apply pw_below_drewN | apply below_drew1) | exact HB.out)⟩⟩
                          · rw [if_neg c42] at H
                            have c42b0 : decide (60 < a0) = false := decide_eq_false c42
                            clear c42
                            by_cases c43 : a2 ≤ a0
                            · rw [if_pos c43] at H
                              have c43b0 : decide (a2 ≤ a0) = true := decide_eq_true c43
                              clear c43
                              have H' := Aside0.mk H
                              clear H
                              go_wp2
                              go_meet
                              case rel => exact ⟨_, (true), (by first | rfl | (simp; done) | (simp [*]; done)), H', ⟨by have := HJ3.out; have := HK2.out; have := HJ24.out; first | omega | exact Nat.le_refl _⟩, ⟨by repeat (first | (with_reducible first | exact HB.out | apply below_alloc | apply pw_below_drewN | apply below_drew1) | exact HB.out)⟩⟩
                            · rw [if_neg c43] at H
                              have c43b0 : decide (a2 ≤ a0) = false := decide_eq_false c43
                              clear c43
                              have H' := Aside0.mk H
                              clear H
                              go_wp2
                              go_meet
                              case rel => exact ⟨_, (decide (a2 ≥ 63)), (by first | rfl | (simp; done) | (simp [*]; done)), H', ⟨by have := HJ3.out; have := HK2.out; have := HJ24.out; first | omega | exact Nat.le_refl _⟩, ⟨by repeat (first | (with_reducible first | exact HB.out | apply below_alloc | apply pw_below_drewN | apply below_drew1) | exact HB.out)⟩⟩
                    case rest =>
                      clear HC39
                      try clear c1
                      try clear c2
                      try clear p2
                      try clear c3
                      try clear c4
                      try clear c5
                      try clear c5b0
                      try clear c5b1
                      try clear c6
                      try clear c6b0
                      try clear p6
                      try clear c7
                      try clear c7b0
                      try clear c7b1
                      try clear c8
                      try clear c8b0
                      try clear c9
                      try clear c9b0
                      try clear c9b1
                      try clear c10
                      try clear c10b0
                      try clear c11
                      try clear c11b0
                      try clear c11b1
                      try clear c12
                      try clear c12b0
                      try clear c13
                      try clear c13b0
                      try clear c13b1
                      try clear c14
                      try clear c14b0
                      try clear c15
                      try clear c15b0
                      try clear c15b1
                      try clear c16
                      try clear c16b0
                      try clear c17
                      try clear c18
                      try clear c19
                      try clear c22
                      try clear c22b0
                      try clear c23
                      try clear c23b0
                      try clear c23b1
                      try clear c26
                      try clear c27
                      try clear c27b0
                      try clear c28
                      try clear c28b0
                      try clear c28b1
                      try clear c28b2
                      try clear c33
                      try clear c33b0
                      try clear c33b1
                      try clear c33b2
                      try clear c38
                      try clear c40
                      try clear c40b0
                      try clear c41
                      try clear c41b0
                      try clear c42
                      try clear c42b0
                      try clear c43
                      try clear c43b0
                      try clear p2
                      try clear p6
                      obtain ⟨kq, x95_38, rfl, HA, HJ38, HB⟩ := hcut
                      cases kq with
                      | zero => exact absurd HA.out (by simp [cleatlaw02_MaskRow.j3])
                      | succ kj38 =>
                        have H := HA.out
                        clear HA
                        simp only [cleatlaw02_MaskRow.j3] at H
                        by_cases c44 : x95_38 = true
                        · subst c44
                          have H1 : ((cleatlaw02_masked.f kj38).bind fun t222 => (some t222)) = some r := by rw [if_pos rfl] at H; exact H
                          clear H
                          have H := H1
                          clear H1
                          replace H := Option.bind_eq_some_iff.mp H
                          obtain ⟨t222, A450, H⟩ := H
                          replace H : (some t222) = some r := H
                          have A45 := Aside0.mk A450
                          clear A450
                          obtain rfl := Option.some.inj H
                          go_wp2_with (first | ((with_reducible refine gate_callee (f := 18) rfl ?_); refine goesL_ (some 96) rfl rfl Tryd.func18 (by kernel_rfl) rfl #[] rfl (by (try simp only [List.map_toArray, List.map_cons, List.map_nil]); first | done | rfl | (simp only [List.length_drop, List.length_take]; rfl)) ?_; (with_reducible refine (cleatlaw02_masked.calls kj38  t222 _ A45.out).mono ?_); rintro e w46 ⟨rfl, hb⟩; refine ⟨_, rfl, ?_⟩; have n0_ := Aside0.mk (below_step (by repeat (first | (with_reducible first | exact HB.out | apply below_alloc | apply pw_below_drewN | apply below_drew1) | exact HB.out)) hb); clear HB; have HB := n0_; clear n0_; (try clear hb); (try clear hb2); (try clear hk); (try clear hi)))
                          go_ret
                          exact ⟨by first | rfl | (simp [errW_none, errW_some] <;> rfl) | (simp [*, errW_none, errW_some] <;> rfl), by repeat (first | (with_reducible first | exact HB.out | apply below_alloc | apply pw_below_drewN | apply below_drew1) | exact HB.out)⟩
                        · replace c44 := Bool.eq_false_iff.mpr c44
                          subst c44
                          have H1 : ((cleatlaw02_masked.f kj38).bind fun t223 => (if t223 = true then (if 0 ≤ a2 then ((mask_Is.f kj38 (IntKind.u64.wrap (t218 + (shl .u64 1 a2)))).bind fun t224 => (if t224 = true then (none) else ((mask_Ones.f (IntKind.u64.wrap (t218 + (shl .u64 1 a2)))).bind fun t225 => (some (t225 == (wrap64 (a0 + 1))))))) else (none)) else (none))) = some r := by rw [if_neg (show ¬ (false = true) by decide)] at H; exact H
                          clear H
                          have H := H1
                          clear H1
                          replace H := Option.bind_eq_some_iff.mp H
                          obtain ⟨t223, A470, H⟩ := H
                          replace H : (if t223 = true then (if 0 ≤ a2 then ((mask_Is.f kj38 (IntKind.u64.wrap (t218 + (shl .u64 1 a2)))).bind fun t224 => (if t224 = true then (none) else ((mask_Ones.f (IntKind.u64.wrap (t218 + (shl .u64 1 a2)))).bind fun t225 => (some (t225 == (wrap64 (a0 + 1))))))) else (none)) else (none)) = some r := H
                          have A47 := Aside0.mk A470
                          clear A470
                          by_cases c48 : t223 = true
                          · subst c48
                            have H1 : (if 0 ≤ a2 then ((mask_Is.f kj38 (IntKind.u64.wrap (t218 + (shl .u64 1 a2)))).bind fun t224 => (if t224 = true then (none) else ((mask_Ones.f (IntKind.u64.wrap (t218 + (shl .u64 1 a2)))).bind fun t225 => (some (t225 == (wrap64 (a0 + 1))))))) else (none)) = some r := by rw [if_pos rfl] at H; exact H
                            clear H
                            have H := H1
                            clear H1
                            by_cases c49 : 0 ≤ a2
                            · rw [if_pos c49] at H
                              have c49b0 := eq_true c49
                              have c49b1 : decide (0 ≤ a2) = true := decide_eq_true c49
                              clear c49
                              obtain ⟨ji50, hji50⟩ : ∃ j_ : Int, (shl .u64 1 a2) = j_ := ⟨_, rfl⟩
                              replace H : ((mask_Is.f kj38 (IntKind.u64.wrap (t218 + (ji50)))).bind fun t224 => (if t224 = true then (none) else ((mask_Ones.f (IntKind.u64.wrap (t218 + (ji50)))).bind fun t225 => (some (t225 == (wrap64 (a0 + 1))))))) = some r := by first | (rw [hji50] at H; exact H) | (simp only [hji50] at H ⊢; exact H)
                              (try rw [hji50] at A47)
                              have hji50_ : (IntKind.u64.wrap (1 * 2 ^ min a2.toNat 64)) = ji50 := hji50
                              have hji50z : a2 ≤ 64 → (IntKind.u64.wrap (1 * 2 ^ a2.toNat)) = ji50 := shl_small hji50
                              have hji50u : (IntKind.u64.wrap (2 ^ min a2.toNat 64)) = ji50 := by have h_ := hji50_; rw [Int.one_mul] at h_; exact h_
                              have hji50v : a2 ≤ 64 → (IntKind.u64.wrap (2 ^ a2.toNat)) = ji50 := fun hle_ => by have h_ := hji50z hle_; rw [Int.one_mul] at h_; exact h_
                              replace H := Option.bind_eq_some_iff.mp H
                              obtain ⟨t224, A510, H⟩ := H
                              replace H : (if t224 = true then (none) else ((mask_Ones.f (IntKind.u64.wrap (t218 + (ji50)))).bind fun t225 => (some (t225 == (wrap64 (a0 + 1)))))) = some r := H
                              have A51 := Aside0.mk A510
                              clear A510
                              by_cases c52 : t224 = true
                              · subst c52
                                have H1 : (none) = some r := by rw [if_pos rfl] at H; exact H
                                clear H
                                have H := H1
                                clear H1
                                exact absurd H (by simp)
                              · replace c52 := Bool.eq_false_iff.mpr c52
                                subst c52
                                have H1 : ((mask_Ones.f (IntKind.u64.wrap (t218 + (ji50)))).bind fun t225 => (some (t225 == (wrap64 (a0 + 1))))) = some r := by rw [if_neg (show ¬ (false = true) by decide)] at H; exact H
                                clear H
                                have H := H1
                                clear H1
                                have c53b0 := eq_true (of_decide_eq_true (by first | (with_reducible assumption) | assumption) : 0 ≤ a2)
                                replace H := Option.bind_eq_some_iff.mp H
                                obtain ⟨t225, A540, H⟩ := H
                                replace H : (some (t225 == (wrap64 (a0 + 1)))) = some r := H
                                have A54 := Aside0.mk A540
                                clear A540
                                obtain rfl := Option.some.inj H
                                go_wp2_with (first | ((with_reducible refine gate_callee (f := 18) rfl ?_); refine goesL_ (some 97) rfl rfl Tryd.func18 (by kernel_rfl) rfl #[] rfl (by (try simp only [List.map_toArray, List.map_cons, List.map_nil]); first | done | rfl | (simp only [List.length_drop, List.length_take]; rfl)) ?_; (with_reducible refine (cleatlaw02_masked.calls kj38  true _ A47.out).mono ?_); rintro e w55 ⟨rfl, hb⟩; refine ⟨_, rfl, ?_⟩; have n0_ := Aside0.mk (below_step (by repeat (first | (with_reducible first | exact HB.out | apply below_alloc | apply pw_below_drewN | apply below_drew1) | exact HB.out)) hb); clear HB; have HB := n0_; clear n0_; (try clear hb); (try clear hb2); (try clear hk); (try clear hi)) | (go_at_call 19; (with_reducible refine (mask_Is.calls kj38 (IntKind.u64.wrap (t218 + (ji50))) false _ A51.out).mono ?_); rintro e w56 ⟨rfl, hb⟩; have n0_ := Aside0.mk (below_step (by repeat (first | (with_reducible first | exact HB.out | apply below_alloc | apply pw_below_drewN | apply below_drew1) | exact HB.out)) hb); clear HB; have HB := n0_; clear n0_; (try clear hb); (try clear hb2); (try clear hk); (try clear hi)) | (go_at_call 23; (with_reducible refine (mask_Ones.calls (IntKind.u64.wrap (t218 + (ji50))) t225 _ A54.out).mono ?_); rintro e w' ⟨rfl, ⟨nd, rfl⟩⟩))
                                go_ret
                                exact ⟨by first | rfl | (simp [errW_none, errW_some] <;> rfl) | (simp only [← hji50]; first | rfl | (simp [errW_none, errW_some] <;> rfl)) | (simp [*, errW_none, errW_some] <;> rfl), by repeat (first | (with_reducible first | exact HB.out | apply below_alloc | apply pw_below_drewN | apply below_drew1) | exact HB.out)⟩
                            · rw [if_neg c49] at H
                              exact absurd H (by simp)
                          · replace c48 := Bool.eq_false_iff.mpr c48
                            subst c48
                            have H1 : (none) = some r := by rw [if_neg (show ¬ (false = true) by decide)] at H; exact H
                            clear H
                            have H := H1
                            clear H1
                            exact absurd H (by simp)

/-- THE ONE PURE STATEMENT of cleatlaw02_MaskRow: yours. -/
def cleatlaw02_MaskRow.Pure : Prop := ∀ (a0 : Int) (a1 : Int) (a2 : Int), (Lit.int .i64 a0).wf = true → (Lit.int .i64 a1).wf = true → (Lit.int .i64 a2).wf = true → ∃ k, cleatlaw02_MaskRow.f k a0 a1 a2 = some true
theorem cleatlaw02_MaskRow.walk (P : cleatlaw02_MaskRow.Pure) (a0 : Int) (a1 : Int) (a2 : Int) (w : World) (w0 : (Lit.int .i64 a0).wf = true) (w1 : (Lit.int .i64 a1).wf = true) (w2 : (Lit.int .i64 a2).wf = true) (hTab : TabW w) :
    Calls Tryd.prog 6 #[.int .i64 a0, .int .i64 a1, .int .i64 a2] w fun e w' => e = .returned (.bool true) ∧ Below w.heap.size w w' := by
  obtain ⟨k, h⟩ := P a0 a1 a2 w0 w1 w2
  refine (cleatlaw02_MaskRow.calls k a0 a1 a2 true w h).mono ?_
  rintro e w' ⟨rfl, hd⟩
  exact ⟨rfl, hd⟩

end Go.Proofs.YtbklmlbmbnnjkaaDoor.P
