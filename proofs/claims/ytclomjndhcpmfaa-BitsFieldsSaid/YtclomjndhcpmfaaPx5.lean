/- Written for this claim by a program of this session (drive.py, over the print of the kit): Lean functions with the answers of Go functions, and the proofs that the Go code comes to these answers, under no condition but the readings of the arguments that each theorem names. -/
import Derived.Test.YtclomjndhcpmfaaPx0
import Derived.Test.YtclomjndhcpmfaaPx1
import Derived.Test.YtclomjndhcpmfaaPx3
import Derived.Test.YtclomjndhcpmfaaPx4
namespace Go.Proofs.Ytclomjndhcpmfaa.P
open Go.RowKit Go.Proofs.YtclomjndhcpmfaaW.PrintWords Go.Proofs.YtclomjndhcpmfaaW.PrintLast Go.Proofs.YtclomjndhcpmfaaW.PrintMore
attribute [local go_sem] max2_int min2_int max_two min_two max_three min_three max_four min_four   -- for this text's walks alone
set_option linter.unusedVariables false
set_option linter.unusedSimpArgs false

attribute [local go_sem high] eqA24
/-! ### cleatref03_Shift: function 21 -/
mutual
def cleatref03_Shift.j0 : Nat → Int → Int → Int → Bool → Option (Int × Int)
  | 0, _, _, _, _ => none
  | k + 1, x0, x1, x2, x24 => if x24 = true then (some (0, 1)) else (cleatref03_Shift.l0 k x0 x1 x2 0 0)
def cleatref03_Shift.l0 : Nat → Int → Int → Int → Int → Int → Option (Int × Int)
  | 0, _, _, _, _, _ => none
  | k + 1, x0, x1, x2, x8, x9 => if x9 < 64 then (if x1 = 0 then (cleatref03_Shift.j2 k x0 x1 x2 x8 x9 (wrap64 (x9 - x2))) else (cleatref03_Shift.j2 k x0 x1 x2 x8 x9 (wrap64 (x9 + x2)))) else (some (x8, 0))
def cleatref03_Shift.j2 : Nat → Int → Int → Int → Int → Int → Int → Option (Int × Int)
  | 0, _, _, _, _, _, _ => none
  | k + 1, x0, x1, x2, x8, x9, x10 => if x1 = 2 then (cleatref03_Shift.j3 k x0 x1 x2 x8 x9 (mn x10 63)) else (cleatref03_Shift.j3 k x0 x1 x2 x8 x9 x10)
def cleatref03_Shift.j3 : Nat → Int → Int → Int → Int → Int → Int → Option (Int × Int)
  | 0, _, _, _, _, _, _ => none
  | k + 1, x0, x1, x2, x8, x9, x10 => if x1 = 3 then (cleatref03_Shift.j4 k x0 x1 x2 x8 x9 (Int.tmod x10 64)) else (cleatref03_Shift.j4 k x0 x1 x2 x8 x9 x10)
def cleatref03_Shift.j4 : Nat → Int → Int → Int → Int → Int → Int → Option (Int × Int)
  | 0, _, _, _, _, _, _ => none
  | k + 1, x0, x1, x2, x8, x9, x10 => if x10 ≥ 0 then (if x10 ≤ 63 then ((cleatref01_Bit.f k x0 x10).bind fun t123 => (if t123 = true then ((cleatref01_Power.f k x9).bind fun t124 => (cleatref03_Shift.l0 k x0 x1 x2 (IntKind.u64.wrap (x8 + t124)) (wrap64 (x9 + 1)))) else (cleatref03_Shift.l0 k x0 x1 x2 x8 (wrap64 (x9 + 1))))) else (cleatref03_Shift.l0 k x0 x1 x2 x8 (wrap64 (x9 + 1)))) else (cleatref03_Shift.l0 k x0 x1 x2 x8 (wrap64 (x9 + 1)))
end
def cleatref03_Shift.f (k : Nat) (a0 : Int) (a1 : Int) (a2 : Int) : Option (Int × Int) := if a1 < 0 then (cleatref03_Shift.j0 k a0 a1 a2 true) else (if a1 > 3 then (cleatref03_Shift.j0 k a0 a1 a2 true) else (if a2 < 0 then (cleatref03_Shift.j0 k a0 a1 a2 true) else (cleatref03_Shift.j0 k a0 a1 a2 (decide (a2 > 63)))))
theorem cleatref03_Shift.mono_l : ∀ k, (∀ y0 y1 y2 y3, LeO (cleatref03_Shift.j0 k y0 y1 y2 y3) (cleatref03_Shift.j0 (k + 1) y0 y1 y2 y3)) ∧ (∀ y0 y1 y2 y3 y4, LeO (cleatref03_Shift.l0 k y0 y1 y2 y3 y4) (cleatref03_Shift.l0 (k + 1) y0 y1 y2 y3 y4)) ∧ (∀ y0 y1 y2 y3 y4 y5, LeO (cleatref03_Shift.j2 k y0 y1 y2 y3 y4 y5) (cleatref03_Shift.j2 (k + 1) y0 y1 y2 y3 y4 y5)) ∧ (∀ y0 y1 y2 y3 y4 y5, LeO (cleatref03_Shift.j3 k y0 y1 y2 y3 y4 y5) (cleatref03_Shift.j3 (k + 1) y0 y1 y2 y3 y4 y5)) ∧ (∀ y0 y1 y2 y3 y4 y5, LeO (cleatref03_Shift.j4 k y0 y1 y2 y3 y4 y5) (cleatref03_Shift.j4 (k + 1) y0 y1 y2 y3 y4 y5))
  | 0 => ⟨fun _ _ _ _ r h => by simp [cleatref03_Shift.j0] at h, fun _ _ _ _ _ r h => by simp [cleatref03_Shift.l0] at h, fun _ _ _ _ _ _ r h => by simp [cleatref03_Shift.j2] at h, fun _ _ _ _ _ _ r h => by simp [cleatref03_Shift.j3] at h, fun _ _ _ _ _ _ r h => by simp [cleatref03_Shift.j4] at h⟩
  | k + 1 => by
    obtain ⟨ih0, ih1, ih2, ih3, ih4⟩ := cleatref03_Shift.mono_l k
    refine ⟨?_, ?_, ?_, ?_, ?_⟩
    · intro y0 y1 y2 y3
      unfold cleatref03_Shift.j0
      repeat' first
      | (with_reducible exact ih0 _ _ _ _)
      | (with_reducible exact ih1 _ _ _ _ _)
      | (with_reducible exact ih2 _ _ _ _ _ _)
      | (with_reducible exact ih3 _ _ _ _ _ _)
      | (with_reducible exact ih4 _ _ _ _ _ _)
      | (with_reducible exact cleatref01_Bit.mono _ _ _)
      | (with_reducible exact cleatref01_Power.mono _ _)
      | (with_reducible exact LeO.refl _)
      | (with_reducible exact LeO.none _)
      | (with_reducible refine LeO.ite ?_ ?_)
      | (with_reducible refine LeO.bind ?_ (fun _ => ?_))
      | exact ih0 _ _ _ _
      | exact ih1 _ _ _ _ _
      | exact ih2 _ _ _ _ _ _
      | exact ih3 _ _ _ _ _ _
      | exact ih4 _ _ _ _ _ _
      | exact cleatref01_Bit.mono _ _ _
      | exact cleatref01_Power.mono _ _
      | exact LeO.none _
      | refine LeO.ite ?_ ?_
      | refine LeO.bind ?_ (fun _ => ?_)
    · intro y0 y1 y2 y3 y4
      unfold cleatref03_Shift.l0
      repeat' first
      | (with_reducible exact ih0 _ _ _ _)
      | (with_reducible exact ih1 _ _ _ _ _)
      | (with_reducible exact ih2 _ _ _ _ _ _)
      | (with_reducible exact ih3 _ _ _ _ _ _)
      | (with_reducible exact ih4 _ _ _ _ _ _)
      | (with_reducible exact cleatref01_Bit.mono _ _ _)
      | (with_reducible exact cleatref01_Power.mono _ _)
      | (with_reducible exact LeO.refl _)
      | (with_reducible exact LeO.none _)
      | (with_reducible refine LeO.ite ?_ ?_)
      | (with_reducible refine LeO.bind ?_ (fun _ => ?_))
      | exact ih0 _ _ _ _
      | exact ih1 _ _ _ _ _
      | exact ih2 _ _ _ _ _ _
      | exact ih3 _ _ _ _ _ _
      | exact ih4 _ _ _ _ _ _
      | exact cleatref01_Bit.mono _ _ _
      | exact cleatref01_Power.mono _ _
      | exact LeO.none _
      | refine LeO.ite ?_ ?_
      | refine LeO.bind ?_ (fun _ => ?_)
    · intro y0 y1 y2 y3 y4 y5
      unfold cleatref03_Shift.j2
      repeat' first
      | (with_reducible exact ih0 _ _ _ _)
      | (with_reducible exact ih1 _ _ _ _ _)
      | (with_reducible exact ih2 _ _ _ _ _ _)
      | (with_reducible exact ih3 _ _ _ _ _ _)
      | (with_reducible exact ih4 _ _ _ _ _ _)
      | (with_reducible exact cleatref01_Bit.mono _ _ _)
      | (with_reducible exact cleatref01_Power.mono _ _)
      | (with_reducible exact LeO.refl _)
      | (with_reducible exact LeO.none _)
      | (with_reducible refine LeO.ite ?_ ?_)
      | (with_reducible refine LeO.bind ?_ (fun _ => ?_))
      | exact ih0 _ _ _ _
      | exact ih1 _ _ _ _ _
      | exact ih2 _ _ _ _ _ _
      | exact ih3 _ _ _ _ _ _
      | exact ih4 _ _ _ _ _ _
      | exact cleatref01_Bit.mono _ _ _
      | exact cleatref01_Power.mono _ _
      | exact LeO.none _
      | refine LeO.ite ?_ ?_
      | refine LeO.bind ?_ (fun _ => ?_)
    · intro y0 y1 y2 y3 y4 y5
      unfold cleatref03_Shift.j3
      repeat' first
      | (with_reducible exact ih0 _ _ _ _)
      | (with_reducible exact ih1 _ _ _ _ _)
      | (with_reducible exact ih2 _ _ _ _ _ _)
      | (with_reducible exact ih3 _ _ _ _ _ _)
      | (with_reducible exact ih4 _ _ _ _ _ _)
      | (with_reducible exact cleatref01_Bit.mono _ _ _)
      | (with_reducible exact cleatref01_Power.mono _ _)
      | (with_reducible exact LeO.refl _)
      | (with_reducible exact LeO.none _)
      | (with_reducible refine LeO.ite ?_ ?_)
      | (with_reducible refine LeO.bind ?_ (fun _ => ?_))
      | exact ih0 _ _ _ _
      | exact ih1 _ _ _ _ _
      | exact ih2 _ _ _ _ _ _
      | exact ih3 _ _ _ _ _ _
      | exact ih4 _ _ _ _ _ _
      | exact cleatref01_Bit.mono _ _ _
      | exact cleatref01_Power.mono _ _
      | exact LeO.none _
      | refine LeO.ite ?_ ?_
      | refine LeO.bind ?_ (fun _ => ?_)
    · intro y0 y1 y2 y3 y4 y5
      unfold cleatref03_Shift.j4
      repeat' first
      | (with_reducible exact ih0 _ _ _ _)
      | (with_reducible exact ih1 _ _ _ _ _)
      | (with_reducible exact ih2 _ _ _ _ _ _)
      | (with_reducible exact ih3 _ _ _ _ _ _)
      | (with_reducible exact ih4 _ _ _ _ _ _)
      | (with_reducible exact cleatref01_Bit.mono _ _ _)
      | (with_reducible exact cleatref01_Power.mono _ _)
      | (with_reducible exact LeO.refl _)
      | (with_reducible exact LeO.none _)
      | (with_reducible refine LeO.ite ?_ ?_)
      | (with_reducible refine LeO.bind ?_ (fun _ => ?_))
      | exact ih0 _ _ _ _
      | exact ih1 _ _ _ _ _
      | exact ih2 _ _ _ _ _ _
      | exact ih3 _ _ _ _ _ _
      | exact ih4 _ _ _ _ _ _
      | exact cleatref01_Bit.mono _ _ _
      | exact cleatref01_Power.mono _ _
      | exact LeO.none _
      | refine LeO.ite ?_ ?_
      | refine LeO.bind ?_ (fun _ => ?_)
theorem cleatref03_Shift.mono : ∀ a0 a1 a2 k, LeO (cleatref03_Shift.f k a0 a1 a2) (cleatref03_Shift.f (k + 1) a0 a1 a2) := by
  intro a0 a1 a2 k
  obtain ⟨ih0, ih1, ih2, ih3, ih4⟩ := cleatref03_Shift.mono_l k
  unfold cleatref03_Shift.f
  repeat' first
      | (with_reducible exact ih0 _ _ _ _)
      | (with_reducible exact ih1 _ _ _ _ _)
      | (with_reducible exact ih2 _ _ _ _ _ _)
      | (with_reducible exact ih3 _ _ _ _ _ _)
      | (with_reducible exact ih4 _ _ _ _ _ _)
      | (with_reducible exact cleatref01_Bit.mono _ _ _)
      | (with_reducible exact cleatref01_Power.mono _ _)
      | (with_reducible exact LeO.refl _)
      | (with_reducible exact LeO.none _)
      | (with_reducible refine LeO.ite ?_ ?_)
      | (with_reducible refine LeO.bind ?_ (fun _ => ?_))
      | exact ih0 _ _ _ _
      | exact ih1 _ _ _ _ _
      | exact ih2 _ _ _ _ _ _
      | exact ih3 _ _ _ _ _ _
      | exact ih4 _ _ _ _ _ _
      | exact cleatref01_Bit.mono _ _ _
      | exact cleatref01_Power.mono _ _
      | exact LeO.none _
      | refine LeO.ite ?_ ?_
      | refine LeO.bind ?_ (fun _ => ?_)
set_option maxHeartbeats 8000000 in
set_option maxRecDepth 100000 in
theorem cleatref03_Shift.calls (k : Nat) (a0 : Int) (a1 : Int) (a2 : Int) (r1 : Int) (r2 : Int) (w : World) (h : cleatref03_Shift.f k a0 a1 a2 = some (r1, r2)) :
    Calls Try.prog 21 #[.int .u64 a0, .int .i64 a1, .int .i64 a2] w fun e w' => e = .returned (.tuple #[.int .u64 r1, .int .i64 r2]) ∧ Below w.heap.size w w' := by
  have HB := Aside0.mk (Below.refl w.heap.size w)
  have H : (if a1 < 0 then (cleatref03_Shift.j0 k a0 a1 a2 true) else (if a1 > 3 then (cleatref03_Shift.j0 k a0 a1 a2 true) else (if a2 < 0 then (cleatref03_Shift.j0 k a0 a1 a2 true) else (cleatref03_Shift.j0 k a0 a1 a2 (decide (a2 > 63)))))) = some (r1, r2) := h
  clear h
  have HC4 := Aside0.mk H
  clear H
  go_enter Try.func21, Try.ntmps21
  go_upto_region 1 with (fail)
  go_cut [24] (fun v24 wc => ∃ (kq : Nat) (x24_3 : Bool), v24 = .bool x24_3 ∧ Aside0 (cleatref03_Shift.j0 kq a0 a1 a2 x24_3 = some (r1, r2)) ∧ Aside0 (kq ≤ k) ∧ Aside0 (Below w.heap.size w wc))
  case first =>
    have H := HC4.out
    clear HC4
    by_cases c5 : a1 < 0
    · rw [if_pos c5] at H
      have c5b0 : decide (a1 < 0) = true := decide_eq_true c5
      clear c5
      (first | rw [c5b0] | (simp only [i64_w, i32_w]; rw [c5b0]) | skip)
      have H' := Aside0.mk H
      clear H
      go_wp2
      go_meet
      case rel => exact ⟨_, (true), (by first | rfl | (simp; done) | (simp [*]; done)), H', ⟨by first | omega | exact Nat.le_refl _⟩, ⟨by repeat (first | (with_reducible first | exact HB.out | apply below_alloc | apply pw_below_drewN | apply below_drew1) | exact HB.out)⟩⟩
    · rw [if_neg c5] at H
      have c5b0 : decide (a1 < 0) = false := decide_eq_false c5
      clear c5
      (first | rw [c5b0] | (simp only [i64_w, i32_w]; rw [c5b0]) | skip)
      by_cases c6 : a1 > 3
      · rw [if_pos c6] at H
        have c6b0 : decide (3 < a1) = true := decide_eq_true c6
        clear c6
        have H' := Aside0.mk H
        clear H
        go_wp2
        go_meet
        case rel => exact ⟨_, (true), (by first | rfl | (simp; done) | (simp [*]; done)), H', ⟨by first | omega | exact Nat.le_refl _⟩, ⟨by repeat (first | (with_reducible first | exact HB.out | apply below_alloc | apply pw_below_drewN | apply below_drew1) | exact HB.out)⟩⟩
      · rw [if_neg c6] at H
        have c6b0 : decide (3 < a1) = false := decide_eq_false c6
        clear c6
        by_cases c7 : a2 < 0
        · rw [if_pos c7] at H
          have c7b0 : decide (a2 < 0) = true := decide_eq_true c7
          clear c7
          have H' := Aside0.mk H
          clear H
          go_wp2
          go_meet
          case rel => exact ⟨_, (true), (by first | rfl | (simp; done) | (simp [*]; done)), H', ⟨by first | omega | exact Nat.le_refl _⟩, ⟨by repeat (first | (with_reducible first | exact HB.out | apply below_alloc | apply pw_below_drewN | apply below_drew1) | exact HB.out)⟩⟩
        · rw [if_neg c7] at H
          have c7b0 : decide (a2 < 0) = false := decide_eq_false c7
          clear c7
          have H' := Aside0.mk H
          clear H
          go_wp2
          go_meet
          case rel => exact ⟨_, (decide (a2 > 63)), (by first | rfl | (simp; done) | (simp [*]; done)), H', ⟨by first | omega | exact Nat.le_refl _⟩, ⟨by repeat (first | (with_reducible first | exact HB.out | apply below_alloc | apply pw_below_drewN | apply below_drew1) | exact HB.out)⟩⟩
  case rest =>
    clear HC4
    try clear c2
    try clear p2
    try clear c5
    try clear c5b0
    try clear c6
    try clear c6b0
    try clear c7
    try clear c7b0
    obtain ⟨kq, x24_3, rfl, HA, HJ3, HB⟩ := hcut
    cases kq with
    | zero => exact absurd HA.out (by simp [cleatref03_Shift.j0])
    | succ kj3 =>
      have H := HA.out
      clear HA
      simp only [cleatref03_Shift.j0] at H
      by_cases c8 : x24_3 = true
      · subst c8
        have H1 : (some (0, 1)) = some (r1, r2) := by rw [if_pos rfl] at H; exact H
        clear H
        have H := H1
        clear H1
        simp only [Option.some.injEq, Prod.mk.injEq] at H
        obtain ⟨rfl, rfl⟩ := H
        go_wp2
        go_ret2
        exact ⟨by first | rfl | (simp [errW_none, errW_some] <;> rfl) | (simp [*, errW_none, errW_some] <;> rfl), by repeat (first | (with_reducible first | exact HB.out | apply below_alloc | apply pw_below_drewN | apply below_drew1) | exact HB.out)⟩
      · replace c8 := Bool.eq_false_iff.mpr c8
        subst c8
        have H1 : (cleatref03_Shift.l0 kj3 a0 a1 a2 0 0) = some (r1, r2) := by rw [if_neg (show ¬ (false = true) by decide)] at H; exact H
        clear H
        have H := H1
        clear H1
        have H' := Aside0.mk H
        clear H
        go_wp2
        go_loopg [8, 9] kj3 (fun kq v8 v9 w' => ∃ (x8_2 : Int) (x9_2 : Int), v8 = .int .u64 x8_2 ∧ v9 = .int .i64 x9_2 ∧ Aside0 (cleatref03_Shift.l0 kq a0 a1 a2 x8_2 x9_2 = some (r1, r2)) ∧ Aside0 (kq ≤ kj3) ∧ Aside0 (Below w.heap.size w w'))
        case atStart => exact ⟨(0), (0), (by first | rfl | (simp; done) | (simp [*]; done)), (by first | rfl | (simp; done) | (simp [*]; done)), H', ⟨Nat.le_refl _⟩, ⟨by repeat (first | (with_reducible first | exact HB.out | apply below_alloc | apply pw_below_drewN | apply below_drew1) | exact HB.out)⟩⟩
        case round =>
          clear H'
          try clear c2
          try clear p2
          try clear c5
          try clear c5b0
          try clear c6
          try clear c6b0
          try clear c7
          try clear c7b0
          try clear c8
          try clear p2
          obtain ⟨x8_2, x9_2, rfl, rfl, HA, HK2, HB⟩ := hrel
          cases gk with
          | zero => exact absurd HA.out (by simp [cleatref03_Shift.l0])
          | succ k2 =>
            have H := HA.out
            clear HA
            simp only [cleatref03_Shift.l0] at H
            by_cases c9 : x9_2 < 64
            · rw [if_pos c9] at H
              have c9b0 : decide (x9_2 < 64) = true := decide_eq_true c9
              clear c9
              have HC10 := Aside0.mk H
              clear H
              go_upto_if 33 with (fail)
              go_cut [10] (fun v10 wc => ∃ (kq : Nat) (x10_9 : Int), v10 = .int .i64 x10_9 ∧ Aside0 (cleatref03_Shift.j2 kq a0 a1 a2 x8_2 x9_2 x10_9 = some (r1, r2)) ∧ Aside0 (kq ≤ k2) ∧ Aside0 (Below w.heap.size w wc))
              case first =>
                have H := HC10.out
                clear HC10
                by_cases c11 : a1 = 0
                · rw [if_pos c11] at H
                  have c11b0 : (a1 == 0) = true := beq_iff_eq.mpr c11
                  have c11b1 : (a1 != 0) = false := bne_eq_false_iff_eq.mpr c11
                  clear c11
                  (first | rw [c11b0] | (simp only [i64_w, i32_w]; rw [c11b0]) | skip)
                  have H' := Aside0.mk H
                  clear H
                  go_wp2
                  go_meet
                  case rel => exact ⟨_, (wrap64 (x9_2 - a2)), (by first | rfl | (simp; done) | (simp [*]; done)), H', ⟨by have := HJ3.out; have := HK2.out; first | omega | exact Nat.le_refl _⟩, ⟨by repeat (first | (with_reducible first | exact HB.out | apply below_alloc | apply pw_below_drewN | apply below_drew1) | exact HB.out)⟩⟩
                · rw [if_neg c11] at H
                  have c11b0 : (a1 == 0) = false := beq_eq_false_iff_ne.mpr c11
                  have c11b1 : (a1 != 0) = true := bne_iff_ne.mpr c11
                  (first | rw [c11b0] | (simp only [i64_w, i32_w]; rw [c11b0]) | skip)
                  have H' := Aside0.mk H
                  clear H
                  go_wp2
                  go_meet
                  case rel => exact ⟨_, (wrap64 (x9_2 + a2)), (by first | rfl | (simp; done) | (simp [*]; done)), H', ⟨by have := HJ3.out; have := HK2.out; first | omega | exact Nat.le_refl _⟩, ⟨by repeat (first | (with_reducible first | exact HB.out | apply below_alloc | apply pw_below_drewN | apply below_drew1) | exact HB.out)⟩⟩
              case rest =>
                clear HC10
                try clear c1
                try clear c2
                try clear p2
                try clear c5
                try clear c5b0
                try clear c6
                try clear c6b0
                try clear p6
                try clear c7
                try clear c7b0
                try clear c8
                try clear c9
                try clear c9b0
                try clear c11
                try clear c11b0
                try clear c11b1
                try clear p2
                obtain ⟨kq, x10_9, rfl, HA, HJ9, HB⟩ := hcut
                cases kq with
                | zero => exact absurd HA.out (by simp [cleatref03_Shift.j2])
                | succ kj9 =>
                  have H := HA.out
                  clear HA
                  simp only [cleatref03_Shift.j2] at H
                  have HC12 := Aside0.mk H
                  clear H
                  go_upto_if 38 with (fail)
                  go_cut [10] (fun v10 wc => ∃ (kq : Nat) (x10_11 : Int), v10 = .int .i64 x10_11 ∧ Aside0 (cleatref03_Shift.j3 kq a0 a1 a2 x8_2 x9_2 x10_11 = some (r1, r2)) ∧ Aside0 (kq ≤ kj9) ∧ Aside0 (Below w.heap.size w wc))
                  case first =>
                    have H := HC12.out
                    clear HC12
                    by_cases c13 : a1 = 2
                    · rw [if_pos c13] at H
                      have c13b0 : (a1 == 2) = true := beq_iff_eq.mpr c13
                      have c13b1 : (a1 != 2) = false := bne_eq_false_iff_eq.mpr c13
                      clear c13
                      (first | rw [c13b0] | (simp only [i64_w, i32_w]; rw [c13b0]) | skip)
                      obtain ⟨ji14, hji14⟩ : ∃ j_ : Int, (mn x10_9 63) = j_ := ⟨_, rfl⟩
                      replace H : (cleatref03_Shift.j3 kj9 a0 a1 a2 x8_2 x9_2 ji14) = some (r1, r2) := by first | (rw [hji14] at H; exact H) | (simp only [hji14] at H ⊢; exact H)
                      have hji14_ : (if 63 < x10_9 then 63 else x10_9) = ji14 := hji14
                      have H' := Aside0.mk H
                      clear H
                      go_wp2
                      go_meet
                      case rel => exact ⟨_, (ji14), (by first | rfl | (simp; done) | (simp only [← hji14] <;> (first | rfl | simp)) | (simp [*]; done)), H', ⟨by have := HJ3.out; have := HK2.out; have := HJ9.out; first | omega | exact Nat.le_refl _⟩, ⟨by repeat (first | (with_reducible first | exact HB.out | apply below_alloc | apply pw_below_drewN | apply below_drew1) | exact HB.out)⟩⟩
                    · rw [if_neg c13] at H
                      have c13b0 : (a1 == 2) = false := beq_eq_false_iff_ne.mpr c13
                      have c13b1 : (a1 != 2) = true := bne_iff_ne.mpr c13
                      (first | rw [c13b0] | (simp only [i64_w, i32_w]; rw [c13b0]) | skip)
                      have H' := Aside0.mk H
                      clear H
                      go_wp2
                      go_meet
                      case rel => exact ⟨_, (x10_9), (by first | rfl | (simp; done) | (simp [*]; done)), H', ⟨by have := HJ3.out; have := HK2.out; have := HJ9.out; first | omega | exact Nat.le_refl _⟩, ⟨by repeat (first | (with_reducible first | exact HB.out | apply below_alloc | apply pw_below_drewN | apply below_drew1) | exact HB.out)⟩⟩
                  case rest =>
                    clear HC12
                    try clear c1
                    try clear c2
                    try clear p2
                    try clear c5
                    try clear c5b0
                    try clear c6
                    try clear c6b0
                    try clear p6
                    try clear c7
                    try clear c7b0
                    try clear c8
                    try clear c9
                    try clear c9b0
                    try clear c11
                    try clear c11b0
                    try clear c11b1
                    try clear c13
                    try clear c13b0
                    try clear c13b1
                    try clear p2
                    try clear p6
                    obtain ⟨kq, x10_11, rfl, HA, HJ11, HB⟩ := hcut
                    cases kq with
                    | zero => exact absurd HA.out (by simp [cleatref03_Shift.j3])
                    | succ kj11 =>
                      have H := HA.out
                      clear HA
                      simp only [cleatref03_Shift.j3] at H
                      have HC15 := Aside0.mk H
                      clear H
                      go_upto_if 42 with (fail)
                      go_cut [10] (fun v10 wc => ∃ (kq : Nat) (x10_14 : Int), v10 = .int .i64 x10_14 ∧ Aside0 (cleatref03_Shift.j4 kq a0 a1 a2 x8_2 x9_2 x10_14 = some (r1, r2)) ∧ Aside0 (kq ≤ kj11) ∧ Aside0 (Below w.heap.size w wc))
                      case first =>
                        have H := HC15.out
                        clear HC15
                        by_cases c16 : a1 = 3
                        · rw [if_pos c16] at H
                          have c16b0 : (a1 == 3) = true := beq_iff_eq.mpr c16
                          have c16b1 : (a1 != 3) = false := bne_eq_false_iff_eq.mpr c16
                          clear c16
                          (first | rw [c16b0] | (simp only [i64_w, i32_w]; rw [c16b0]) | skip)
                          have H' := Aside0.mk H
                          clear H
                          go_wp2
                          go_meet
                          case rel => exact ⟨_, (Int.tmod x10_11 64), (by first | rfl | (simp; done) | (simp [*]; done)), H', ⟨by have := HJ3.out; have := HK2.out; have := HJ9.out; have := HJ11.out; first | omega | exact Nat.le_refl _⟩, ⟨by repeat (first | (with_reducible first | exact HB.out | apply below_alloc | apply pw_below_drewN | apply below_drew1) | exact HB.out)⟩⟩
                        · rw [if_neg c16] at H
                          have c16b0 : (a1 == 3) = false := beq_eq_false_iff_ne.mpr c16
                          have c16b1 : (a1 != 3) = true := bne_iff_ne.mpr c16
                          (first | rw [c16b0] | (simp only [i64_w, i32_w]; rw [c16b0]) | skip)
                          have H' := Aside0.mk H
                          clear H
                          go_wp2
                          go_meet
                          case rel => exact ⟨_, (x10_11), (by first | rfl | (simp; done) | (simp [*]; done)), H', ⟨by have := HJ3.out; have := HK2.out; have := HJ9.out; have := HJ11.out; first | omega | exact Nat.le_refl _⟩, ⟨by repeat (first | (with_reducible first | exact HB.out | apply below_alloc | apply pw_below_drewN | apply below_drew1) | exact HB.out)⟩⟩
                      case rest =>
                        clear HC15
                        try clear c1
                        try clear c2
                        try clear p2
                        try clear c5
                        try clear c5b0
                        try clear c6
                        try clear c6b0
                        try clear p6
                        try clear c7
                        try clear c7b0
                        try clear c8
                        try clear c9
                        try clear c9b0
                        try clear c11
                        try clear c11b0
                        try clear c11b1
                        try clear c13
                        try clear c13b0
                        try clear c13b1
                        try clear c16
                        try clear c16b0
                        try clear c16b1
                        try clear p2
                        try clear p6
                        obtain ⟨kq, x10_14, rfl, HA, HJ14, HB⟩ := hcut
                        cases kq with
                        | zero => exact absurd HA.out (by simp [cleatref03_Shift.j4])
                        | succ kj14 =>
                          have H := HA.out
                          clear HA
                          simp only [cleatref03_Shift.j4] at H
                          by_cases c17 : x10_14 ≥ 0
                          · rw [if_pos c17] at H
                            have c17b0 : decide (0 ≤ x10_14) = true := decide_eq_true c17
                            clear c17
                            by_cases c18 : x10_14 ≤ 63
                            · rw [if_pos c18] at H
                              have c18b0 : decide (x10_14 ≤ 63) = true := decide_eq_true c18
                              clear c18
                              replace H := Option.bind_eq_some_iff.mp H
                              obtain ⟨t123, A190, H⟩ := H
                              replace H : (if t123 = true then ((cleatref01_Power.f kj14 x9_2).bind fun t124 => (cleatref03_Shift.l0 kj14 a0 a1 a2 (IntKind.u64.wrap (x8_2 + t124)) (wrap64 (x9_2 + 1)))) else (cleatref03_Shift.l0 kj14 a0 a1 a2 x8_2 (wrap64 (x9_2 + 1)))) = some (r1, r2) := H
                              have A19 := Aside0.mk A190
                              clear A190
                              by_cases c20 : t123 = true
                              · subst c20
                                have H1 : ((cleatref01_Power.f kj14 x9_2).bind fun t124 => (cleatref03_Shift.l0 kj14 a0 a1 a2 (IntKind.u64.wrap (x8_2 + t124)) (wrap64 (x9_2 + 1)))) = some (r1, r2) := by rw [if_pos rfl] at H; exact H
                                clear H
                                have H := H1
                                clear H1
                                replace H := Option.bind_eq_some_iff.mp H
                                obtain ⟨t124, A210, H⟩ := H
                                replace H : (cleatref03_Shift.l0 kj14 a0 a1 a2 (IntKind.u64.wrap (x8_2 + t124)) (wrap64 (x9_2 + 1))) = some (r1, r2) := H
                                have A21 := Aside0.mk A210
                                clear A210
                                have H' := Aside0.mk H
                                clear H
                                go_wp2_with (first | (go_at_call 42; (with_reducible refine (cleatref01_Bit.calls kj14 a0 x10_14 true _ A19.out).mono ?_); rintro e w' ⟨rfl, ⟨nd, rfl⟩⟩) | ((with_reducible refine gate_callee (f := 43) rfl ?_); refine goesL_ (some 58) rfl rfl Try.func43 (by kernel_rfl) rfl #[.int .i64 x9_2] rfl (by (try simp only [List.map_toArray, List.map_cons, List.map_nil]); first | done | rfl | (simp only [List.length_drop, List.length_take]; rfl)) ?_; (with_reducible refine (cleatref01_Power.calls kj14 x9_2 t124 _ A21.out).mono ?_); rintro e w' ⟨rfl, ⟨nd, rfl⟩⟩; refine ⟨_, rfl, ?_⟩))
                                go_roundg kj14
                                case measure => have := HJ3.out; have := HK2.out; have := HJ9.out; have := HJ11.out; have := HJ14.out; omega
                                case rel => exact ⟨(IntKind.u64.wrap (x8_2 + t124)), (wrap64 (x9_2 + 1)), (by first | rfl | (simp; done) | (simp [*]; done)), (by first | rfl | (simp; done) | (simp [*]; done)), H', ⟨by have := HJ3.out; have := HK2.out; have := HJ9.out; have := HJ11.out; have := HJ14.out; omega⟩, ⟨by repeat (first | (with_reducible first | exact HB.out | apply below_alloc | apply pw_below_drewN | apply below_drew1) | exact HB.out)⟩⟩
                              · replace c20 := Bool.eq_false_iff.mpr c20
                                subst c20
                                have H1 : (cleatref03_Shift.l0 kj14 a0 a1 a2 x8_2 (wrap64 (x9_2 + 1))) = some (r1, r2) := by rw [if_neg (show ¬ (false = true) by decide)] at H; exact H
                                clear H
                                have H := H1
                                clear H1
                                have H' := Aside0.mk H
                                clear H
                                go_wp2_with (first | (go_at_call 42; (with_reducible refine (cleatref01_Bit.calls kj14 a0 x10_14 false _ A19.out).mono ?_); rintro e w' ⟨rfl, ⟨nd, rfl⟩⟩))
                                go_roundg kj14
                                case measure => have := HJ3.out; have := HK2.out; have := HJ9.out; have := HJ11.out; have := HJ14.out; omega
                                case rel => exact ⟨(x8_2), (wrap64 (x9_2 + 1)), (by first | rfl | (simp; done) | (simp [*]; done)), (by first | rfl | (simp; done) | (simp [*]; done)), H', ⟨by have := HJ3.out; have := HK2.out; have := HJ9.out; have := HJ11.out; have := HJ14.out; omega⟩, ⟨by repeat (first | (with_reducible first | exact HB.out | apply below_alloc | apply pw_below_drewN | apply below_drew1) | exact HB.out)⟩⟩
                            · rw [if_neg c18] at H
                              have c18b0 : decide (x10_14 ≤ 63) = false := decide_eq_false c18
                              clear c18
                              have H' := Aside0.mk H
                              clear H
                              go_wp2
                              go_roundg kj14
                              case measure => have := HJ3.out; have := HK2.out; have := HJ9.out; have := HJ11.out; have := HJ14.out; omega
                              case rel => exact ⟨(x8_2), (wrap64 (x9_2 + 1)), (by first | rfl | (simp; done) | (simp [*]; done)), (by first | rfl | (simp; done) | (simp [*]; done)), H', ⟨by have := HJ3.out; have := HK2.out; have := HJ9.out; have := HJ11.out; have := HJ14.out; omega⟩, ⟨by repeat (first | (with_reducible first | exact HB.out | apply below_alloc | apply pw_below_drewN | apply below_drew1) | exact HB.out)⟩⟩
                          · rw [if_neg c17] at H
                            have c17b0 : decide (0 ≤ x10_14) = false := decide_eq_false c17
                            clear c17
                            have H' := Aside0.mk H
                            clear H
                            go_wp2
                            go_roundg kj14
                            case measure => have := HJ3.out; have := HK2.out; have := HJ9.out; have := HJ11.out; have := HJ14.out; omega
                            case rel => exact ⟨(x8_2), (wrap64 (x9_2 + 1)), (by first | rfl | (simp; done) | (simp [*]; done)), (by first | rfl | (simp; done) | (simp [*]; done)), H', ⟨by have := HJ3.out; have := HK2.out; have := HJ9.out; have := HJ11.out; have := HJ14.out; omega⟩, ⟨by repeat (first | (with_reducible first | exact HB.out | apply below_alloc | apply pw_below_drewN | apply below_drew1) | exact HB.out)⟩⟩
            · rw [if_neg c9] at H
              have c9b0 : decide (x9_2 < 64) = false := decide_eq_false c9
              clear c9
              simp only [Option.some.injEq, Prod.mk.injEq] at H
              obtain ⟨rfl, rfl⟩ := H
              go_wp2
              go_ret2
              exact ⟨by first | rfl | (simp [errW_none, errW_some] <;> rfl) | (simp [*, errW_none, errW_some] <;> rfl), by repeat (first | (with_reducible first | exact HB.out | apply below_alloc | apply pw_below_drewN | apply below_drew1) | exact HB.out)⟩

/-! ### cleatlaw03_flagged: function 22 -/
def cleatlaw03_flagged.f (k : Nat)  : Option (Bool) := (flag_Sub.f 5 5).bind fun bt125 => ((flag_Add.f 9223372036854775807 1 false).bind fun bt131 => ((flag_Shift.f k 9223372036854775808 2 1).bind fun bt137 => ((flag_Holds.f 0 bt125.2.1 bt125.2.2.1 bt125.2.2.2.1 bt125.2.2.2.2).bind fun bt139 => ((flag_Holds.f 14 bt125.2.1 bt125.2.2.1 bt125.2.2.2.1 bt125.2.2.2.2).bind fun bt141 => (if bt125.1 = 0 then (if (!bt125.2.1 && (bt125.2.2.1 && (bt125.2.2.2.1 && (!bt125.2.2.2.2)))) = true then (if bt131.1 = 9223372036854775808 then (if (bt131.2.1 && (!bt131.2.2.1 && (!bt131.2.2.2.1 && (bt131.2.2.2.2)))) = true then (if bt137.2 = 0 then (if bt137.1 = 13835058055282163712 then (if bt139.1 = true then (if bt139.2 = bt137.2 then (some (bt141.2 == 1)) else (none)) else (none)) else (none)) else (none)) else (none)) else (none)) else (none)) else (none))))))
theorem cleatlaw03_flagged.mono : ∀ k, LeO (cleatlaw03_flagged.f k ) (cleatlaw03_flagged.f (k + 1) ) := by
  intro  k
  unfold cleatlaw03_flagged.f
  repeat' first
      | (with_reducible exact flag_Shift.mono _ _ _ _)
      | (with_reducible exact LeO.refl _)
      | (with_reducible exact LeO.none _)
      | (with_reducible refine LeO.ite ?_ ?_)
      | (with_reducible refine LeO.bind ?_ (fun _ => ?_))
      | exact flag_Shift.mono _ _ _ _
      | exact LeO.none _
      | refine LeO.ite ?_ ?_
      | refine LeO.bind ?_ (fun _ => ?_)
set_option maxHeartbeats 8000000 in
set_option maxRecDepth 100000 in
theorem cleatlaw03_flagged.calls (k : Nat)  (r : Bool) (w : World) (h : cleatlaw03_flagged.f k  = some r) :
    Calls Try.prog 22 #[] w fun e w' => e = .returned (.bool r) ∧ Below w.heap.size w w' := by
  have hu24 := Try.underlying24
  have HB := Aside0.mk (Below.refl w.heap.size w)
  have H : ((flag_Sub.f 5 5).bind fun bt125 => ((flag_Add.f 9223372036854775807 1 false).bind fun bt131 => ((flag_Shift.f k 9223372036854775808 2 1).bind fun bt137 => ((flag_Holds.f 0 bt125.2.1 bt125.2.2.1 bt125.2.2.2.1 bt125.2.2.2.2).bind fun bt139 => ((flag_Holds.f 14 bt125.2.1 bt125.2.2.1 bt125.2.2.2.1 bt125.2.2.2.2).bind fun bt141 => (if bt125.1 = 0 then (if (!bt125.2.1 && (bt125.2.2.1 && (bt125.2.2.2.1 && (!bt125.2.2.2.2)))) = true then (if bt131.1 = 9223372036854775808 then (if (bt131.2.1 && (!bt131.2.2.1 && (!bt131.2.2.2.1 && (bt131.2.2.2.2)))) = true then (if bt137.2 = 0 then (if bt137.1 = 13835058055282163712 then (if bt139.1 = true then (if bt139.2 = bt137.2 then (some (bt141.2 == 1)) else (none)) else (none)) else (none)) else (none)) else (none)) else (none)) else (none)) else (none))))))) = some r := h
  clear h
  replace H := Option.bind_eq_some_iff.mp H
  obtain ⟨⟨t125, t126, t127, t128, t129⟩, A10, H⟩ := H
  replace H : ((flag_Add.f 9223372036854775807 1 false).bind fun bt131 => ((flag_Shift.f k 9223372036854775808 2 1).bind fun bt137 => ((flag_Holds.f 0 t126 t127 t128 t129).bind fun bt139 => ((flag_Holds.f 14 t126 t127 t128 t129).bind fun bt141 => (if t125 = 0 then (if (!t126 && (t127 && (t128 && (!t129)))) = true then (if bt131.1 = 9223372036854775808 then (if (bt131.2.1 && (!bt131.2.2.1 && (!bt131.2.2.2.1 && (bt131.2.2.2.2)))) = true then (if bt137.2 = 0 then (if bt137.1 = 13835058055282163712 then (if bt139.1 = true then (if bt139.2 = bt137.2 then (some (bt141.2 == 1)) else (none)) else (none)) else (none)) else (none)) else (none)) else (none)) else (none)) else (none)))))) = some r := H
  have A1 := Aside0.mk A10
  clear A10
  replace H := Option.bind_eq_some_iff.mp H
  obtain ⟨⟨t131, t132, t133, t134, t135⟩, A20, H⟩ := H
  replace H : ((flag_Shift.f k 9223372036854775808 2 1).bind fun bt137 => ((flag_Holds.f 0 t126 t127 t128 t129).bind fun bt139 => ((flag_Holds.f 14 t126 t127 t128 t129).bind fun bt141 => (if t125 = 0 then (if (!t126 && (t127 && (t128 && (!t129)))) = true then (if t131 = 9223372036854775808 then (if (t132 && (!t133 && (!t134 && (t135)))) = true then (if bt137.2 = 0 then (if bt137.1 = 13835058055282163712 then (if bt139.1 = true then (if bt139.2 = bt137.2 then (some (bt141.2 == 1)) else (none)) else (none)) else (none)) else (none)) else (none)) else (none)) else (none)) else (none))))) = some r := H
  have A2 := Aside0.mk A20
  clear A20
  replace H := Option.bind_eq_some_iff.mp H
  obtain ⟨⟨t137, t138⟩, A30, H⟩ := H
  replace H : ((flag_Holds.f 0 t126 t127 t128 t129).bind fun bt139 => ((flag_Holds.f 14 t126 t127 t128 t129).bind fun bt141 => (if t125 = 0 then (if (!t126 && (t127 && (t128 && (!t129)))) = true then (if t131 = 9223372036854775808 then (if (t132 && (!t133 && (!t134 && (t135)))) = true then (if t138 = 0 then (if t137 = 13835058055282163712 then (if bt139.1 = true then (if bt139.2 = t138 then (some (bt141.2 == 1)) else (none)) else (none)) else (none)) else (none)) else (none)) else (none)) else (none)) else (none)))) = some r := H
  have A3 := Aside0.mk A30
  clear A30
  replace H := Option.bind_eq_some_iff.mp H
  obtain ⟨⟨t139, t140⟩, A40, H⟩ := H
  replace H : ((flag_Holds.f 14 t126 t127 t128 t129).bind fun bt141 => (if t125 = 0 then (if (!t126 && (t127 && (t128 && (!t129)))) = true then (if t131 = 9223372036854775808 then (if (t132 && (!t133 && (!t134 && (t135)))) = true then (if t138 = 0 then (if t137 = 13835058055282163712 then (if t139 = true then (if t140 = t138 then (some (bt141.2 == 1)) else (none)) else (none)) else (none)) else (none)) else (none)) else (none)) else (none)) else (none))) = some r := H
  have A4 := Aside0.mk A40
  clear A40
  replace H := Option.bind_eq_some_iff.mp H
  obtain ⟨⟨t141, t142⟩, A50, H⟩ := H
  replace H : (if t125 = 0 then (if (!t126 && (t127 && (t128 && (!t129)))) = true then (if t131 = 9223372036854775808 then (if (t132 && (!t133 && (!t134 && (t135)))) = true then (if t138 = 0 then (if t137 = 13835058055282163712 then (if t139 = true then (if t140 = t138 then (some (t142 == 1)) else (none)) else (none)) else (none)) else (none)) else (none)) else (none)) else (none)) else (none)) = some r := H
  have A5 := Aside0.mk A50
  clear A50
  by_cases c6 : t125 = 0
  · rw [if_pos c6] at H
    have c6b0 : (t125 == 0) = true := beq_iff_eq.mpr c6
    have c6b1 : (t125 != 0) = false := bne_eq_false_iff_eq.mpr c6
    clear c6
    by_cases c7 : (!t126 && (t127 && (t128 && (!t129)))) = true
    · rw [if_pos c7] at H
      have c7b0 : (!t126 && (t127 && (t128 && (!t129)))) = true := c7
      clear c7
      by_cases c8 : t131 = 9223372036854775808
      · rw [if_pos c8] at H
        have c8b0 : (t131 == 9223372036854775808) = true := beq_iff_eq.mpr c8
        have c8b1 : (t131 != 9223372036854775808) = false := bne_eq_false_iff_eq.mpr c8
        clear c8
        by_cases c9 : (t132 && (!t133 && (!t134 && (t135)))) = true
        · rw [if_pos c9] at H
          have c9b0 : (t132 && (!t133 && (!t134 && (t135)))) = true := c9
          clear c9
          by_cases c10 : t138 = 0
          · rw [if_pos c10] at H
            have c10b0 : (t138 == 0) = true := beq_iff_eq.mpr c10
            have c10b1 : (t138 != 0) = false := bne_eq_false_iff_eq.mpr c10
            clear c10
            by_cases c11 : t137 = 13835058055282163712
            · rw [if_pos c11] at H
              have c11b0 : (t137 == 13835058055282163712) = true := beq_iff_eq.mpr c11
              have c11b1 : (t137 != 13835058055282163712) = false := bne_eq_false_iff_eq.mpr c11
              clear c11
              by_cases c12 : t139 = true
              · subst c12
                have H1 : (if t140 = t138 then (some (t142 == 1)) else (none)) = some r := by rw [if_pos rfl] at H; exact H
                clear H
                have H := H1
                clear H1
                by_cases c13 : t140 = t138
                · rw [if_pos c13] at H
                  have c13b0 : (t140 == t138) = true := beq_iff_eq.mpr c13
                  have c13b1 : (t140 != t138) = false := bne_eq_false_iff_eq.mpr c13
                  clear c13
                  obtain rfl := Option.some.inj H
                  go_enter Try.func22, Try.ntmps22
                  go_wp2_with (first | ((with_reducible refine gate_callee (f := 16) rfl ?_); refine goesL_ (some 12) rfl rfl Try.func16 (by kernel_rfl) rfl #[.int .u64 5, .int .u64 5] rfl (by (try simp only [List.map_toArray, List.map_cons, List.map_nil]); first | done | rfl | (simp only [List.length_drop, List.length_take]; rfl)) ?_; (with_reducible refine (flag_Sub.calls 5 5 t125 t126 t127 t128 t129 _ A1.out).mono ?_); rintro e w14 ⟨rfl, hb⟩; refine ⟨_, rfl, ?_⟩; have n0_ := Aside0.mk (below_step (by repeat (first | (with_reducible first | exact HB.out | apply below_alloc | apply pw_below_drewN | apply below_drew1) | exact HB.out)) hb); clear HB; have HB := n0_; clear n0_; (try clear hb); (try clear hb2); (try clear hk); (try clear hi)) | ((with_reducible refine gate_dst (N := 2) rfl ?_); refine box_event ?hg (N := 2) ?hd (cs := #[.bool false, .bool false, .bool false, .bool false]) (t := 24) ?hr ?_; (case hd => rfl); (case hg => rfl); (case hr => first | (go_simp; done) | (go_simp; rfl)); intro gb130 hg w15 hbox hb; have n0_ := Aside0.mk (below_step (by repeat (first | (with_reducible first | exact HB.out | apply below_alloc | apply pw_below_drewN | apply below_drew1) | exact HB.out)) hb); have n1_ := Aside0.mk (hbox); have n2_ := Aside0.mk ((by rw [hg]; exact (below_size (by repeat (first | (with_reducible first | exact HB.out | apply below_alloc | apply pw_below_drewN | apply below_drew1) | exact HB.out))) : w.heap.size ≤ gb130)); have n3_ := Aside0.mk ((by rw [hg]; exact (below_size (by repeat (first | (with_reducible first | exact HB.out | apply below_alloc | apply pw_below_drewN | apply below_drew1) | exact HB.out))) : w.heap.size ≤ gb130)); clear HB; have HB := n0_; have BK130 := n1_; have GW130 := n2_; have GE130 := n3_; clear n0_ n1_ n2_ n3_; clear hb hbox hg; have hcz16_0 : w15.cell? ⟨gb130, 0, none⟩ = some (.bool false) := (blk_cell BK130.out 0).trans rfl; have hcz16_1 : w15.cell? ⟨gb130, 1, none⟩ = some (.bool false) := (blk_cell BK130.out 1).trans rfl; have hcz16_2 : w15.cell? ⟨gb130, 2, none⟩ = some (.bool false) := (blk_cell BK130.out 2).trans rfl; have hcz16_3 : w15.cell? ⟨gb130, 3, none⟩ = some (.bool false) := (blk_cell BK130.out 3).trans rfl; have hfz16_0 := blk_frozen BK130.out 0; have hfz16_1 := blk_frozen BK130.out 1; have hfz16_2 := blk_frozen BK130.out 2; have hfz16_3 := blk_frozen BK130.out 3) | ((with_reducible refine gate_callee (f := 14) rfl ?_); refine goesL_ (some 16) rfl rfl Try.func14 (by kernel_rfl) rfl #[.int .u64 9223372036854775807, .int .u64 1, .bool false] rfl (by (try simp only [List.map_toArray, List.map_cons, List.map_nil]); first | done | rfl | (simp only [List.length_drop, List.length_take]; rfl)) ?_; (with_reducible refine (flag_Add.calls 9223372036854775807 1 false t131 t132 t133 t134 t135 _ A2.out).mono ?_); rintro e w17 ⟨rfl, hb⟩; refine ⟨_, rfl, ?_⟩; have n0_ := Aside0.mk (blk_below (g := gb130) (o := .cells #[.bool t126, .bool t127, .bool t128, .bool t129] 24 (0, 0)) (by (with_reducible repeat (first | refine blk_drewN ?_ _ | refine blk_drew ?_ | refine blk_alloc ?_ _)); refine blk_put (cs := #[.bool t126, .bool t127, .bool t128, .bool false]) ?_ 3 _ rfl; (with_reducible repeat (first | refine blk_drewN ?_ _ | refine blk_drew ?_ | refine blk_alloc ?_ _)); refine blk_put (cs := #[.bool t126, .bool t127, .bool false, .bool false]) ?_ 2 _ rfl; (with_reducible repeat (first | refine blk_drewN ?_ _ | refine blk_drew ?_ | refine blk_alloc ?_ _)); refine blk_put (cs := #[.bool t126, .bool false, .bool false, .bool false]) ?_ 1 _ rfl; (with_reducible repeat (first | refine blk_drewN ?_ _ | refine blk_drew ?_ | refine blk_alloc ?_ _)); refine blk_put (cs := #[.bool false, .bool false, .bool false, .bool false]) ?_ 0 _ rfl; (with_reducible repeat (first | refine blk_drewN ?_ _ | refine blk_drew ?_ | refine blk_alloc ?_ _)); exact BK130.out) hb); have n1_ := Aside0.mk (below_step (by repeat (first | (with_reducible first | exact HB.out | apply below_alloc | apply pw_below_drewN | apply below_drew1 | refine below_set ?_ GE130.out) | exact HB.out)) hb); clear BK130; clear HB; have BK130 := n0_; have HB := n1_; clear n0_ n1_; (try clear hb); (try clear hb2); (try clear hk); (try clear hi)) | ((with_reducible refine gate_dst (N := 4) rfl ?_); refine box_event ?hg (N := 4) ?hd (cs := #[.bool false, .bool false, .bool false, .bool false]) (t := 24) ?hr ?_; (case hd => rfl); (case hg => rfl); (case hr => first | (go_simp; done) | (go_simp; rfl)); intro gb136 hg w18 hbox hb; have n0_ := Aside0.mk (blk_below (g := gb130) (o := .cells #[.bool t126, .bool t127, .bool t128, .bool t129] 24 (0, 0)) (by (with_reducible repeat (first | refine blk_drewN ?_ _ | refine blk_drew ?_ | refine blk_alloc ?_ _)); exact BK130.out) hb); have n1_ := Aside0.mk (below_step (by repeat (first | (with_reducible first | exact HB.out | apply below_alloc | apply pw_below_drewN | apply below_drew1 | refine below_set ?_ GE130.out) | exact HB.out)) hb); have n2_ := Aside0.mk (hbox); have n3_ := Aside0.mk ((by rw [hg]; exact (below_size (by repeat (first | (with_reducible first | exact HB.out | apply below_alloc | apply pw_below_drewN | apply below_drew1 | refine below_set ?_ GE130.out) | exact HB.out))) : w.heap.size ≤ gb136)); have n4_ := Aside0.mk ((by rw [hg]; exact (below_size (by repeat (first | (with_reducible first | exact HB.out | apply below_alloc | apply pw_below_drewN | apply below_drew1 | refine below_set ?_ GE130.out) | exact HB.out))) : w.heap.size ≤ gb136)); have n5_ := Aside0.mk ((by rw [hg]; exact Nat.ne_of_lt (blk_lt (g := gb130) (o := .cells #[.bool t126, .bool t127, .bool t128, .bool t129] 24 (0, 0)) (by (with_reducible repeat (first | refine blk_drewN ?_ _ | refine blk_drew ?_ | refine blk_alloc ?_ _)); exact BK130.out)) : gb130 ≠ gb136)); have n6_ := Aside0.mk ((by rw [hg]; exact Nat.ne_of_gt (blk_lt (g := gb130) (o := .cells #[.bool t126, .bool t127, .bool t128, .bool t129] 24 (0, 0)) (by (with_reducible repeat (first | refine blk_drewN ?_ _ | refine blk_drew ?_ | refine blk_alloc ?_ _)); exact BK130.out)) : gb136 ≠ gb130)); clear BK130; clear HB; have BK130 := n0_; have HB := n1_; have BK136 := n2_; have GW136 := n3_; have GE136 := n4_; have NB130_136 := n5_; have NB136_130 := n6_; clear n0_ n1_ n2_ n3_ n4_ n5_ n6_; clear hb hbox hg; have hnb19 := NB136_130.out; have hnc19 := NB130_136.out; have hcz20_0 : w18.cell? ⟨gb136, 0, none⟩ = some (.bool false) := (blk_cell BK136.out 0).trans rfl; have hcz20_1 : w18.cell? ⟨gb136, 1, none⟩ = some (.bool false) := (blk_cell BK136.out 1).trans rfl; have hcz20_2 : w18.cell? ⟨gb136, 2, none⟩ = some (.bool false) := (blk_cell BK136.out 2).trans rfl; have hcz20_3 : w18.cell? ⟨gb136, 3, none⟩ = some (.bool false) := (blk_cell BK136.out 3).trans rfl; have hfz20_0 := blk_frozen BK136.out 0; have hfz20_1 := blk_frozen BK136.out 1; have hfz20_2 := blk_frozen BK136.out 2; have hfz20_3 := blk_frozen BK136.out 3) | ((with_reducible refine gate_callee (f := 20) rfl ?_); refine goesL_ (some 20) rfl rfl Try.func20 (by kernel_rfl) rfl #[.int .u64 9223372036854775808, .int .i64 2, .int .i64 1] rfl (by (try simp only [List.map_toArray, List.map_cons, List.map_nil]); first | done | rfl | (simp only [List.length_drop, List.length_take]; rfl)) ?_; (with_reducible refine (flag_Shift.calls k 9223372036854775808 2 1 t137 t138 _ A3.out).mono ?_); rintro e w' ⟨rfl, ⟨nd, rfl⟩⟩; refine ⟨_, rfl, ?_⟩; have hcz21_0 : w18.cell? ⟨gb130, 0, none⟩ = some (.bool t126) := (blk_cell BK130.out 0).trans rfl; have hcz21_1 : w18.cell? ⟨gb130, 1, none⟩ = some (.bool t127) := (blk_cell BK130.out 1).trans rfl; have hcz21_2 : w18.cell? ⟨gb130, 2, none⟩ = some (.bool t128) := (blk_cell BK130.out 2).trans rfl; have hcz21_3 : w18.cell? ⟨gb130, 3, none⟩ = some (.bool t129) := (blk_cell BK130.out 3).trans rfl; have hfz21_0 := blk_frozen BK130.out 0; have hfz21_1 := blk_frozen BK130.out 1; have hfz21_2 := blk_frozen BK130.out 2; have hfz21_3 := blk_frozen BK130.out 3) | ((with_reducible refine gate_callee (f := 18) rfl ?_); refine goesL_ (some 25) rfl rfl Try.func18 (by kernel_rfl) rfl #[.int .i64 0, .agg #[.bool t126, .bool t127, .bool t128, .bool t129]] rfl (by (try simp only [List.map_toArray, List.map_cons, List.map_nil]); first | done | rfl | (simp only [List.length_drop, List.length_take]; rfl)) ?_; (with_reducible refine (flag_Holds.calls 0 t126 t127 t128 t129 true t140 _ A4.out).mono ?_); rintro e w22 ⟨rfl, hb⟩; refine ⟨_, rfl, ?_⟩; have n0_ := Aside0.mk (blk_below (g := gb130) (o := .cells #[.bool t126, .bool t127, .bool t128, .bool t129] 24 (0, 0)) (by (with_reducible repeat (first | refine blk_drewN ?_ _ | refine blk_drew ?_ | refine blk_alloc ?_ _)); refine blk_far ?_ NB130_136.out _; (with_reducible repeat (first | refine blk_drewN ?_ _ | refine blk_drew ?_ | refine blk_alloc ?_ _)); refine blk_far ?_ NB130_136.out _; (with_reducible repeat (first | refine blk_drewN ?_ _ | refine blk_drew ?_ | refine blk_alloc ?_ _)); refine blk_far ?_ NB130_136.out _; (with_reducible repeat (first | refine blk_drewN ?_ _ | refine blk_drew ?_ | refine blk_alloc ?_ _)); refine blk_far ?_ NB130_136.out _; (with_reducible repeat (first | refine blk_drewN ?_ _ | refine blk_drew ?_ | refine blk_alloc ?_ _)); exact BK130.out) hb); have n1_ := Aside0.mk (blk_below (g := gb136) (o := .cells #[.bool t132, .bool t133, .bool t134, .bool t135] 24 (0, 0)) (by (with_reducible repeat (first | refine blk_drewN ?_ _ | refine blk_drew ?_ | refine blk_alloc ?_ _)); refine blk_put (cs := #[.bool t132, .bool t133, .bool t134, .bool false]) ?_ 3 _ rfl; (with_reducible repeat (first | refine blk_drewN ?_ _ | refine blk_drew ?_ | refine blk_alloc ?_ _)); refine blk_put (cs := #[.bool t132, .bool t133, .bool false, .bool false]) ?_ 2 _ rfl; (with_reducible repeat (first | refine blk_drewN ?_ _ | refine blk_drew ?_ | refine blk_alloc ?_ _)); refine blk_put (cs := #[.bool t132, .bool false, .bool false, .bool false]) ?_ 1 _ rfl; (with_reducible repeat (first | refine blk_drewN ?_ _ | refine blk_drew ?_ | refine blk_alloc ?_ _)); refine blk_put (cs := #[.bool false, .bool false, .bool false, .bool false]) ?_ 0 _ rfl; (with_reducible repeat (first | refine blk_drewN ?_ _ | refine blk_drew ?_ | refine blk_alloc ?_ _)); exact BK136.out) hb); have n2_ := Aside0.mk (below_step (by repeat (first | (with_reducible first | exact HB.out | apply below_alloc | apply pw_below_drewN | apply below_drew1 | refine below_set ?_ GE130.out | refine below_set ?_ GE136.out) | exact HB.out)) hb); clear BK130; clear BK136; clear HB; have BK130 := n0_; have BK136 := n1_; have HB := n2_; clear n0_ n1_ n2_; (try clear hb); (try clear hb2); (try clear hk); (try clear hi); have hcz23_0 : w22.cell? ⟨gb130, 0, none⟩ = some (.bool t126) := (blk_cell BK130.out 0).trans rfl; have hcz23_1 : w22.cell? ⟨gb130, 1, none⟩ = some (.bool t127) := (blk_cell BK130.out 1).trans rfl; have hcz23_2 : w22.cell? ⟨gb130, 2, none⟩ = some (.bool t128) := (blk_cell BK130.out 2).trans rfl; have hcz23_3 : w22.cell? ⟨gb130, 3, none⟩ = some (.bool t129) := (blk_cell BK130.out 3).trans rfl; have hfz23_0 := blk_frozen BK130.out 0; have hfz23_1 := blk_frozen BK130.out 1; have hfz23_2 := blk_frozen BK130.out 2; have hfz23_3 := blk_frozen BK130.out 3) | ((with_reducible refine gate_callee (f := 18) rfl ?_); refine goesL_ (some 30) rfl rfl Try.func18 (by kernel_rfl) rfl #[.int .i64 14, .agg #[.bool t126, .bool t127, .bool t128, .bool t129]] rfl (by (try simp only [List.map_toArray, List.map_cons, List.map_nil]); first | done | rfl | (simp only [List.length_drop, List.length_take]; rfl)) ?_; (with_reducible refine (flag_Holds.calls 14 t126 t127 t128 t129 t141 t142 _ A5.out).mono ?_); rintro e w24 ⟨rfl, hb⟩; refine ⟨_, rfl, ?_⟩; have n0_ := Aside0.mk (blk_below (g := gb130) (o := .cells #[.bool t126, .bool t127, .bool t128, .bool t129] 24 (0, 0)) (by (with_reducible repeat (first | refine blk_drewN ?_ _ | refine blk_drew ?_ | refine blk_alloc ?_ _)); exact BK130.out) hb); have n1_ := Aside0.mk (blk_below (g := gb136) (o := .cells #[.bool t132, .bool t133, .bool t134, .bool t135] 24 (0, 0)) (by (with_reducible repeat (first | refine blk_drewN ?_ _ | refine blk_drew ?_ | refine blk_alloc ?_ _)); exact BK136.out) hb); have n2_ := Aside0.mk (below_step (by repeat (first | (with_reducible first | exact HB.out | apply below_alloc | apply pw_below_drewN | apply below_drew1 | refine below_set ?_ GE130.out | refine below_set ?_ GE136.out) | exact HB.out)) hb); clear BK130; clear BK136; clear HB; have BK130 := n0_; have BK136 := n1_; have HB := n2_; clear n0_ n1_ n2_; (try clear hb); (try clear hb2); (try clear hk); (try clear hi); have hcz25_0 : w24.cell? ⟨gb130, 0, none⟩ = some (.bool t126) := (blk_cell BK130.out 0).trans rfl; have hcz25_1 : w24.cell? ⟨gb130, 1, none⟩ = some (.bool t127) := (blk_cell BK130.out 1).trans rfl; have hcz25_2 : w24.cell? ⟨gb130, 2, none⟩ = some (.bool t128) := (blk_cell BK130.out 2).trans rfl; have hcz25_3 : w24.cell? ⟨gb130, 3, none⟩ = some (.bool t129) := (blk_cell BK130.out 3).trans rfl; have hfz25_0 := blk_frozen BK130.out 0; have hfz25_1 := blk_frozen BK130.out 1; have hfz25_2 := blk_frozen BK130.out 2; have hfz25_3 := blk_frozen BK130.out 3; have hcz26_0 : w24.cell? ⟨gb136, 0, none⟩ = some (.bool t132) := (blk_cell BK136.out 0).trans rfl; have hcz26_1 : w24.cell? ⟨gb136, 1, none⟩ = some (.bool t133) := (blk_cell BK136.out 1).trans rfl; have hcz26_2 : w24.cell? ⟨gb136, 2, none⟩ = some (.bool t134) := (blk_cell BK136.out 2).trans rfl; have hcz26_3 : w24.cell? ⟨gb136, 3, none⟩ = some (.bool t135) := (blk_cell BK136.out 3).trans rfl; have hfz26_0 := blk_frozen BK136.out 0; have hfz26_1 := blk_frozen BK136.out 1; have hfz26_2 := blk_frozen BK136.out 2; have hfz26_3 := blk_frozen BK136.out 3))
                  go_ret
                  exact ⟨by first | rfl | (simp [errW_none, errW_some] <;> rfl) | (simp [*, errW_none, errW_some] <;> rfl), by repeat (first | (with_reducible first | exact HB.out | apply below_alloc | apply pw_below_drewN | apply below_drew1 | refine below_set ?_ GE130.out | refine below_set ?_ GE136.out) | exact HB.out)⟩
                · rw [if_neg c13] at H
                  exact absurd H (by simp)
              · replace c12 := Bool.eq_false_iff.mpr c12
                subst c12
                have H1 : (none) = some r := by rw [if_neg (show ¬ (false = true) by decide)] at H; exact H
                clear H
                have H := H1
                clear H1
                exact absurd H (by simp)
            · rw [if_neg c11] at H
              exact absurd H (by simp)
          · rw [if_neg c10] at H
            exact absurd H (by simp)
        · rw [if_neg c9] at H
          exact absurd H (by simp)
      · rw [if_neg c8] at H
        exact absurd H (by simp)
    · rw [if_neg c7] at H
      exact absurd H (by simp)
  · rw [if_neg c6] at H
    exact absurd H (by simp)

/-! ### cleatref03_Of: function 24 -/
def cleatref03_Of.f (k : Nat) (a0 : Int) : Option (Bool × Bool × Bool × Bool) := (cleatref01_Bit.f k a0 63).bind fun t144 => (some (t144, (a0 == 0), false, false))
theorem cleatref03_Of.mono : ∀ a0 k, LeO (cleatref03_Of.f k a0) (cleatref03_Of.f (k + 1) a0) := by
  intro a0 k
  unfold cleatref03_Of.f
  repeat' first
      | (with_reducible exact cleatref01_Bit.mono _ _ _)
      | (with_reducible exact LeO.refl _)
      | (with_reducible exact LeO.none _)
      | (with_reducible refine LeO.ite ?_ ?_)
      | (with_reducible refine LeO.bind ?_ (fun _ => ?_))
      | exact cleatref01_Bit.mono _ _ _
      | exact LeO.none _
      | refine LeO.ite ?_ ?_
      | refine LeO.bind ?_ (fun _ => ?_)
set_option maxHeartbeats 8000000 in
set_option maxRecDepth 100000 in
theorem cleatref03_Of.calls (k : Nat) (a0 : Int) (r1 : Bool) (r2 : Bool) (r3 : Bool) (r4 : Bool) (w : World) (h : cleatref03_Of.f k a0 = some (r1, r2, r3, r4)) :
    Calls Try.prog 24 #[.int .u64 a0] w fun e w' => e = .returned (.agg #[.bool r1, .bool r2, .bool r3, .bool r4]) ∧ Below w.heap.size w w' := by
  have hu24 := Try.underlying24
  have HB := Aside0.mk (Below.refl w.heap.size w)
  have H : ((cleatref01_Bit.f k a0 63).bind fun t144 => (some (t144, (a0 == 0), false, false))) = some (r1, r2, r3, r4) := h
  clear h
  replace H := Option.bind_eq_some_iff.mp H
  obtain ⟨t144, A20, H⟩ := H
  replace H : (some (t144, (a0 == 0), false, false)) = some (r1, r2, r3, r4) := H
  have A2 := Aside0.mk A20
  clear A20
  simp only [Option.some.injEq, Prod.mk.injEq] at H
  obtain ⟨rfl, rfl, rfl, rfl⟩ := H
  go_enter Try.func24, Try.ntmps24
  go_wp2_with (first | ((with_reducible refine gate_dst (N := 2) rfl ?_); refine box_event ?hg (N := 2) ?hd (cs := #[.bool false, .bool false, .bool false, .bool false]) (t := 24) ?hr ?_; (case hd => rfl); (case hg => rfl); (case hr => first | (go_simp; done) | (go_simp; rfl)); intro gb143 hg w3 hbox hb; have n0_ := Aside0.mk (below_step (by repeat (first | (with_reducible first | exact HB.out | apply below_alloc | apply pw_below_drewN | apply below_drew1) | exact HB.out)) hb); have n1_ := Aside0.mk (hbox); have n2_ := Aside0.mk ((by rw [hg]; exact (below_size (by repeat (first | (with_reducible first | exact HB.out | apply below_alloc | apply pw_below_drewN | apply below_drew1) | exact HB.out))) : w.heap.size ≤ gb143)); have n3_ := Aside0.mk ((by rw [hg]; exact (below_size (by repeat (first | (with_reducible first | exact HB.out | apply below_alloc | apply pw_below_drewN | apply below_drew1) | exact HB.out))) : w.heap.size ≤ gb143)); clear HB; have HB := n0_; have BK143 := n1_; have GW143 := n2_; have GE143 := n3_; clear n0_ n1_ n2_ n3_; clear hb hbox hg) | ((with_reducible refine gate_callee (f := 42) rfl ?_); refine goesL_ (some 4) rfl rfl Try.func42 (by kernel_rfl) rfl #[.int .u64 a0, .int .i64 63] rfl (by (try simp only [List.map_toArray, List.map_cons, List.map_nil]); first | done | rfl | (simp only [List.length_drop, List.length_take]; rfl)) ?_; (with_reducible refine (cleatref01_Bit.calls k a0 63 t144 _ A2.out).mono ?_); rintro e w' ⟨rfl, ⟨nd, rfl⟩⟩; refine ⟨_, rfl, ?_⟩; (try (rw [drewN_self w3]; generalize hq_ : World.drewN w3 _ = w3; have n0_ : Aside0 (w3.heap[gb143]? = some (.cells #[.bool false, .bool false, .bool false, .bool false] 24 (0, 0))) := ⟨by rw [← hq_]; exact (by (with_reducible repeat (first | refine blk_drewN ?_ _ | refine blk_drew ?_ | refine blk_alloc ?_ _)); exact BK143.out)⟩; have n1_ : Aside0 (Below w.heap.size w w3) := ⟨by rw [← hq_]; exact (by repeat (first | (with_reducible first | exact HB.out | apply below_alloc | apply pw_below_drewN | apply below_drew1 | refine below_set ?_ GE143.out) | exact HB.out))⟩; clear BK143 HB hq_; have BK143 := n0_; have HB := n1_; clear n0_ n1_)); have hcz4_0 : w3.cell? ⟨gb143, 0, none⟩ = some (.bool false) := (blk_cell BK143.out 0).trans rfl; have hcz4_1 : w3.cell? ⟨gb143, 1, none⟩ = some (.bool false) := (blk_cell BK143.out 1).trans rfl; have hcz4_2 : w3.cell? ⟨gb143, 2, none⟩ = some (.bool false) := (blk_cell BK143.out 2).trans rfl; have hcz4_3 : w3.cell? ⟨gb143, 3, none⟩ = some (.bool false) := (blk_cell BK143.out 3).trans rfl; have hfz4_0 := blk_frozen BK143.out 0; have hfz4_1 := blk_frozen BK143.out 1; have hfz4_2 := blk_frozen BK143.out 2; have hfz4_3 := blk_frozen BK143.out 3))
  refine bodyPost_ret (results_cell_row rfl _ _ gb143 24 #[.bool t144, .bool (a0 == 0), .bool false, .bool false] (0, 0) _ rfl (by (with_reducible repeat (first | refine blk_drewN ?_ _ | refine blk_drew ?_ | refine blk_alloc ?_ _)); refine blk_put (cs := #[.bool t144, .bool (a0 == 0), .bool false, .bool false]) ?_ 3 _ rfl; (with_reducible repeat (first | refine blk_drewN ?_ _ | refine blk_drew ?_ | refine blk_alloc ?_ _)); refine blk_put (cs := #[.bool t144, .bool (a0 == 0), .bool false, .bool false]) ?_ 2 _ rfl; (with_reducible repeat (first | refine blk_drewN ?_ _ | refine blk_drew ?_ | refine blk_alloc ?_ _)); refine blk_put (cs := #[.bool t144, .bool false, .bool false, .bool false]) ?_ 1 _ rfl; (with_reducible repeat (first | refine blk_drewN ?_ _ | refine blk_drew ?_ | refine blk_alloc ?_ _)); refine blk_put (cs := #[.bool false, .bool false, .bool false, .bool false]) ?_ 0 _ rfl; (with_reducible repeat (first | refine blk_drewN ?_ _ | refine blk_drew ?_ | refine blk_alloc ?_ _)); exact BK143.out) Try.underlying24 rfl (by kernel_rfl)) rfl ?_
  exact ⟨by first | rfl | (simp [errW_none, errW_some] <;> rfl) | (simp [*, errW_none, errW_some] <;> rfl), by repeat (first | (with_reducible first | exact HB.out | apply below_alloc | apply pw_below_drewN | apply below_drew1 | refine below_set ?_ GE143.out) | exact HB.out)⟩

/-! ### cleatlaw03_FlagDoes: function 3 -/
def cleatlaw03_FlagDoes.f (k : Nat) (a0 : Int) (a1 : Int) (a2 : Bool) (a3 : Int) (a4_0 : Bool) (a4_1 : Bool) (a4_2 : Bool) (a4_3 : Bool) (a5 : Int) (a6 : Int) : Option (Bool) := (flag_Add.f a0 a1 a2).bind fun bt146 => ((cleatref03_Add.f k a0 a1 a2).bind fun bt152 => ((flag_Sub.f a0 a1).bind fun bt158 => ((cleatref03_Sub.f k a0 a1).bind fun bt164 => ((flag_Holds.f a3 a4_0 a4_1 a4_2 a4_3).bind fun bt170 => ((cleatref03_Holds.f a3 a4_0 a4_1 a4_2 a4_3).bind fun bt172 => ((flag_Shift.f k a0 a5 a6).bind fun bt174 => ((cleatref03_Shift.f k a0 a5 a6).bind fun bt176 => ((cleatlaw03_flagged.f k).bind fun t178 => (if t178 = true then (if bt146.1 = bt152.1 then (if (bt146.2.1 == bt152.2.1 && (bt146.2.2.1 == bt152.2.2.1 && (bt146.2.2.2.1 == bt152.2.2.2.1 && (bt146.2.2.2.2 == bt152.2.2.2.2)))) = true then (if bt158.1 = bt164.1 then (if (bt158.2.1 == bt164.2.1 && (bt158.2.2.1 == bt164.2.2.1 && (bt158.2.2.2.1 == bt164.2.2.2.1 && (bt158.2.2.2.2 == bt164.2.2.2.2)))) = true then ((flag_Of.f a0).bind fun bt179 => ((cleatref03_Of.f k a0).bind fun bt183 => (if (bt179.1 == bt183.1 && (bt179.2.1 == bt183.2.1 && (bt179.2.2.1 == bt183.2.2.1 && (bt179.2.2.2 == bt183.2.2.2)))) = true then (if (bt170.1 == bt172.1) = true then (if bt170.2 = bt172.2 then (if bt174.1 = bt176.1 then (some (bt174.2 == bt176.2)) else (none)) else (none)) else (none)) else (none)))) else (none)) else (none)) else (none)) else (none)) else (none))))))))))
theorem cleatlaw03_FlagDoes.mono : ∀ a0 a1 a2 a3 a4 a5 a6 a7 a8 a9 k, LeO (cleatlaw03_FlagDoes.f k a0 a1 a2 a3 a4 a5 a6 a7 a8 a9) (cleatlaw03_FlagDoes.f (k + 1) a0 a1 a2 a3 a4 a5 a6 a7 a8 a9) := by
  intro a0 a1 a2 a3 a4 a5 a6 a7 a8 a9 k
  unfold cleatlaw03_FlagDoes.f
  repeat' first
      | (with_reducible exact cleatlaw03_flagged.mono _)
      | (with_reducible exact cleatref03_Add.mono _ _ _ _)
      | (with_reducible exact cleatref03_Of.mono _ _)
      | (with_reducible exact cleatref03_Shift.mono _ _ _ _)
      | (with_reducible exact cleatref03_Sub.mono _ _ _)
      | (with_reducible exact flag_Shift.mono _ _ _ _)
      | (with_reducible exact LeO.refl _)
      | (with_reducible exact LeO.none _)
      | (with_reducible refine LeO.ite ?_ ?_)
      | (with_reducible refine LeO.bind ?_ (fun _ => ?_))
      | exact cleatlaw03_flagged.mono _
      | exact cleatref03_Add.mono _ _ _ _
      | exact cleatref03_Of.mono _ _
      | exact cleatref03_Shift.mono _ _ _ _
      | exact cleatref03_Sub.mono _ _ _
      | exact flag_Shift.mono _ _ _ _
      | exact LeO.none _
      | refine LeO.ite ?_ ?_
      | refine LeO.bind ?_ (fun _ => ?_)
set_option maxHeartbeats 8000000 in
set_option maxRecDepth 100000 in
theorem cleatlaw03_FlagDoes.calls (k : Nat) (a0 : Int) (a1 : Int) (a2 : Bool) (a3 : Int) (a4_0 : Bool) (a4_1 : Bool) (a4_2 : Bool) (a4_3 : Bool) (a5 : Int) (a6 : Int) (r : Bool) (w : World) (h : cleatlaw03_FlagDoes.f k a0 a1 a2 a3 a4_0 a4_1 a4_2 a4_3 a5 a6 = some r) :
    Calls Try.prog 3 #[.int .u64 a0, .int .u64 a1, .bool a2, .int .i64 a3, .agg #[.bool a4_0, .bool a4_1, .bool a4_2, .bool a4_3], .int .i64 a5, .int .i64 a6] w fun e w' => e = .returned (.bool r) ∧ Below w.heap.size w w' := by
  have hu24 := Try.underlying24
  have HB := Aside0.mk (Below.refl w.heap.size w)
  have H : ((flag_Add.f a0 a1 a2).bind fun bt146 => ((cleatref03_Add.f k a0 a1 a2).bind fun bt152 => ((flag_Sub.f a0 a1).bind fun bt158 => ((cleatref03_Sub.f k a0 a1).bind fun bt164 => ((flag_Holds.f a3 a4_0 a4_1 a4_2 a4_3).bind fun bt170 => ((cleatref03_Holds.f a3 a4_0 a4_1 a4_2 a4_3).bind fun bt172 => ((flag_Shift.f k a0 a5 a6).bind fun bt174 => ((cleatref03_Shift.f k a0 a5 a6).bind fun bt176 => ((cleatlaw03_flagged.f k).bind fun t178 => (if t178 = true then (if bt146.1 = bt152.1 then (if (bt146.2.1 == bt152.2.1 && (bt146.2.2.1 == bt152.2.2.1 && (bt146.2.2.2.1 == bt152.2.2.2.1 && (bt146.2.2.2.2 == bt152.2.2.2.2)))) = true then (if bt158.1 = bt164.1 then (if (bt158.2.1 == bt164.2.1 && (bt158.2.2.1 == bt164.2.2.1 && (bt158.2.2.2.1 == bt164.2.2.2.1 && (bt158.2.2.2.2 == bt164.2.2.2.2)))) = true then ((flag_Of.f a0).bind fun bt179 => ((cleatref03_Of.f k a0).bind fun bt183 => (if (bt179.1 == bt183.1 && (bt179.2.1 == bt183.2.1 && (bt179.2.2.1 == bt183.2.2.1 && (bt179.2.2.2 == bt183.2.2.2)))) = true then (if (bt170.1 == bt172.1) = true then (if bt170.2 = bt172.2 then (if bt174.1 = bt176.1 then (some (bt174.2 == bt176.2)) else (none)) else (none)) else (none)) else (none)))) else (none)) else (none)) else (none)) else (none)) else (none))))))))))) = some r := h
  clear h
  replace H := Option.bind_eq_some_iff.mp H
  obtain ⟨⟨t146, t147, t148, t149, t150⟩, A80, H⟩ := H
  replace H : ((cleatref03_Add.f k a0 a1 a2).bind fun bt152 => ((flag_Sub.f a0 a1).bind fun bt158 => ((cleatref03_Sub.f k a0 a1).bind fun bt164 => ((flag_Holds.f a3 a4_0 a4_1 a4_2 a4_3).bind fun bt170 => ((cleatref03_Holds.f a3 a4_0 a4_1 a4_2 a4_3).bind fun bt172 => ((flag_Shift.f k a0 a5 a6).bind fun bt174 => ((cleatref03_Shift.f k a0 a5 a6).bind fun bt176 => ((cleatlaw03_flagged.f k).bind fun t178 => (if t178 = true then (if t146 = bt152.1 then (if (t147 == bt152.2.1 && (t148 == bt152.2.2.1 && (t149 == bt152.2.2.2.1 && (t150 == bt152.2.2.2.2)))) = true then (if bt158.1 = bt164.1 then (if (bt158.2.1 == bt164.2.1 && (bt158.2.2.1 == bt164.2.2.1 && (bt158.2.2.2.1 == bt164.2.2.2.1 && (bt158.2.2.2.2 == bt164.2.2.2.2)))) = true then ((flag_Of.f a0).bind fun bt179 => ((cleatref03_Of.f k a0).bind fun bt183 => (if (bt179.1 == bt183.1 && (bt179.2.1 == bt183.2.1 && (bt179.2.2.1 == bt183.2.2.1 && (bt179.2.2.2 == bt183.2.2.2)))) = true then (if (bt170.1 == bt172.1) = true then (if bt170.2 = bt172.2 then (if bt174.1 = bt176.1 then (some (bt174.2 == bt176.2)) else (none)) else (none)) else (none)) else (none)))) else (none)) else (none)) else (none)) else (none)) else (none)))))))))) = some r := H
  have A8 := Aside0.mk A80
  clear A80
  replace H := Option.bind_eq_some_iff.mp H
  obtain ⟨⟨t152, t153, t154, t155, t156⟩, A90, H⟩ := H
  replace H : ((flag_Sub.f a0 a1).bind fun bt158 => ((cleatref03_Sub.f k a0 a1).bind fun bt164 => ((flag_Holds.f a3 a4_0 a4_1 a4_2 a4_3).bind fun bt170 => ((cleatref03_Holds.f a3 a4_0 a4_1 a4_2 a4_3).bind fun bt172 => ((flag_Shift.f k a0 a5 a6).bind fun bt174 => ((cleatref03_Shift.f k a0 a5 a6).bind fun bt176 => ((cleatlaw03_flagged.f k).bind fun t178 => (if t178 = true then (if t146 = t152 then (if (t147 == t153 && (t148 == t154 && (t149 == t155 && (t150 == t156)))) = true then (if bt158.1 = bt164.1 then (if (bt158.2.1 == bt164.2.1 && (bt158.2.2.1 == bt164.2.2.1 && (bt158.2.2.2.1 == bt164.2.2.2.1 && (bt158.2.2.2.2 == bt164.2.2.2.2)))) = true then ((flag_Of.f a0).bind fun bt179 => ((cleatref03_Of.f k a0).bind fun bt183 => (if (bt179.1 == bt183.1 && (bt179.2.1 == bt183.2.1 && (bt179.2.2.1 == bt183.2.2.1 && (bt179.2.2.2 == bt183.2.2.2)))) = true then (if (bt170.1 == bt172.1) = true then (if bt170.2 = bt172.2 then (if bt174.1 = bt176.1 then (some (bt174.2 == bt176.2)) else (none)) else (none)) else (none)) else (none)))) else (none)) else (none)) else (none)) else (none)) else (none))))))))) = some r := H
  have A9 := Aside0.mk A90
  clear A90
  replace H := Option.bind_eq_some_iff.mp H
  obtain ⟨⟨t158, t159, t160, t161, t162⟩, A100, H⟩ := H
  replace H : ((cleatref03_Sub.f k a0 a1).bind fun bt164 => ((flag_Holds.f a3 a4_0 a4_1 a4_2 a4_3).bind fun bt170 => ((cleatref03_Holds.f a3 a4_0 a4_1 a4_2 a4_3).bind fun bt172 => ((flag_Shift.f k a0 a5 a6).bind fun bt174 => ((cleatref03_Shift.f k a0 a5 a6).bind fun bt176 => ((cleatlaw03_flagged.f k).bind fun t178 => (if t178 = true then (if t146 = t152 then (if (t147 == t153 && (t148 == t154 && (t149 == t155 && (t150 == t156)))) = true then (if t158 = bt164.1 then (if (t159 == bt164.2.1 && (t160 == bt164.2.2.1 && (t161 == bt164.2.2.2.1 && (t162 == bt164.2.2.2.2)))) = true then ((flag_Of.f a0).bind fun bt179 => ((cleatref03_Of.f k a0).bind fun bt183 => (if (bt179.1 == bt183.1 && (bt179.2.1 == bt183.2.1 && (bt179.2.2.1 == bt183.2.2.1 && (bt179.2.2.2 == bt183.2.2.2)))) = true then (if (bt170.1 == bt172.1) = true then (if bt170.2 = bt172.2 then (if bt174.1 = bt176.1 then (some (bt174.2 == bt176.2)) else (none)) else (none)) else (none)) else (none)))) else (none)) else (none)) else (none)) else (none)) else (none)))))))) = some r := H
  have A10 := Aside0.mk A100
  clear A100
  replace H := Option.bind_eq_some_iff.mp H
  obtain ⟨⟨t164, t165, t166, t167, t168⟩, A110, H⟩ := H
  replace H : ((flag_Holds.f a3 a4_0 a4_1 a4_2 a4_3).bind fun bt170 => ((cleatref03_Holds.f a3 a4_0 a4_1 a4_2 a4_3).bind fun bt172 => ((flag_Shift.f k a0 a5 a6).bind fun bt174 => ((cleatref03_Shift.f k a0 a5 a6).bind fun bt176 => ((cleatlaw03_flagged.f k).bind fun t178 => (if t178 = true then (if t146 = t152 then (if (t147 == t153 && (t148 == t154 && (t149 == t155 && (t150 == t156)))) = true then (if t158 = t164 then (if (t159 == t165 && (t160 == t166 && (t161 == t167 && (t162 == t168)))) = true then ((flag_Of.f a0).bind fun bt179 => ((cleatref03_Of.f k a0).bind fun bt183 => (if (bt179.1 == bt183.1 && (bt179.2.1 == bt183.2.1 && (bt179.2.2.1 == bt183.2.2.1 && (bt179.2.2.2 == bt183.2.2.2)))) = true then (if (bt170.1 == bt172.1) = true then (if bt170.2 = bt172.2 then (if bt174.1 = bt176.1 then (some (bt174.2 == bt176.2)) else (none)) else (none)) else (none)) else (none)))) else (none)) else (none)) else (none)) else (none)) else (none))))))) = some r := H
  have A11 := Aside0.mk A110
  clear A110
  replace H := Option.bind_eq_some_iff.mp H
  obtain ⟨⟨t170, t171⟩, A120, H⟩ := H
  replace H : ((cleatref03_Holds.f a3 a4_0 a4_1 a4_2 a4_3).bind fun bt172 => ((flag_Shift.f k a0 a5 a6).bind fun bt174 => ((cleatref03_Shift.f k a0 a5 a6).bind fun bt176 => ((cleatlaw03_flagged.f k).bind fun t178 => (if t178 = true then (if t146 = t152 then (if (t147 == t153 && (t148 == t154 && (t149 == t155 && (t150 == t156)))) = true then (if t158 = t164 then (if (t159 == t165 && (t160 == t166 && (t161 == t167 && (t162 == t168)))) = true then ((flag_Of.f a0).bind fun bt179 => ((cleatref03_Of.f k a0).bind fun bt183 => (if (bt179.1 == bt183.1 && (bt179.2.1 == bt183.2.1 && (bt179.2.2.1 == bt183.2.2.1 && (bt179.2.2.2 == bt183.2.2.2)))) = true then (if (t170 == bt172.1) = true then (if t171 = bt172.2 then (if bt174.1 = bt176.1 then (some (bt174.2 == bt176.2)) else (none)) else (none)) else (none)) else (none)))) else (none)) else (none)) else (none)) else (none)) else (none)))))) = some r := H
  have A12 := Aside0.mk A120
  clear A120
  replace H := Option.bind_eq_some_iff.mp H
  obtain ⟨⟨t172, t173⟩, A130, H⟩ := H
  replace H : ((flag_Shift.f k a0 a5 a6).bind fun bt174 => ((cleatref03_Shift.f k a0 a5 a6).bind fun bt176 => ((cleatlaw03_flagged.f k).bind fun t178 => (if t178 = true then (if t146 = t152 then (if (t147 == t153 && (t148 == t154 && (t149 == t155 && (t150 == t156)))) = true then (if t158 = t164 then (if (t159 == t165 && (t160 == t166 && (t161 == t167 && (t162 == t168)))) = true then ((flag_Of.f a0).bind fun bt179 => ((cleatref03_Of.f k a0).bind fun bt183 => (if (bt179.1 == bt183.1 && (bt179.2.1 == bt183.2.1 && (bt179.2.2.1 == bt183.2.2.1 && (bt179.2.2.2 == bt183.2.2.2)))) = true then (if (t170 == t172) = true then (if t171 = t173 then (if bt174.1 = bt176.1 then (some (bt174.2 == bt176.2)) else (none)) else (none)) else (none)) else (none)))) else (none)) else (none)) else (none)) else (none)) else (none))))) = some r := H
  have A13 := Aside0.mk A130
  clear A130
  replace H := Option.bind_eq_some_iff.mp H
  obtain ⟨⟨t174, t175⟩, A140, H⟩ := H
  replace H : ((cleatref03_Shift.f k a0 a5 a6).bind fun bt176 => ((cleatlaw03_flagged.f k).bind fun t178 => (if t178 = true then (if t146 = t152 then (if (t147 == t153 && (t148 == t154 && (t149 == t155 && (t150 == t156)))) = true then (if t158 = t164 then (if (t159 == t165 && (t160 == t166 && (t161 == t167 && (t162 == t168)))) = true then ((flag_Of.f a0).bind fun bt179 => ((cleatref03_Of.f k a0).bind fun bt183 => (if (bt179.1 == bt183.1 && (bt179.2.1 == bt183.2.1 && (bt179.2.2.1 == bt183.2.2.1 && (bt179.2.2.2 == bt183.2.2.2)))) = true then (if (t170 == t172) = true then (if t171 = t173 then (if t174 = bt176.1 then (some (t175 == bt176.2)) else (none)) else (none)) else (none)) else (none)))) else (none)) else (none)) else (none)) else (none)) else (none)))) = some r := H
  have A14 := Aside0.mk A140
  clear A140
  replace H := Option.bind_eq_some_iff.mp H
  obtain ⟨⟨t176, t177⟩, A150, H⟩ := H
  replace H : ((cleatlaw03_flagged.f k).bind fun t178 => (if t178 = true then (if t146 = t152 then (if (t147 == t153 && (t148 == t154 && (t149 == t155 && (t150 == t156)))) = true then (if t158 = t164 then (if (t159 == t165 && (t160 == t166 && (t161 == t167 && (t162 == t168)))) = true then ((flag_Of.f a0).bind fun bt179 => ((cleatref03_Of.f k a0).bind fun bt183 => (if (bt179.1 == bt183.1 && (bt179.2.1 == bt183.2.1 && (bt179.2.2.1 == bt183.2.2.1 && (bt179.2.2.2 == bt183.2.2.2)))) = true then (if (t170 == t172) = true then (if t171 = t173 then (if t174 = t176 then (some (t175 == t177)) else (none)) else (none)) else (none)) else (none)))) else (none)) else (none)) else (none)) else (none)) else (none))) = some r := H
  have A15 := Aside0.mk A150
  clear A150
  replace H := Option.bind_eq_some_iff.mp H
  obtain ⟨t178, A160, H⟩ := H
  replace H : (if t178 = true then (if t146 = t152 then (if (t147 == t153 && (t148 == t154 && (t149 == t155 && (t150 == t156)))) = true then (if t158 = t164 then (if (t159 == t165 && (t160 == t166 && (t161 == t167 && (t162 == t168)))) = true then ((flag_Of.f a0).bind fun bt179 => ((cleatref03_Of.f k a0).bind fun bt183 => (if (bt179.1 == bt183.1 && (bt179.2.1 == bt183.2.1 && (bt179.2.2.1 == bt183.2.2.1 && (bt179.2.2.2 == bt183.2.2.2)))) = true then (if (t170 == t172) = true then (if t171 = t173 then (if t174 = t176 then (some (t175 == t177)) else (none)) else (none)) else (none)) else (none)))) else (none)) else (none)) else (none)) else (none)) else (none)) = some r := H
  have A16 := Aside0.mk A160
  clear A160
  by_cases c17 : t178 = true
  · subst c17
    have H1 : (if t146 = t152 then (if (t147 == t153 && (t148 == t154 && (t149 == t155 && (t150 == t156)))) = true then (if t158 = t164 then (if (t159 == t165 && (t160 == t166 && (t161 == t167 && (t162 == t168)))) = true then ((flag_Of.f a0).bind fun bt179 => ((cleatref03_Of.f k a0).bind fun bt183 => (if (bt179.1 == bt183.1 && (bt179.2.1 == bt183.2.1 && (bt179.2.2.1 == bt183.2.2.1 && (bt179.2.2.2 == bt183.2.2.2)))) = true then (if (t170 == t172) = true then (if t171 = t173 then (if t174 = t176 then (some (t175 == t177)) else (none)) else (none)) else (none)) else (none)))) else (none)) else (none)) else (none)) else (none)) = some r := by rw [if_pos rfl] at H; exact H
    clear H
    have H := H1
    clear H1
    by_cases c18 : t146 = t152
    · rw [if_pos c18] at H
      have c18b0 : (t146 == t152) = true := beq_iff_eq.mpr c18
      have c18b1 : (t146 != t152) = false := bne_eq_false_iff_eq.mpr c18
      clear c18
      by_cases c19 : (t147 == t153 && (t148 == t154 && (t149 == t155 && (t150 == t156)))) = true
      · rw [if_pos c19] at H
        have c19b0 : (t147 == t153 && (t148 == t154 && (t149 == t155 && (t150 == t156)))) = true := c19
        (try (have c19b1 : decide (t147 = t153 && (t148 == t154 && (t149 == t155 && (t150 == t156)))) = true := by simpa using c19))
        (try (have c19b2 : (t147 == t153 && (t148 == t154 && (t149 == t155 && (t150 == t156)))) = true := by simpa using c19))
        clear c19
        by_cases c20 : t158 = t164
        · rw [if_pos c20] at H
          have c20b0 : (t158 == t164) = true := beq_iff_eq.mpr c20
          have c20b1 : (t158 != t164) = false := bne_eq_false_iff_eq.mpr c20
          clear c20
          by_cases c21 : (t159 == t165 && (t160 == t166 && (t161 == t167 && (t162 == t168)))) = true
          · rw [if_pos c21] at H
            have c21b0 : (t159 == t165 && (t160 == t166 && (t161 == t167 && (t162 == t168)))) = true := c21
            (try (have c21b1 : decide (t159 = t165 && (t160 == t166 && (t161 == t167 && (t162 == t168)))) = true := by simpa using c21))
            (try (have c21b2 : (t159 == t165 && (t160 == t166 && (t161 == t167 && (t162 == t168)))) = true := by simpa using c21))
            clear c21
            replace H := Option.bind_eq_some_iff.mp H
            obtain ⟨⟨t179, t180, t181, t182⟩, A220, H⟩ := H
            replace H : ((cleatref03_Of.f k a0).bind fun bt183 => (if (t179 == bt183.1 && (t180 == bt183.2.1 && (t181 == bt183.2.2.1 && (t182 == bt183.2.2.2)))) = true then (if (t170 == t172) = true then (if t171 = t173 then (if t174 = t176 then (some (t175 == t177)) else (none)) else (none)) else (none)) else (none))) = some r := H
            have A22 := Aside0.mk A220
            clear A220
            replace H := Option.bind_eq_some_iff.mp H
            obtain ⟨⟨t183, t184, t185, t186⟩, A230, H⟩ := H
            replace H : (if (t179 == t183 && (t180 == t184 && (t181 == t185 && (t182 == t186)))) = true then (if (t170 == t172) = true then (if t171 = t173 then (if t174 = t176 then (some (t175 == t177)) else (none)) else (none)) else (none)) else (none)) = some r := H
            have A23 := Aside0.mk A230
            clear A230
            by_cases c24 : (t179 == t183 && (t180 == t184 && (t181 == t185 && (t182 == t186)))) = true
            · rw [if_pos c24] at H
              have c24b0 : (t179 == t183 && (t180 == t184 && (t181 == t185 && (t182 == t186)))) = true := c24
              (try (have c24b1 : decide (t179 = t183 && (t180 == t184 && (t181 == t185 && (t182 == t186)))) = true := by simpa using c24))
              (try (have c24b2 : (t179 == t183 && (t180 == t184 && (t181 == t185 && (t182 == t186)))) = true := by simpa using c24))
              clear c24
              by_cases c25 : (t170 == t172) = true
              · rw [if_pos c25] at H
                have c25b0 : (t170 == t172) = true := c25
                (try (have c25b1 : decide (t170 = t172) = true := by simpa using c25))
                (try (have c25b2 : (t170 == t172) = true := by simpa using c25))
                clear c25
                by_cases c26 : t171 = t173
                · rw [if_pos c26] at H
                  have c26b0 : (t171 == t173) = true := beq_iff_eq.mpr c26
                  have c26b1 : (t171 != t173) = false := bne_eq_false_iff_eq.mpr c26
                  clear c26
                  by_cases c27 : t174 = t176
                  · rw [if_pos c27] at H
                    have c27b0 : (t174 == t176) = true := beq_iff_eq.mpr c27
                    have c27b1 : (t174 != t176) = false := bne_eq_false_iff_eq.mpr c27
                    clear c27
                    obtain rfl := Option.some.inj H
                    go_enter Try.func3, Try.ntmps3
                    go_wp2_with (first | ((with_reducible refine gate_dst (N := 11) rfl ?_); refine box_event ?hg (N := 11) ?hd (cs := #[.bool a4_0, .bool a4_1, .bool a4_2, .bool a4_3]) (t := 24) ?hr ?_; (case hd => rfl); (case hg => rfl); (case hr => first | (go_simp; done) | (go_simp; rfl)); intro gb145 hg w28 hbox hb; have n0_ := Aside0.mk (below_step (by repeat (first | (with_reducible first | exact HB.out | apply below_alloc | apply pw_below_drewN | apply below_drew1) | exact HB.out)) hb); have n1_ := Aside0.mk (hbox); have n2_ := Aside0.mk ((by rw [hg]; exact (below_size (by repeat (first | (with_reducible first | exact HB.out | apply below_alloc | apply pw_below_drewN | apply below_drew1) | exact HB.out))) : w.heap.size ≤ gb145)); have n3_ := Aside0.mk ((by rw [hg]; exact (below_size (by repeat (first | (with_reducible first | exact HB.out | apply below_alloc | apply pw_below_drewN | apply below_drew1) | exact HB.out))) : w.heap.size ≤ gb145)); clear HB; have HB := n0_; have BK145 := n1_; have GW145 := n2_; have GE145 := n3_; clear n0_ n1_ n2_ n3_; clear hb hbox hg) | ((with_reducible refine gate_callee (f := 14) rfl ?_); refine goesL_ (some 35) rfl rfl Try.func14 (by kernel_rfl) rfl #[.int .u64 a0, .int .u64 a1, .bool a2] rfl (by (try simp only [List.map_toArray, List.map_cons, List.map_nil]); first | done | rfl | (simp only [List.length_drop, List.length_take]; rfl)) ?_; (with_reducible refine (flag_Add.calls a0 a1 a2 t146 t147 t148 t149 t150 _ A8.out).mono ?_); rintro e w29 ⟨rfl, hb⟩; refine ⟨_, rfl, ?_⟩; have n0_ := Aside0.mk (blk_below (g := gb145) (o := .cells #[.bool a4_0, .bool a4_1, .bool a4_2, .bool a4_3] 24 (0, 0)) (by (with_reducible repeat (first | refine blk_drewN ?_ _ | refine blk_drew ?_ | refine blk_alloc ?_ _)); exact BK145.out) hb); have n1_ := Aside0.mk (below_step (by repeat (first | (with_reducible first | exact HB.out | apply below_alloc | apply pw_below_drewN | apply below_drew1 | refine below_set ?_ GE145.out) | exact HB.out)) hb); clear BK145; clear HB; have BK145 := n0_; have HB := n1_; clear n0_ n1_; (try clear hb); (try clear hb2); (try clear hk); (try clear hi)) | ((with_reducible refine gate_dst (N := 16) rfl ?_); refine box_event ?hg (N := 16) ?hd (cs := #[.bool false, .bool false, .bool false, .bool false]) (t := 24) ?hr ?_; (case hd => rfl); (case hg => rfl); (case hr => first | (go_simp; done) | (go_simp; rfl)); intro gb151 hg w30 hbox hb; have n0_ := Aside0.mk (blk_below (g := gb145) (o := .cells #[.bool a4_0, .bool a4_1, .bool a4_2, .bool a4_3] 24 (0, 0)) (by (with_reducible repeat (first | refine blk_drewN ?_ _ | refine blk_drew ?_ | refine blk_alloc ?_ _)); exact BK145.out) hb); have n1_ := Aside0.mk (below_step (by repeat (first | (with_reducible first | exact HB.out | apply below_alloc | apply pw_below_drewN | apply below_drew1 | refine below_set ?_ GE145.out) | exact HB.out)) hb); have n2_ := Aside0.mk (hbox); have n3_ := Aside0.mk ((by rw [hg]; exact (below_size (by repeat (first | (with_reducible first | exact HB.out | apply below_alloc | apply pw_below_drewN | apply below_drew1 | refine below_set ?_ GE145.out) | exact HB.out))) : w.heap.size ≤ gb151)); have n4_ := Aside0.mk ((by rw [hg]; exact (below_size (by repeat (first | (with_reducible first | exact HB.out | apply below_alloc | apply pw_below_drewN | apply below_drew1 | refine below_set ?_ GE145.out) | exact HB.out))) : w.heap.size ≤ gb151)); have n5_ := Aside0.mk ((by rw [hg]; exact Nat.ne_of_lt (blk_lt (g := gb145) (o := .cells #[.bool a4_0, .bool a4_1, .bool a4_2, .bool a4_3] 24 (0, 0)) (by (with_reducible repeat (first | refine blk_drewN ?_ _ | refine blk_drew ?_ | refine blk_alloc ?_ _)); exact BK145.out)) : gb145 ≠ gb151)); have n6_ := Aside0.mk ((by rw [hg]; exact Nat.ne_of_gt (blk_lt (g := gb145) (o := .cells #[.bool a4_0, .bool a4_1, .bool a4_2, .bool a4_3] 24 (0, 0)) (by (with_reducible repeat (first | refine blk_drewN ?_ _ | refine blk_drew ?_ | refine blk_alloc ?_ _)); exact BK145.out)) : gb151 ≠ gb145)); clear BK145; clear HB; have BK145 := n0_; have HB := n1_; have BK151 := n2_; have GW151 := n3_; have GE151 := n4_; have NB145_151 := n5_; have NB151_145 := n6_; clear n0_ n1_ n2_ n3_ n4_ n5_ n6_; clear hb hbox hg; have hnb31 := NB151_145.out; have hnc31 := NB145_151.out; have hcz32_0 : w30.cell? ⟨gb151, 0, none⟩ = some (.bool false) := (blk_cell BK151.out 0).trans rfl; have hcz32_1 : w30.cell? ⟨gb151, 1, none⟩ = some (.bool false) := (blk_cell BK151.out 1).trans rfl; have hcz32_2 : w30.cell? ⟨gb151, 2, none⟩ = some (.bool false) := (blk_cell BK151.out 2).trans rfl; have hcz32_3 : w30.cell? ⟨gb151, 3, none⟩ = some (.bool false) := (blk_cell BK151.out 3).trans rfl; have hfz32_0 := blk_frozen BK151.out 0; have hfz32_1 := blk_frozen BK151.out 1; have hfz32_2 := blk_frozen BK151.out 2; have hfz32_3 := blk_frozen BK151.out 3) | ((with_reducible refine gate_callee (f := 15) rfl ?_); refine goesL_ (some 42) rfl rfl Try.func15 (by kernel_rfl) rfl #[.int .u64 a0, .int .u64 a1, .bool a2] rfl (by (try simp only [List.map_toArray, List.map_cons, List.map_nil]); first | done | rfl | (simp only [List.length_drop, List.length_take]; rfl)) ?_; (with_reducible refine (cleatref03_Add.calls k a0 a1 a2 t152 t153 t154 t155 t156 _ A9.out).mono ?_); rintro e w33 ⟨rfl, hb⟩; refine ⟨_, rfl, ?_⟩; have n0_ := Aside0.mk (blk_below (g := gb145) (o := .cells #[.bool a4_0, .bool a4_1, .bool a4_2, .bool a4_3] 24 (0, 0)) (by (with_reducible repeat (first | refine blk_drewN ?_ _ | refine blk_drew ?_ | refine blk_alloc ?_ _)); refine blk_far ?_ NB145_151.out _; (with_reducible repeat (first | refine blk_drewN ?_ _ | refine blk_drew ?_ | refine blk_alloc ?_ _)); refine blk_far ?_ NB145_151.out _; (with_reducible repeat (first | refine blk_drewN ?_ _ | refine blk_drew ?_ | refine blk_alloc ?_ _)); refine blk_far ?_ NB145_151.out _; (with_reducible repeat (first | refine blk_drewN ?_ _ | refine blk_drew ?_ | refine blk_alloc ?_ _)); refine blk_far ?_ NB145_151.out _; (with_reducible repeat (first | refine blk_drewN ?_ _ | refine blk_drew ?_ | refine blk_alloc ?_ _)); exact BK145.out) hb); have n1_ := Aside0.mk (blk_below (g := gb151) (o := .cells #[.bool t147, .bool t148, .bool t149, .bool t150] 24 (0, 0)) (by (with_reducible repeat (first | refine blk_drewN ?_ _ | refine blk_drew ?_ | refine blk_alloc ?_ _)); refine blk_put (cs := #[.bool t147, .bool t148, .bool t149, .bool false]) ?_ 3 _ rfl; (with_reducible repeat (first | refine blk_drewN ?_ _ | refine blk_drew ?_ | refine blk_alloc ?_ _)); refine blk_put (cs := #[.bool t147, .bool t148, .bool false, .bool false]) ?_ 2 _ rfl; (with_reducible repeat (first | refine blk_drewN ?_ _ | refine blk_drew ?_ | refine blk_alloc ?_ _)); refine blk_put (cs := #[.bool t147, .bool false, .bool false, .bool false]) ?_ 1 _ rfl; (with_reducible repeat (first | refine blk_drewN ?_ _ | refine blk_drew ?_ | refine blk_alloc ?_ _)); refine blk_put (cs := #[.bool false, .bool false, .bool false, .bool false]) ?_ 0 _ rfl; (with_reducible repeat (first | refine blk_drewN ?_ _ | refine blk_drew ?_ | refine blk_alloc ?_ _)); exact BK151.out) hb); have n2_ := Aside0.mk (below_step (by repeat (first | (with_reducible first | exact HB.out | apply below_alloc | apply pw_below_drewN | apply below_drew1 | refine below_set ?_ GE145.out | refine below_set ?_ GE151.out) | exact HB.out)) hb); clear BK145; clear BK151; clear HB; have BK145 := n0_; have BK151 := n1_; have HB := n2_; clear n0_ n1_ n2_; (try clear hb); (try clear hb2); (try clear hk); (try clear hi)) | ((with_reducible refine gate_dst (N := 18) rfl ?_); refine box_event ?hg (N := 18) ?hd (cs := #[.bool false, .bool false, .bool false, .bool false]) (t := 24) ?hr ?_; (case hd => rfl); (case hg => rfl); (case hr => first | (go_simp; done) | (go_simp; rfl)); intro gb157 hg w34 hbox hb; have n0_ := Aside0.mk (blk_below (g := gb145) (o := .cells #[.bool a4_0, .bool a4_1, .bool a4_2, .bool a4_3] 24 (0, 0)) (by (with_reducible repeat (first | refine blk_drewN ?_ _ | refine blk_drew ?_ | refine blk_alloc ?_ _)); exact BK145.out) hb); have n1_ := Aside0.mk (blk_below (g := gb151) (o := .cells #[.bool t147, .bool t148, .bool t149, .bool t150] 24 (0, 0)) (by (with_reducible repeat (first | refine blk_drewN ?_ _ | refine blk_drew ?_ | refine blk_alloc ?_ _)); exact BK151.out) hb); have n2_ := Aside0.mk (below_step (by repeat (first | (with_reducible first | exact HB.out | apply below_alloc | apply pw_below_drewN | apply below_drew1 | refine below_set ?_ GE145.out | refine below_set ?_ GE151.out) | exact HB.out)) hb); have n3_ := Aside0.mk (hbox); have n4_ := Aside0.mk ((by rw [hg]; exact (below_size (by repeat (first | (with_reducible first | exact HB.out | apply below_alloc | apply pw_below_drewN | apply below_drew1 | refine below_set ?_ GE145.out | refine below_set ?_ GE151.out) | exact HB.out))) : w.heap.size ≤ gb157)); have n5_ := Aside0.mk ((by rw [hg]; exact (below_size (by repeat (first | (with_reducible first | exact HB.out | apply below_alloc | apply pw_below_drewN | apply below_drew1 | refine below_set ?_ GE145.out | refine below_set ?_ GE151.out) | exact HB.out))) : w.heap.size ≤ gb157)); have n6_ := Aside0.mk ((by rw [hg]; exact Nat.ne_of_lt (blk_lt (g := gb145) (o := .cells #[.bool a4_0, .bool a4_1, .bool a4_2, .bool a4_3] 24 (0, 0)) (by (with_reducible repeat (first | refine blk_drewN ?_ _ | refine blk_drew ?_ | refine blk_alloc ?_ _)); exact BK145.out)) : gb145 ≠ gb157)); have n7_ := Aside0.mk ((by rw [hg]; exact Nat.ne_of_gt (blk_lt (g := gb145) (o := .cells #[.bool a4_0, .bool a4_1, .bool a4_2, .bool a4_3] 24 (0, 0)) (by (with_reducible repeat (first | refine blk_drewN ?_ _ | refine blk_drew ?_ | refine blk_alloc ?_ _)); exact BK145.out)) : gb157 ≠ gb145)); have n8_ := Aside0.mk ((by rw [hg]; exact Nat.ne_of_lt (blk_lt (g := gb151) (o := .cells #[.bool t147, .bool t148, .bool t149, .bool t150] 24 (0, 0)) (by (with_reducible repeat (first | refine blk_drewN ?_ _ | refine blk_drew ?_ | refine blk_alloc ?_ _)); exact BK151.out)) : gb151 ≠ gb157)); have n9_ := Aside0.mk ((by rw [hg]; exact Nat.ne_of_gt (blk_lt (g := gb151) (o := .cells #[.bool t147, .bool t148, .bool t149, .bool t150] 24 (0, 0)) (by (with_reducible repeat (first | refine blk_drewN ?_ _ | refine blk_drew ?_ | refine blk_alloc ?_ _)); exact BK151.out)) : gb157 ≠ gb151)); clear BK145; clear BK151; clear HB; have BK145 := n0_; have BK151 := n1_; have HB := n2_; have BK157 := n3_; have GW157 := n4_; have GE157 := n5_; have NB145_157 := n6_; have NB157_145 := n7_; have NB151_157 := n8_; have NB157_151 := n9_; clear n0_ n1_ n2_ n3_ n4_ n5_ n6_ n7_ n8_ n9_; clear hb hbox hg; have hnb35 := NB157_145.out; have hnc35 := NB145_157.out; have hnb36 := NB157_151.out; have hnc36 := NB151_157.out; have hcz37_0 : w34.cell? ⟨gb157, 0, none⟩ = some (.bool false) := (blk_cell BK157.out 0).trans rfl; have hcz37_1 : w34.cell? ⟨gb157, 1, none⟩ = some (.bool false) := (blk_cell BK157.out 1).trans rfl; have hcz37_2 : w34.cell? ⟨gb157, 2, none⟩ = some (.bool false) := (blk_cell BK157.out 2).trans rfl; have hcz37_3 : w34.cell? ⟨gb157, 3, none⟩ = some (.bool false) := (blk_cell BK157.out 3).trans rfl; have hfz37_0 := blk_frozen BK157.out 0; have hfz37_1 := blk_frozen BK157.out 1; have hfz37_2 := blk_frozen BK157.out 2; have hfz37_3 := blk_frozen BK157.out 3) | ((with_reducible refine gate_callee (f := 16) rfl ?_); refine goesL_ (some 48) rfl rfl Try.func16 (by kernel_rfl) rfl #[.int .u64 a0, .int .u64 a1] rfl (by (try simp only [List.map_toArray, List.map_cons, List.map_nil]); first | done | rfl | (simp only [List.length_drop, List.length_take]; rfl)) ?_; (with_reducible refine (flag_Sub.calls a0 a1 t158 t159 t160 t161 t162 _ A10.out).mono ?_); rintro e w38 ⟨rfl, hb⟩; refine ⟨_, rfl, ?_⟩; have n0_ := Aside0.mk (blk_below (g := gb145) (o := .cells #[.bool a4_0, .bool a4_1, .bool a4_2, .bool a4_3] 24 (0, 0)) (by (with_reducible repeat (first | refine blk_drewN ?_ _ | refine blk_drew ?_ | refine blk_alloc ?_ _)); refine blk_far ?_ NB145_157.out _; (with_reducible repeat (first | refine blk_drewN ?_ _ | refine blk_drew ?_ | refine blk_alloc ?_ _)); refine blk_far ?_ NB145_157.out _; (with_reducible repeat (first | refine blk_drewN ?_ _ | refine blk_drew ?_ | refine blk_alloc ?_ _)); refine blk_far ?_ NB145_157.out _; (with_reducible repeat (first | refine blk_drewN ?_ _ | refine blk_drew ?_ | refine blk_alloc ?_ _)); refine blk_far ?_ NB145_157.out _; (with_reducible repeat (first | refine blk_drewN ?_ _ | refine blk_drew ?_ | refine blk_alloc ?_ _)); exact BK145.out) hb); have n1_ := Aside0.mk (blk_below (g := gb151) (o := .cells #[.bool t147, .bool t148, .bool t149, .bool t150] 24 (0, 0)) (by (with_reducible repeat (first | refine blk_drewN ?_ _ | refine blk_drew ?_ | refine blk_alloc ?_ _)); refine blk_far ?_ NB151_157.out _; (with_reducible repeat (first | refine blk_drewN ?_ _ | refine blk_drew ?_ | refine blk_alloc ?_ _)); refine blk_far ?_ NB151_157.out _; (with_reducible repeat (first | refine blk_drewN ?_ _ | refine blk_drew ?_ | refine blk_alloc ?_ _)); refine blk_far ?_ NB151_157.out _; (with_reducible repeat (first | refine blk_drewN ?_ _ | refine blk_drew ?_ | refine blk_alloc ?_ _)); refine blk_far ?_ NB151_157.out _; (with_reducible repeat (first | refine blk_drewN ?_ _ | refine blk_drew ?_ | refine blk_alloc ?_ _)); exact BK151.out) hb); have n2_ := Aside0.mk (blk_below (g := gb157) (o := .cells #[.bool t153, .bool t154, .bool t155, .bool t156] 24 (0, 0)) (by (with_reducible repeat (first | refine blk_drewN ?_ _ | refine blk_drew ?_ | refine blk_alloc ?_ _)); refine blk_put (cs := #[.bool t153, .bool t154, .bool t155, .bool false]) ?_ 3 _ rfl; (with_reducible repeat (first | refine blk_drewN ?_ _ | refine blk_drew ?_ | refine blk_alloc ?_ _)); refine blk_put (cs := #[.bool t153, .bool t154, .bool false, .bool false]) ?_ 2 _ rfl; (with_reducible repeat (first | refine blk_drewN ?_ _ | refine blk_drew ?_ | refine blk_alloc ?_ _)); refine blk_put (cs := #[.bool t153, .bool false, .bool false, .bool false]) ?_ 1 _ rfl; (with_reducible repeat (first | refine blk_drewN ?_ _ | refine blk_drew ?_ | refine blk_alloc ?_ _)); refine blk_put (cs := #[.bool false, .bool false, .bool false, .bool false]) ?_ 0 _ rfl; (with_reducible repeat (first | refine blk_drewN ?_ _ | refine blk_drew ?_ | refine blk_alloc ?_ _)); exact BK157.out) hb); have n3_ := Aside0.mk (below_step (by repeat (first | (with_reducible first | exact HB.out | apply below_alloc | apply pw_below_drewN | apply below_drew1 | refine below_set ?_ GE145.out | refine below_set ?_ GE151.out | refine below_set ?_ GE157.out) | exact HB.out)) hb); clear BK145; clear BK151; clear BK157; clear HB; have BK145 := n0_; have BK151 := n1_; have BK157 := n2_; have HB := n3_; clear n0_ n1_ n2_ n3_; (try clear hb); (try clear hb2); (try clear hk); (try clear hi)) | ((with_reducible refine gate_dst (N := 20) rfl ?_); refine box_event ?hg (N := 20) ?hd (cs := #[.bool false, .bool false, .bool false, .bool false]) (t := 24) ?hr ?_; (case hd => rfl); (case hg => rfl); (case hr => first | (go_simp; done) | (go_simp; rfl)); intro gb163 hg w39 hbox hb; have n0_ := Aside0.mk (blk_below (g := gb145) (o := .cells #[.bool a4_0, .bool a4_1, .bool a4_2, .bool a4_3] 24 (0, 0)) (by (with_reducible repeat (first | refine blk_drewN ?_ _ | refine blk_drew ?_ | refine blk_alloc ?_ _)); exact BK145.out) hb); have n1_ := Aside0.mk (blk_below (g := gb151) (o := .cells #[.bool t147, .bool t148, .bool t149, .bool t150] 24 (0, 0)) (by (with_reducible repeat (first | refine blk_drewN ?_ _ | refine blk_drew ?_ | refine blk_alloc ?_ _)); exact BK151.out) hb); have n2_ := Aside0.mk (blk_below (g := gb157) (o := .cells #[.bool t153, .bool t154, .bool t155, .bool t156] 24 (0, 0)) (by (with_reducible repeat (first | refine blk_drewN ?_ _ | refine blk_drew ?_ | refine blk_alloc ?_ _)); exact BK157.out) hb); have n3_ := Aside0.mk (below_step (by repeat (first | (with_reducible first | exact HB.out | apply below_alloc | apply pw_below_drewN | apply below_drew1 | refine below_set ?_ GE145.out | refine below_set ?_ GE151.out | refine below_set ?_ GE157.out) | exact HB.out)) hb); have n4_ := Aside0.mk (hbox); have n5_ := Aside0.mk ((by rw [hg]; exact (below_size (by repeat (first | (with_reducible first | exact HB.out | apply below_alloc | apply pw_below_drewN | apply below_drew1 | refine below_set ?_ GE145.out | refine below_set ?_ GE151.out | refine below_set ?_ GE157.out) | exact HB.out))) : w.heap.size ≤ gb163)); have n6_ := Aside0.mk ((by rw [hg]; exact (below_size (by repeat (first | (with_reducible first | exact HB.out | apply below_alloc | apply pw_below_drewN | apply below_drew1 | refine below_set ?_ GE145.out | refine below_set ?_ GE151.out | refine below_set ?_ GE157.out) | exact HB.out))) : w.heap.size ≤ gb163)); have n7_ := Aside0.mk ((by rw [hg]; exact Nat.ne_of_lt (blk_lt (g := gb145) (o := .cells #[.bool a4_0, .bool a4_1, .bool a4_2, .bool a4_3] 24 (0, 0)) (by (with_reducible repeat (first | refine blk_drewN ?_ _ | refine blk_drew ?_ | refine blk_alloc ?_ _)); exact BK145.out)) : gb145 ≠ gb163)); have n8_ := Aside0.mk ((by rw [hg]; exact Nat.ne_of_gt (blk_lt (g := gb145) (o := .cells #[.bool a4_0, .bool a4_1, .bool a4_2, .bool a4_3] 24 (0, 0)) (by (with_reducible repeat (first | refine blk_drewN ?_ _ | refine blk_drew ?_ | refine blk_alloc ?_ _)); exact BK145.out)) : gb163 ≠ gb145)); have n9_ := Aside0.mk ((by rw [hg]; exact Nat.ne_of_lt (blk_lt (g := gb151) (o := .cells #[.bool t147, .bool t148, .bool t149, .bool t150] 24 (0, 0)) (by (with_reducible repeat (first | refine blk_drewN ?_ _ | refine blk_drew ?_ | refine blk_alloc ?_ _)); exact BK151.out)) : gb151 ≠ gb163)); have n10_ := Aside0.mk ((by rw [hg]; exact Nat.ne_of_gt (blk_lt (g := gb151) (o := .cells #[.bool t147, .bool t148, .bool t149, .bool t150] 24 (0, 0)) (by (with_reducible repeat (first | refine blk_drewN ?_ _ | refine blk_drew ?_ | refine blk_alloc ?_ _)); exact BK151.out)) : gb163 ≠ gb151)); have n11_ := Aside0.mk ((by rw [hg]; exact Nat.ne_of_lt (blk_lt (g := gb157) (o := .cells #[.bool t153, .bool t154, .bool t155, .bool t156] 24 (0, 0)) (by (with_reducible repeat (first | refine blk_drewN ?_ _ | refine blk_drew ?_ | refine blk_alloc ?_ _)); exact BK157.out)) : gb157 ≠ gb163)); have n12_ := Aside0.mk ((by rw [hg]; exact Nat.ne_of_gt (blk_lt (g := gb157) (o := .cells #[.bool t153, .bool t154, .bool t155, .bool t156] 24 (0, 0)) (by (with_reducible repeat (first | refine blk_drewN ?_ _ | refine blk_drew ?_ | refine blk_alloc ?_ _)); exact BK157.out)) : gb163 ≠ gb157)); clear BK145; clear BK151; clear BK157; clear HB; have BK145 := n0_; have BK151 := n1_; have BK157 := n2_; have HB := n3_; have BK163 := n4_; have GW163 := n5_; have GE163 := n6_; have NB145_163 := n7_; have NB163_145 := n8_; have NB151_163 := n9_; have NB163_151 := n10_; have NB157_163 := n11_; have NB163_157 := n12_; clear n0_ n1_ n2_ n3_ n4_ n5_ n6_ n7_ n8_ n9_ n10_ n11_ n12_; clear hb hbox hg; have hnb40 := NB163_145.out; have hnc40 := NB145_163.out; have hnb41 := NB163_151.out; have hnc41 := NB151_163.out; have hnb42 := NB163_157.out; have hnc42 := NB157_163.out; have hcz43_0 : w39.cell? ⟨gb163, 0, none⟩ = some (.bool false) := (blk_cell BK163.out 0).trans rfl; have hcz43_1 : w39.cell? ⟨gb163, 1, none⟩ = some (.bool false) := (blk_cell BK163.out 1).trans rfl; have hcz43_2 : w39.cell? ⟨gb163, 2, none⟩ = some (.bool false) := (blk_cell BK163.out 2).trans rfl; have hcz43_3 : w39.cell? ⟨gb163, 3, none⟩ = some (.bool false) := (blk_cell BK163.out 3).trans rfl; have hfz43_0 := blk_frozen BK163.out 0; have hfz43_1 := blk_frozen BK163.out 1; have hfz43_2 := blk_frozen BK163.out 2; have hfz43_3 := blk_frozen BK163.out 3) | ((with_reducible refine gate_callee (f := 17) rfl ?_); refine goesL_ (some 54) rfl rfl Try.func17 (by kernel_rfl) rfl #[.int .u64 a0, .int .u64 a1] rfl (by (try simp only [List.map_toArray, List.map_cons, List.map_nil]); first | done | rfl | (simp only [List.length_drop, List.length_take]; rfl)) ?_; (with_reducible refine (cleatref03_Sub.calls k a0 a1 t164 t165 t166 t167 t168 _ A11.out).mono ?_); rintro e w44 ⟨rfl, hb⟩; refine ⟨_, rfl, ?_⟩; have n0_ := Aside0.mk (blk_below (g := gb145) (o := .cells #[.bool a4_0, .bool a4_1, .bool a4_2, .bool a4_3] 24 (0, 0)) (by (with_reducible repeat (first | refine blk_drewN ?_ _ | refine blk_drew ?_ | refine blk_alloc ?_ _)); refine blk_far ?_ NB145_163.out _; (with_reducible repeat (first | refine blk_drewN ?_ _ | refine blk_drew ?_ | refine blk_alloc ?_ _)); refine blk_far ?_ NB145_163.out _; (with_reducible repeat (first | refine blk_drewN ?_ _ | refine blk_drew ?_ | refine blk_alloc ?_ _)); refine blk_far ?_ NB145_163.out _; (with_reducible repeat (first | refine blk_drewN ?_ _ | refine blk_drew ?_ | refine blk_alloc ?_ _)); refine blk_far ?_ NB145_163.out _; (with_reducible repeat (first | refine blk_drewN ?_ _ | refine blk_drew ?_ | refine blk_alloc ?_ _)); exact BK145.out) hb); have n1_ := Aside0.mk (blk_below (g := gb151) (o := .cells #[.bool t147, .bool t148, .bool t149, .bool t150] 24 (0, 0)) (by (with_reducible repeat (first | refine blk_drewN ?_ _ | refine blk_drew ?_ | refine blk_alloc ?_ _)); refine blk_far ?_ NB151_163.out _; (with_reducible repeat (first | refine blk_drewN ?_ _ | refine blk_drew ?_ | refine blk_alloc ?_ _)); refine blk_far ?_ NB151_163.out _; (with_reducible repeat (first | refine blk_drewN ?_ _ | refine blk_drew ?_ | refine blk_alloc ?_ _)); refine blk_far ?_ NB151_163.out _; (with_reducible repeat (first | refine blk_drewN ?_ _ | refine blk_drew ?_ | refine blk_alloc ?_ _)); refine blk_far ?_ NB151_163.out _; (with_reducible repeat (first | refine blk_drewN ?_ _ | refine blk_drew ?_ | refine blk_alloc ?_ _)); exact BK151.out) hb); have n2_ := Aside0.mk (blk_below (g := gb157) (o := .cells #[.bool t153, .bool t154, .bool t155, .bool t156] 24 (0, 0)) (by (with_reducible repeat (first | refine blk_drewN ?_ _ | refine blk_drew ?_ | refine blk_alloc ?_ _)); refine blk_far ?_ NB157_163.out _; (with_reducible repeat (first | refine blk_drewN ?_ _ | refine blk_drew ?_ | refine blk_alloc ?_ _)); refine blk_far ?_ NB157_163.out _; (with_reducible repeat (first | refine blk_drewN ?_ _ | refine blk_drew ?_ | refine blk_alloc ?_ _)); refine blk_far ?_ NB157_163.out _; (with_reducible repeat (first | refine blk_drewN ?_ _ | refine blk_drew ?_ | refine blk_alloc ?_ _)); refine blk_far ?_ NB157_163.out _; (with_reducible repeat (first | refine blk_drewN ?_ _ | refine blk_drew ?_ | refine blk_alloc ?_ _)); exact BK157.out) hb); have n3_ := Aside0.mk (blk_below (g := gb163) (o := .cells #[.bool t159, .bool t160, .bool t161, .bool t162] 24 (0, 0)) (by (with_reducible repeat (first | refine blk_drewN ?_ _ | refine blk_drew ?_ | refine blk_alloc ?_ _)); refine blk_put (cs := #[.bool t159, .bool t160, .bool t161, .bool false]) ?_ 3 _ rfl; (with_reducible repeat (first | refine blk_drewN ?_ _ | refine blk_drew ?_ | refine blk_alloc ?_ _)); refine blk_put (cs := #[.bool t159, .bool t160, .bool false, .bool false]) ?_ 2 _ rfl; (with_reducible repeat (first | refine blk_drewN ?_ _ | refine blk_drew ?_ | refine blk_alloc ?_ _)); refine blk_put (cs := #[.bool t159, .bool false, .bool false, .bool false]) ?_ 1 _ rfl; (with_reducible repeat (first | refine blk_drewN ?_ _ | refine blk_drew ?_ | refine blk_alloc ?_ _)); refine blk_put (cs := #[.bool false, .bool false, .bool false, .bool false]) ?_ 0 _ rfl; (with_reducible repeat (first | refine blk_drewN ?_ _ | refine blk_drew ?_ | refine blk_alloc ?_ _)); exact BK163.out) hb); have n4_ := Aside0.mk (below_step (by repeat (first | (with_reducible first | exact HB.out | apply below_alloc | apply pw_below_drewN | apply below_drew1 | refine below_set ?_ GE145.out | refine below_set ?_ GE151.out | refine below_set ?_ GE157.out | refine below_set ?_ GE163.out) | exact HB.out)) hb); clear BK145; clear BK151; clear BK157; clear BK163; clear HB; have BK145 := n0_; have BK151 := n1_; have BK157 := n2_; have BK163 := n3_; have HB := n4_; clear n0_ n1_ n2_ n3_ n4_; (try clear hb); (try clear hb2); (try clear hk); (try clear hi)) | ((with_reducible refine gate_dst (N := 22) rfl ?_); refine box_event ?hg (N := 22) ?hd (cs := #[.bool false, .bool false, .bool false, .bool false]) (t := 24) ?hr ?_; (case hd => rfl); (case hg => rfl); (case hr => first | (go_simp; done) | (go_simp; rfl)); intro gb169 hg w45 hbox hb; have n0_ := Aside0.mk (blk_below (g := gb145) (o := .cells #[.bool a4_0, .bool a4_1, .bool a4_2, .bool a4_3] 24 (0, 0)) (by (with_reducible repeat (first | refine blk_drewN ?_ _ | refine blk_drew ?_ | refine blk_alloc ?_ _)); exact BK145.out) hb); have n1_ := Aside0.mk (blk_below (g := gb151) (o := .cells #[.bool t147, .bool t148, .bool t149, .bool t150] 24 (0, 0)) (by (with_reducible repeat (first | refine blk_drewN ?_ _ | refine blk_drew ?_ | refine blk_alloc ?_ _)); exact BK151.out) hb); have n2_ := Aside0.mk (blk_below (g := gb157) (o := .cells #[.bool t153, .bool t154, .bool t155, .bool t156] 24 (0, 0)) (by (with_reducible repeat (first | refine blk_drewN ?_ _ | refine blk_drew ?_ | refine blk_alloc ?_ _)); exact BK157.out) hb); have n3_ := Aside0.mk (blk_below (g := gb163) (o := .cells #[.bool t159, .bool t160, .bool t161, .bool t162] 24 (0, 0)) (by (with_reducible repeat (first | refine blk_drewN ?_ _ | refine blk_drew ?_ | refine blk_alloc ?_ _)); exact BK163.out) hb); have n4_ := Aside0.mk (below_step (by repeat (first | (with_reducible first | exact HB.out | apply below_alloc | apply pw_below_drewN | apply below_drew1 | refine below_set ?_ GE145.out | refine below_set ?_ GE151.out | refine below_set ?_ GE157.out | refine below_set ?_ GE163.out) | exact HB.out)) hb); have n5_ := Aside0.mk (hbox); have n6_ := Aside0.mk ((by rw [hg]; exact (below_size (by repeat (first | (with_reducible first | exact HB.out | apply below_alloc | apply pw_below_drewN | apply below_drew1 | refine below_set ?_ GE145.out | refine below_set ?_ GE151.out | refine below_set ?_ GE157.out | refine below_set ?_ GE163.out) | exact HB.out))) : w.heap.size ≤ gb169)); have n7_ := Aside0.mk ((by rw [hg]; exact (below_size (by repeat (first | (with_reducible first | exact HB.out | apply below_alloc | apply pw_below_drewN | apply below_drew1 | refine below_set ?_ GE145.out | refine below_set ?_ GE151.out | refine below_set ?_ GE157.out | refine below_set ?_ GE163.out) | exact HB.out))) : w.heap.size ≤ gb169)); have n8_ := Aside0.mk ((by rw [hg]; exact Nat.ne_of_lt (blk_lt (g := gb145) (o := .cells #[.bool a4_0, .bool a4_1, .bool a4_2, .bool a4_3] 24 (0, 0)) (by (with_reducible repeat (first | refine blk_drewN ?_ _ | refine blk_drew ?_ | refine blk_alloc ?_ _)); exact BK145.out)) : gb145 ≠ gb169)); have n9_ := Aside0.mk ((by rw [hg]; exact Nat.ne_of_gt (blk_lt (g := gb145) (o := .cells #[.bool a4_0, .bool a4_1, .bool a4_2, .bool a4_3] 24 (0, 0)) (by (with_reducible repeat (first | refine blk_drewN ?_ _ | refine blk_drew ?_ | refine blk_alloc ?_ _)); exact BK145.out)) : gb169 ≠ gb145)); have n10_ := Aside0.mk ((by rw [hg]; exact Nat.ne_of_lt (blk_lt (g := gb151) (o := .cells #[.bool t147, .bool t148, .bool t149, .bool t150] 24 (0, 0)) (by (with_reducible repeat (first | refine blk_drewN ?_ _ | refine blk_drew ?_ | refine blk_alloc ?_ _)); exact BK151.out)) : gb151 ≠ gb169)); have n11_ := Aside0.mk ((by rw [hg]; exact Nat.ne_of_gt (blk_lt (g := gb151) (o := .cells #[.bool t147, .bool t148, .bool t149, .bool t150] 24 (0, 0)) (by (with_reducible repeat (first | refine blk_drewN ?_ _ | refine blk_drew ?_ | refine blk_alloc ?_ _)); exact BK151.out)) : gb169 ≠ gb151)); have n12_ := Aside0.mk ((by rw [hg]; exact Nat.ne_of_lt (blk_lt (g := gb157) (o := .cells #[.bool t153, .bool t154, .bool t155, .bool t156] 24 (0, 0)) (by (with_reducible repeat (first | refine blk_drewN ?_ _ | refine blk_drew ?_ | refine blk_alloc ?_ _)); exact BK157.out)) : gb157 ≠ gb169)); have n13_ := Aside0.mk ((by rw [hg]; exact Nat.ne_of_gt (blk_lt (g := gb157) (o := .cells #[.bool t153, .bool t154, .bool t155, .bool t156] 24 (0, 0)) (by (with_reducible repeat (first | refine blk_drewN ?_ _ | refine blk_drew ?_ | refine blk_alloc ?_ _)); exact BK157.out)) : gb169 ≠ gb157)); have n14_ := Aside0.mk ((by rw [hg]; exact Nat.ne_of_lt (blk_lt (g := gb163) (o := .cells #[.bool t159, .bool t160, .bool t161, .bool t162] 24 (0, 0)) (by (with_reducible repeat (first | refine blk_drewN ?_ _ | refine blk_drew ?_ | refine blk_alloc ?_ _)); exact BK163.out)) : gb163 ≠ gb169)); have n15_ := Aside0.mk ((by rw [hg]; exact Nat.ne_of_gt (blk_lt (g := gb163) (o := .cells #[.bool t159, .bool t160, .bool t161, .bool t162] 24 (0, 0)) (by (with_reducible repeat (first | refine blk_drewN ?_ _ | refine blk_drew ?_ | refine blk_alloc ?_ _)); exact BK163.out)) : gb169 ≠ gb163)); clear BK145; clear BK151; clear BK157; clear BK163; clear HB; have BK145 := n0_; have BK151 := n1_; have BK157 := n2_; have BK163 := n3_; have HB := n4_; have BK169 := n5_; have GW169 := n6_; have GE169 := n7_; have NB145_169 := n8_; have NB169_145 := n9_; have NB151_169 := n10_; have NB169_151 := n11_; have NB157_169 := n12_; have NB169_157 := n13_; have NB163_169 := n14_; have NB169_163 := n15_; clear n0_ n1_ n2_ n3_ n4_ n5_ n6_ n7_ n8_ n9_ n10_ n11_ n12_ n13_ n14_ n15_; clear hb hbox hg; have hnb46 := NB169_145.out; have hnc46 := NB145_169.out; have hnb47 := NB169_151.out; have hnc47 := NB151_169.out; have hnb48 := NB169_157.out; have hnc48 := NB157_169.out; have hnb49 := NB169_163.out; have hnc49 := NB163_169.out; have hcz50_0 : w45.cell? ⟨gb169, 0, none⟩ = some (.bool false) := (blk_cell BK169.out 0).trans rfl; have hcz50_1 : w45.cell? ⟨gb169, 1, none⟩ = some (.bool false) := (blk_cell BK169.out 1).trans rfl; have hcz50_2 : w45.cell? ⟨gb169, 2, none⟩ = some (.bool false) := (blk_cell BK169.out 2).trans rfl; have hcz50_3 : w45.cell? ⟨gb169, 3, none⟩ = some (.bool false) := (blk_cell BK169.out 3).trans rfl; have hfz50_0 := blk_frozen BK169.out 0; have hfz50_1 := blk_frozen BK169.out 1; have hfz50_2 := blk_frozen BK169.out 2; have hfz50_3 := blk_frozen BK169.out 3; have hcz51_0 : w45.cell? ⟨gb145, 0, none⟩ = some (.bool a4_0) := (blk_cell BK145.out 0).trans rfl; have hcz51_1 : w45.cell? ⟨gb145, 1, none⟩ = some (.bool a4_1) := (blk_cell BK145.out 1).trans rfl; have hcz51_2 : w45.cell? ⟨gb145, 2, none⟩ = some (.bool a4_2) := (blk_cell BK145.out 2).trans rfl; have hcz51_3 : w45.cell? ⟨gb145, 3, none⟩ = some (.bool a4_3) := (blk_cell BK145.out 3).trans rfl; have hfz51_0 := blk_frozen BK145.out 0; have hfz51_1 := blk_frozen BK145.out 1; have hfz51_2 := blk_frozen BK145.out 2; have hfz51_3 := blk_frozen BK145.out 3) | ((with_reducible refine gate_callee (f := 18) rfl ?_); refine goesL_ (some 60) rfl rfl Try.func18 (by kernel_rfl) rfl #[.int .i64 a3, .agg #[.bool a4_0, .bool a4_1, .bool a4_2, .bool a4_3]] rfl (by (try simp only [List.map_toArray, List.map_cons, List.map_nil]); first | done | rfl | (simp only [List.length_drop, List.length_take]; rfl)) ?_; (with_reducible refine (flag_Holds.calls a3 a4_0 a4_1 a4_2 a4_3 t170 t171 _ A12.out).mono ?_); rintro e w52 ⟨rfl, hb⟩; refine ⟨_, rfl, ?_⟩; have n0_ := Aside0.mk (blk_below (g := gb145) (o := .cells #[.bool a4_0, .bool a4_1, .bool a4_2, .bool a4_3] 24 (0, 0)) (by (with_reducible repeat (first | refine blk_drewN ?_ _ | refine blk_drew ?_ | refine blk_alloc ?_ _)); refine blk_far ?_ NB145_169.out _; (with_reducible repeat (first | refine blk_drewN ?_ _ | refine blk_drew ?_ | refine blk_alloc ?_ _)); refine blk_far ?_ NB145_169.out _; (with_reducible repeat (first | refine blk_drewN ?_ _ | refine blk_drew ?_ | refine blk_alloc ?_ _)); refine blk_far ?_ NB145_169.out _; (with_reducible repeat (first | refine blk_drewN ?_ _ | refine blk_drew ?_ | refine blk_alloc ?_ _)); refine blk_far ?_ NB145_169.out _; (with_reducible repeat (first | refine blk_drewN ?_ _ | refine blk_drew ?_ | refine blk_alloc ?_ _)); exact BK145.out) hb); have n1_ := Aside0.mk (blk_below (g := gb151) (o := .cells #[.bool t147, .bool t148, .bool t149, .bool t150] 24 (0, 0)) (by (with_reducible repeat (first | refine blk_drewN ?_ _ | refine blk_drew ?_ | refine blk_alloc ?_ _)); refine blk_far ?_ NB151_169.out _; (with_reducible repeat (first | refine blk_drewN ?_ _ | refine blk_drew ?_ | refine blk_alloc ?_ _)); refine blk_far ?_ NB151_169.out _; (with_reducible repeat (first | refine blk_drewN ?_ _ | refine blk_drew ?_ | refine blk_alloc ?_ _)); refine blk_far ?_ NB151_169.out _; (with_reducible repeat (first | refine blk_drewN ?_ _ | refine blk_drew ?_ | refine blk_alloc ?_ _)); refine blk_far ?_ NB151_169.out _; (with_reducible repeat (first | refine blk_drewN ?_ _ | refine blk_drew ?_ | refine blk_alloc ?_ _)); exact BK151.out) hb); have n2_ := Aside0.mk (blk_below (g := gb157) (o := .cells #[.bool t153, .bool t154, .bool t155, .bool t156] 24 (0, 0)) (by (with_reducible repeat (first | refine blk_drewN ?_ _ | refine blk_drew ?_ | refine blk_alloc ?_ _)); refine blk_far ?_ NB157_169.out _; (with_reducible repeat (first | refine blk_drewN ?_ _ | refine blk_drew ?_ | refine blk_alloc ?_ _)); refine blk_far ?_ NB157_169.out _; (with_reducible repeat (first | refine blk_drewN ?_ _ | refine blk_drew ?_ | refine blk_alloc ?_ _)); refine blk_far ?_ NB157_169.out _; (with_reducible repeat (first | refine blk_drewN ?_ _ | refine blk_drew ?_ | refine blk_alloc ?_ _)); refine blk_far ?_ NB157_169.out _; (with_reducible repeat (first | refine blk_drewN ?_ _ | refine blk_drew ?_ | refine blk_alloc ?_ _)); exact BK157.out) hb); have n3_ := Aside0.mk (blk_below (g := gb163) (o := .cells #[.bool t159, .bool t160, .bool t161, .bool t162] 24 (0, 0)) (by (with_reducible repeat (first | refine blk_drewN ?_ _ | refine blk_drew ?_ | refine blk_alloc ?_ _)); refine blk_far ?_ NB163_169.out _; (with_reducible repeat (first | refine blk_drewN ?_ _ | refine blk_drew ?_ | refine blk_alloc ?_ _)); refine blk_far ?_ NB163_169.out _; (with_reducible repeat (first | refine blk_drewN ?_ _ | refine blk_drew ?_ | refine blk_alloc ?_ _)); refine blk_far ?_ NB163_169.out _; (with_reducible repeat (first | refine blk_drewN ?_ _ | refine blk_drew ?_ | refine blk_alloc ?_ _)); refine blk_far ?_ NB163_169.out _; (with_reducible repeat (first | refine blk_drewN ?_ _ | refine blk_drew ?_ | refine blk_alloc ?_ _)); exact BK163.out) hb); have n4_ := Aside0.mk (blk_below (g := gb169) (o := .cells #[.bool t165, .bool t166, .bool t167, .bool t168] 24 (0, 0)) (by (with_reducible repeat (first | refine blk_drewN ?_ _ | refine blk_drew ?_ | refine blk_alloc ?_ _)); refine blk_put (cs := #[.bool t165, .bool t166, .bool t167, .bool false]) ?_ 3 _ rfl; (with_reducible repeat (first | refine blk_drewN ?_ _ | refine blk_drew ?_ | refine blk_alloc ?_ _)); refine blk_put (cs := #[.bool t165, .bool t166, .bool false, .bool false]) ?_ 2 _ rfl; (with_reducible repeat (first | refine blk_drewN ?_ _ | refine blk_drew ?_ | refine blk_alloc ?_ _)); refine blk_put (cs := #[.bool t165, .bool false, .bool false, .bool false]) ?_ 1 _ rfl; (with_reducible repeat (first | refine blk_drewN ?_ _ | refine blk_drew ?_ | refine blk_alloc ?_ _)); refine blk_put (cs := #[.bool false, .bool false, .bool false, .bool false]) ?_ 0 _ rfl; (with_reducible repeat (first | refine blk_drewN ?_ _ | refine blk_drew ?_ | refine blk_alloc ?_ _)); exact BK169.out) hb); have n5_ := Aside0.mk (below_step (by repeat (first | (with_reducible first | exact HB.out | apply below_alloc | apply pw_below_drewN | apply below_drew1 | refine below_set ?_ GE145.out | refine below_set ?_ GE151.out | refine below_set ?_ GE157.out | refine below_set ?_ GE163.out | refine below_set ?_ GE169.out) | exact HB.out)) hb); clear BK145; clear BK151; clear BK157; clear BK163; clear BK169; clear HB; have BK145 := n0_; have BK151 := n1_; have BK157 := n2_; have BK163 := n3_; have BK169 := n4_; have HB := n5_; clear n0_ n1_ n2_ n3_ n4_ n5_; (try clear hb); (try clear hb2); (try clear hk); (try clear hi); have hcz53_0 : w52.cell? ⟨gb145, 0, none⟩ = some (.bool a4_0) := (blk_cell BK145.out 0).trans rfl; have hcz53_1 : w52.cell? ⟨gb145, 1, none⟩ = some (.bool a4_1) := (blk_cell BK145.out 1).trans rfl; have hcz53_2 : w52.cell? ⟨gb145, 2, none⟩ = some (.bool a4_2) := (blk_cell BK145.out 2).trans rfl; have hcz53_3 : w52.cell? ⟨gb145, 3, none⟩ = some (.bool a4_3) := (blk_cell BK145.out 3).trans rfl; have hfz53_0 := blk_frozen BK145.out 0; have hfz53_1 := blk_frozen BK145.out 1; have hfz53_2 := blk_frozen BK145.out 2; have hfz53_3 := blk_frozen BK145.out 3) | ((with_reducible refine gate_callee (f := 19) rfl ?_); refine goesL_ (some 66) rfl rfl Try.func19 (by kernel_rfl) rfl #[.int .i64 a3, .agg #[.bool a4_0, .bool a4_1, .bool a4_2, .bool a4_3]] rfl (by (try simp only [List.map_toArray, List.map_cons, List.map_nil]); first | done | rfl | (simp only [List.length_drop, List.length_take]; rfl)) ?_; (with_reducible refine (cleatref03_Holds.calls a3 a4_0 a4_1 a4_2 a4_3 t172 t173 _ A13.out).mono ?_); rintro e w54 ⟨rfl, hb⟩; refine ⟨_, rfl, ?_⟩; have n0_ := Aside0.mk (blk_below (g := gb145) (o := .cells #[.bool a4_0, .bool a4_1, .bool a4_2, .bool a4_3] 24 (0, 0)) (by (with_reducible repeat (first | refine blk_drewN ?_ _ | refine blk_drew ?_ | refine blk_alloc ?_ _)); exact BK145.out) hb); have n1_ := Aside0.mk (blk_below (g := gb151) (o := .cells #[.bool t147, .bool t148, .bool t149, .bool t150] 24 (0, 0)) (by (with_reducible repeat (first | refine blk_drewN ?_ _ | refine blk_drew ?_ | refine blk_alloc ?_ _)); exact BK151.out) hb); have n2_ := Aside0.mk (blk_below (g := gb157) (o := .cells #[.bool t153, .bool t154, .bool t155, .bool t156] 24 (0, 0)) (by (with_reducible repeat (first | refine blk_drewN ?_ _ | refine blk_drew ?_ | refine blk_alloc ?_ _)); exact BK157.out) hb); have n3_ := Aside0.mk (blk_below (g := gb163) (o := .cells #[.bool t159, .bool t160, .bool t161, .bool t162] 24 (0, 0)) (by (with_reducible repeat (first | refine blk_drewN ?_ _ | refine blk_drew ?_ | refine blk_alloc ?_ _)); exact BK163.out) hb); have n4_ := Aside0.mk (blk_below (g := gb169) (o := .cells #[.bool t165, .bool t166, .bool t167, .bool t168] 24 (0, 0)) (by (with_reducible repeat (first | refine blk_drewN ?_ _ | refine blk_drew ?_ | refine blk_alloc ?_ _)); exact BK169.out) hb); have n5_ := Aside0.mk (below_step (by repeat (first | (with_reducible first | exact HB.out | apply below_alloc | apply pw_below_drewN | apply below_drew1 | refine below_set ?_ GE145.out | refine below_set ?_ GE151.out | refine below_set ?_ GE157.out | refine below_set ?_ GE163.out | refine below_set ?_ GE169.out) | exact HB.out)) hb); clear BK145; clear BK151; clear BK157; clear BK163; clear BK169; clear HB; have BK145 := n0_; have BK151 := n1_; have BK157 := n2_; have BK163 := n3_; have BK169 := n4_; have HB := n5_; clear n0_ n1_ n2_ n3_ n4_ n5_; (try clear hb); (try clear hb2); (try clear hk); (try clear hi)) | ((with_reducible refine gate_callee (f := 20) rfl ?_); refine goesL_ (some 73) rfl rfl Try.func20 (by kernel_rfl) rfl #[.int .u64 a0, .int .i64 a5, .int .i64 a6] rfl (by (try simp only [List.map_toArray, List.map_cons, List.map_nil]); first | done | rfl | (simp only [List.length_drop, List.length_take]; rfl)) ?_; (with_reducible refine (flag_Shift.calls k a0 a5 a6 t174 t175 _ A14.out).mono ?_); rintro e w' ⟨rfl, ⟨nd, rfl⟩⟩; refine ⟨_, rfl, ?_⟩) | ((with_reducible refine gate_callee (f := 21) rfl ?_); refine goesL_ (some 80) rfl rfl Try.func21 (by kernel_rfl) rfl #[.int .u64 a0, .int .i64 a5, .int .i64 a6] rfl (by (try simp only [List.map_toArray, List.map_cons, List.map_nil]); first | done | rfl | (simp only [List.length_drop, List.length_take]; rfl)) ?_; (with_reducible refine (cleatref03_Shift.calls k a0 a5 a6 t176 t177 _ A15.out).mono ?_); rintro e w55 ⟨rfl, hb⟩; refine ⟨_, rfl, ?_⟩; have n0_ := Aside0.mk (blk_below (g := gb145) (o := .cells #[.bool a4_0, .bool a4_1, .bool a4_2, .bool a4_3] 24 (0, 0)) (by (with_reducible repeat (first | refine blk_drewN ?_ _ | refine blk_drew ?_ | refine blk_alloc ?_ _)); exact BK145.out) hb); have n1_ := Aside0.mk (blk_below (g := gb151) (o := .cells #[.bool t147, .bool t148, .bool t149, .bool t150] 24 (0, 0)) (by (with_reducible repeat (first | refine blk_drewN ?_ _ | refine blk_drew ?_ | refine blk_alloc ?_ _)); exact BK151.out) hb); have n2_ := Aside0.mk (blk_below (g := gb157) (o := .cells #[.bool t153, .bool t154, .bool t155, .bool t156] 24 (0, 0)) (by (with_reducible repeat (first | refine blk_drewN ?_ _ | refine blk_drew ?_ | refine blk_alloc ?_ _)); exact BK157.out) hb); have n3_ := Aside0.mk (blk_below (g := gb163) (o := .cells #[.bool t159, .bool t160, .bool t161, .bool t162] 24 (0, 0)) (by (with_reducible repeat (first | refine blk_drewN ?_ _ | refine blk_drew ?_ | refine blk_alloc ?_ _)); exact BK163.out) hb); have n4_ := Aside0.mk (blk_below (g := gb169) (o := .cells #[.bool t165, .bool t166, .bool t167, .bool t168] 24 (0, 0)) (by (with_reducible repeat (first | refine blk_drewN ?_ _ | refine blk_drew ?_ | refine blk_alloc ?_ _)); exact BK169.out) hb); have n5_ := Aside0.mk (below_step (by repeat (first | (with_reducible first | exact HB.out | apply below_alloc | apply pw_below_drewN | apply below_drew1 | refine below_set ?_ GE145.out | refine below_set ?_ GE151.out | refine below_set ?_ GE157.out | refine below_set ?_ GE163.out | refine below_set ?_ GE169.out) | exact HB.out)) hb); clear BK145; clear BK151; clear BK157; clear BK163; clear BK169; clear HB; have BK145 := n0_; have BK151 := n1_; have BK157 := n2_; have BK163 := n3_; have BK169 := n4_; have HB := n5_; clear n0_ n1_ n2_ n3_ n4_ n5_; (try clear hb); (try clear hb2); (try clear hk); (try clear hi)) | ((with_reducible refine gate_callee (f := 22) rfl ?_); refine goesL_ (some 83) rfl rfl Try.func22 (by kernel_rfl) rfl #[] rfl (by (try simp only [List.map_toArray, List.map_cons, List.map_nil]); first | done | rfl | (simp only [List.length_drop, List.length_take]; rfl)) ?_; (with_reducible refine (cleatlaw03_flagged.calls k  true _ A16.out).mono ?_); rintro e w56 ⟨rfl, hb⟩; refine ⟨_, rfl, ?_⟩; have n0_ := Aside0.mk (blk_below (g := gb145) (o := .cells #[.bool a4_0, .bool a4_1, .bool a4_2, .bool a4_3] 24 (0, 0)) (by (with_reducible repeat (first | refine blk_drewN ?_ _ | refine blk_drew ?_ | refine blk_alloc ?_ _)); exact BK145.out) hb); have n1_ := Aside0.mk (blk_below (g := gb151) (o := .cells #[.bool t147, .bool t148, .bool t149, .bool t150] 24 (0, 0)) (by (with_reducible repeat (first | refine blk_drewN ?_ _ | refine blk_drew ?_ | refine blk_alloc ?_ _)); exact BK151.out) hb); have n2_ := Aside0.mk (blk_below (g := gb157) (o := .cells #[.bool t153, .bool t154, .bool t155, .bool t156] 24 (0, 0)) (by (with_reducible repeat (first | refine blk_drewN ?_ _ | refine blk_drew ?_ | refine blk_alloc ?_ _)); exact BK157.out) hb); have n3_ := Aside0.mk (blk_below (g := gb163) (o := .cells #[.bool t159, .bool t160, .bool t161, .bool t162] 24 (0, 0)) (by (with_reducible repeat (first | refine blk_drewN ?_ _ | refine blk_drew ?_ | refine blk_alloc ?_ _)); exact BK163.out) hb); have n4_ := Aside0.mk (blk_below (g := gb169) (o := .cells #[.bool t165, .bool t166, .bool t167, .bool t168] 24 (0, 0)) (by (with_reducible repeat (first | refine blk_drewN ?_ _ | refine blk_drew ?_ | refine blk_alloc ?_ _)); exact BK169.out) hb); have n5_ := Aside0.mk (below_step (by repeat (first | (with_reducible first | exact HB.out | apply below_alloc | apply pw_below_drewN | apply below_drew1 | refine below_set ?_ GE145.out | refine below_set ?_ GE151.out | refine below_set ?_ GE157.out | refine below_set ?_ GE163.out | refine below_set ?_ GE169.out) | exact HB.out)) hb); clear BK145; clear BK151; clear BK157; clear BK163; clear BK169; clear HB; have BK145 := n0_; have BK151 := n1_; have BK157 := n2_; have BK163 := n3_; have BK169 := n4_; have HB := n5_; clear n0_ n1_ n2_ n3_ n4_ n5_; (try clear hb); (try clear hb2); (try clear hk); (try clear hi); have hcz57_0 : w56.cell? ⟨gb151, 0, none⟩ = some (.bool t147) := (blk_cell BK151.out 0).trans rfl; have hcz57_1 : w56.cell? ⟨gb151, 1, none⟩ = some (.bool t148) := (blk_cell BK151.out 1).trans rfl; have hcz57_2 : w56.cell? ⟨gb151, 2, none⟩ = some (.bool t149) := (blk_cell BK151.out 2).trans rfl; have hcz57_3 : w56.cell? ⟨gb151, 3, none⟩ = some (.bool t150) := (blk_cell BK151.out 3).trans rfl; have hfz57_0 := blk_frozen BK151.out 0; have hfz57_1 := blk_frozen BK151.out 1; have hfz57_2 := blk_frozen BK151.out 2; have hfz57_3 := blk_frozen BK151.out 3; have hcz58_0 : w56.cell? ⟨gb157, 0, none⟩ = some (.bool t153) := (blk_cell BK157.out 0).trans rfl; have hcz58_1 : w56.cell? ⟨gb157, 1, none⟩ = some (.bool t154) := (blk_cell BK157.out 1).trans rfl; have hcz58_2 : w56.cell? ⟨gb157, 2, none⟩ = some (.bool t155) := (blk_cell BK157.out 2).trans rfl; have hcz58_3 : w56.cell? ⟨gb157, 3, none⟩ = some (.bool t156) := (blk_cell BK157.out 3).trans rfl; have hfz58_0 := blk_frozen BK157.out 0; have hfz58_1 := blk_frozen BK157.out 1; have hfz58_2 := blk_frozen BK157.out 2; have hfz58_3 := blk_frozen BK157.out 3; have hcz59_0 : w56.cell? ⟨gb163, 0, none⟩ = some (.bool t159) := (blk_cell BK163.out 0).trans rfl; have hcz59_1 : w56.cell? ⟨gb163, 1, none⟩ = some (.bool t160) := (blk_cell BK163.out 1).trans rfl; have hcz59_2 : w56.cell? ⟨gb163, 2, none⟩ = some (.bool t161) := (blk_cell BK163.out 2).trans rfl; have hcz59_3 : w56.cell? ⟨gb163, 3, none⟩ = some (.bool t162) := (blk_cell BK163.out 3).trans rfl; have hfz59_0 := blk_frozen BK163.out 0; have hfz59_1 := blk_frozen BK163.out 1; have hfz59_2 := blk_frozen BK163.out 2; have hfz59_3 := blk_frozen BK163.out 3; have hcz60_0 : w56.cell? ⟨gb169, 0, none⟩ = some (.bool t165) := (blk_cell BK169.out 0).trans rfl; have hcz60_1 : w56.cell? ⟨gb169, 1, none⟩ = some (.bool t166) := (blk_cell BK169.out 1).trans rfl; have hcz60_2 : w56.cell? ⟨gb169, 2, none⟩ = some (.bool t167) := (blk_cell BK169.out 2).trans rfl; have hcz60_3 : w56.cell? ⟨gb169, 3, none⟩ = some (.bool t168) := (blk_cell BK169.out 3).trans rfl; have hfz60_0 := blk_frozen BK169.out 0; have hfz60_1 := blk_frozen BK169.out 1; have hfz60_2 := blk_frozen BK169.out 2; have hfz60_3 := blk_frozen BK169.out 3) | (go_at_call 23; (with_reducible refine (flag_Of.calls a0 t179 t180 t181 t182 _ A22.out).mono ?_); rintro e w61 ⟨rfl, hb⟩; have n0_ := Aside0.mk (blk_below (g := gb145) (o := .cells #[.bool a4_0, .bool a4_1, .bool a4_2, .bool a4_3] 24 (0, 0)) (by (with_reducible repeat (first | refine blk_drewN ?_ _ | refine blk_drew ?_ | refine blk_alloc ?_ _)); exact BK145.out) hb); have n1_ := Aside0.mk (blk_below (g := gb151) (o := .cells #[.bool t147, .bool t148, .bool t149, .bool t150] 24 (0, 0)) (by (with_reducible repeat (first | refine blk_drewN ?_ _ | refine blk_drew ?_ | refine blk_alloc ?_ _)); exact BK151.out) hb); have n2_ := Aside0.mk (blk_below (g := gb157) (o := .cells #[.bool t153, .bool t154, .bool t155, .bool t156] 24 (0, 0)) (by (with_reducible repeat (first | refine blk_drewN ?_ _ | refine blk_drew ?_ | refine blk_alloc ?_ _)); exact BK157.out) hb); have n3_ := Aside0.mk (blk_below (g := gb163) (o := .cells #[.bool t159, .bool t160, .bool t161, .bool t162] 24 (0, 0)) (by (with_reducible repeat (first | refine blk_drewN ?_ _ | refine blk_drew ?_ | refine blk_alloc ?_ _)); exact BK163.out) hb); have n4_ := Aside0.mk (blk_below (g := gb169) (o := .cells #[.bool t165, .bool t166, .bool t167, .bool t168] 24 (0, 0)) (by (with_reducible repeat (first | refine blk_drewN ?_ _ | refine blk_drew ?_ | refine blk_alloc ?_ _)); exact BK169.out) hb); have n5_ := Aside0.mk (below_step (by repeat (first | (with_reducible first | exact HB.out | apply below_alloc | apply pw_below_drewN | apply below_drew1 | refine below_set ?_ GE145.out | refine below_set ?_ GE151.out | refine below_set ?_ GE157.out | refine below_set ?_ GE163.out | refine below_set ?_ GE169.out) | exact HB.out)) hb); clear BK145; clear BK151; clear BK157; clear BK163; clear BK169; clear HB; have BK145 := n0_; have BK151 := n1_; have BK157 := n2_; have BK163 := n3_; have BK169 := n4_; have HB := n5_; clear n0_ n1_ n2_ n3_ n4_ n5_; (try clear hb); (try clear hb2); (try clear hk); (try clear hi)) | (go_at_call 24; (with_reducible refine (cleatref03_Of.calls k a0 t183 t184 t185 t186 _ A23.out).mono ?_); rintro e w62 ⟨rfl, hb⟩; have n0_ := Aside0.mk (blk_below (g := gb145) (o := .cells #[.bool a4_0, .bool a4_1, .bool a4_2, .bool a4_3] 24 (0, 0)) (by (with_reducible repeat (first | refine blk_drewN ?_ _ | refine blk_drew ?_ | refine blk_alloc ?_ _)); exact BK145.out) hb); have n1_ := Aside0.mk (blk_below (g := gb151) (o := .cells #[.bool t147, .bool t148, .bool t149, .bool t150] 24 (0, 0)) (by (with_reducible repeat (first | refine blk_drewN ?_ _ | refine blk_drew ?_ | refine blk_alloc ?_ _)); exact BK151.out) hb); have n2_ := Aside0.mk (blk_below (g := gb157) (o := .cells #[.bool t153, .bool t154, .bool t155, .bool t156] 24 (0, 0)) (by (with_reducible repeat (first | refine blk_drewN ?_ _ | refine blk_drew ?_ | refine blk_alloc ?_ _)); exact BK157.out) hb); have n3_ := Aside0.mk (blk_below (g := gb163) (o := .cells #[.bool t159, .bool t160, .bool t161, .bool t162] 24 (0, 0)) (by (with_reducible repeat (first | refine blk_drewN ?_ _ | refine blk_drew ?_ | refine blk_alloc ?_ _)); exact BK163.out) hb); have n4_ := Aside0.mk (blk_below (g := gb169) (o := .cells #[.bool t165, .bool t166, .bool t167, .bool t168] 24 (0, 0)) (by (with_reducible repeat (first | refine blk_drewN ?_ _ | refine blk_drew ?_ | refine blk_alloc ?_ _)); exact BK169.out) hb); have n5_ := Aside0.mk (below_step (by repeat (first | (with_reducible first | exact HB.out | apply below_alloc | apply pw_below_drewN | apply below_drew1 | refine below_set ?_ GE145.out | refine below_set ?_ GE151.out | refine below_set ?_ GE157.out | refine below_set ?_ GE163.out | refine below_set ?_ GE169.out) | exact HB.out)) hb); clear BK145; clear BK151; clear BK157; clear BK163; clear BK169; clear HB; have BK145 := n0_; have BK151 := n1_; have BK157 := n2_; have BK163 := n3_; have BK169 := n4_; have HB := n5_; clear n0_ n1_ n2_ n3_ n4_ n5_; (try clear hb); (try clear hb2); (try clear hk); (try clear hi)))
                    go_ret
                    exact ⟨by first | rfl | (simp [errW_none, errW_some] <;> rfl) | (simp [*, errW_none, errW_some] <;> rfl), by repeat (first | (with_reducible first | exact HB.out | apply below_alloc | apply pw_below_drewN | apply below_drew1 | refine below_set ?_ GE145.out | refine below_set ?_ GE151.out | refine below_set ?_ GE157.out | refine below_set ?_ GE163.out | refine below_set ?_ GE169.out) | exact HB.out)⟩
                  · rw [if_neg c27] at H
                    exact absurd H (by simp)
                · rw [if_neg c26] at H
                  exact absurd H (by simp)
              · rw [if_neg c25] at H
                exact absurd H (by simp)
            · rw [if_neg c24] at H
              exact absurd H (by simp)
          · rw [if_neg c21] at H
            exact absurd H (by simp)
        · rw [if_neg c20] at H
          exact absurd H (by simp)
      · rw [if_neg c19] at H
        exact absurd H (by simp)
    · rw [if_neg c18] at H
      exact absurd H (by simp)
  · replace c17 := Bool.eq_false_iff.mpr c17
    subst c17
    have H1 : (none) = some r := by rw [if_neg (show ¬ (false = true) by decide)] at H; exact H
    clear H
    have H := H1
    clear H1
    exact absurd H (by simp)

/-! ### cleatlaw03_holds: function 25 -/
def cleatlaw03_holds.f (a0 : Int) (a1_0 : Bool) (a1_1 : Bool) (a1_2 : Bool) (a1_3 : Bool) : Option (Bool) := (flag_Holds.f a0 a1_0 a1_1 a1_2 a1_3).bind fun bt188 => (if bt188.1 = true then (some (bt188.2 == 0)) else (some false))
set_option maxHeartbeats 8000000 in
set_option maxRecDepth 100000 in
theorem cleatlaw03_holds.calls (a0 : Int) (a1_0 : Bool) (a1_1 : Bool) (a1_2 : Bool) (a1_3 : Bool) (r : Bool) (w : World) (h : cleatlaw03_holds.f a0 a1_0 a1_1 a1_2 a1_3 = some r) :
    Calls Try.prog 25 #[.int .i64 a0, .agg #[.bool a1_0, .bool a1_1, .bool a1_2, .bool a1_3]] w fun e w' => e = .returned (.bool r) ∧ Below w.heap.size w w' := by
  have hu24 := Try.underlying24
  have HB := Aside0.mk (Below.refl w.heap.size w)
  have H : ((flag_Holds.f a0 a1_0 a1_1 a1_2 a1_3).bind fun bt188 => (if bt188.1 = true then (some (bt188.2 == 0)) else (some false))) = some r := h
  clear h
  replace H := Option.bind_eq_some_iff.mp H
  obtain ⟨⟨t188, t189⟩, A30, H⟩ := H
  replace H : (if t188 = true then (some (t189 == 0)) else (some false)) = some r := H
  have A3 := Aside0.mk A30
  clear A30
  by_cases c4 : t188 = true
  · subst c4
    have H1 : (some (t189 == 0)) = some r := by rw [if_pos rfl] at H; exact H
    clear H
    have H := H1
    clear H1
    obtain rfl := Option.some.inj H
    go_enter Try.func25, Try.ntmps25
    go_wp2_with (first | ((with_reducible refine gate_dst (N := 3) rfl ?_); refine box_event ?hg (N := 3) ?hd (cs := #[.bool a1_0, .bool a1_1, .bool a1_2, .bool a1_3]) (t := 24) ?hr ?_; (case hd => rfl); (case hg => rfl); (case hr => first | (go_simp; done) | (go_simp; rfl)); intro gb187 hg w5 hbox hb; have n0_ := Aside0.mk (below_step (by repeat (first | (with_reducible first | exact HB.out | apply below_alloc | apply pw_below_drewN | apply below_drew1) | exact HB.out)) hb); have n1_ := Aside0.mk (hbox); have n2_ := Aside0.mk ((by rw [hg]; exact (below_size (by repeat (first | (with_reducible first | exact HB.out | apply below_alloc | apply pw_below_drewN | apply below_drew1) | exact HB.out))) : w.heap.size ≤ gb187)); have n3_ := Aside0.mk ((by rw [hg]; exact (below_size (by repeat (first | (with_reducible first | exact HB.out | apply below_alloc | apply pw_below_drewN | apply below_drew1) | exact HB.out))) : w.heap.size ≤ gb187)); clear HB; have HB := n0_; have BK187 := n1_; have GW187 := n2_; have GE187 := n3_; clear n0_ n1_ n2_ n3_; clear hb hbox hg; have hcz6_0 : w5.cell? ⟨gb187, 0, none⟩ = some (.bool a1_0) := (blk_cell BK187.out 0).trans rfl; have hcz6_1 : w5.cell? ⟨gb187, 1, none⟩ = some (.bool a1_1) := (blk_cell BK187.out 1).trans rfl; have hcz6_2 : w5.cell? ⟨gb187, 2, none⟩ = some (.bool a1_2) := (blk_cell BK187.out 2).trans rfl; have hcz6_3 : w5.cell? ⟨gb187, 3, none⟩ = some (.bool a1_3) := (blk_cell BK187.out 3).trans rfl; have hfz6_0 := blk_frozen BK187.out 0; have hfz6_1 := blk_frozen BK187.out 1; have hfz6_2 := blk_frozen BK187.out 2; have hfz6_3 := blk_frozen BK187.out 3) | ((with_reducible refine gate_callee (f := 18) rfl ?_); refine goesL_ (some 10) rfl rfl Try.func18 (by kernel_rfl) rfl #[.int .i64 a0, .agg #[.bool a1_0, .bool a1_1, .bool a1_2, .bool a1_3]] rfl (by (try simp only [List.map_toArray, List.map_cons, List.map_nil]); first | done | rfl | (simp only [List.length_drop, List.length_take]; rfl)) ?_; (with_reducible refine (flag_Holds.calls a0 a1_0 a1_1 a1_2 a1_3 true t189 _ A3.out).mono ?_); rintro e w7 ⟨rfl, hb⟩; refine ⟨_, rfl, ?_⟩; have n0_ := Aside0.mk (blk_below (g := gb187) (o := .cells #[.bool a1_0, .bool a1_1, .bool a1_2, .bool a1_3] 24 (0, 0)) (by (with_reducible repeat (first | refine blk_drewN ?_ _ | refine blk_drew ?_ | refine blk_alloc ?_ _)); exact BK187.out) hb); have n1_ := Aside0.mk (below_step (by repeat (first | (with_reducible first | exact HB.out | apply below_alloc | apply pw_below_drewN | apply below_drew1 | refine below_set ?_ GE187.out) | exact HB.out)) hb); clear BK187; clear HB; have BK187 := n0_; have HB := n1_; clear n0_ n1_; (try clear hb); (try clear hb2); (try clear hk); (try clear hi)))
    go_ret
    exact ⟨by first | rfl | (simp [errW_none, errW_some] <;> rfl) | (simp [*, errW_none, errW_some] <;> rfl), by repeat (first | (with_reducible first | exact HB.out | apply below_alloc | apply pw_below_drewN | apply below_drew1 | refine below_set ?_ GE187.out) | exact HB.out)⟩
  · replace c4 := Bool.eq_false_iff.mpr c4
    subst c4
    have H1 : (some false) = some r := by rw [if_neg (show ¬ (false = true) by decide)] at H; exact H
    clear H
    have H := H1
    clear H1
    obtain rfl := Option.some.inj H
    go_enter Try.func25, Try.ntmps25
    go_wp2_with (first | ((with_reducible refine gate_dst (N := 3) rfl ?_); refine box_event ?hg (N := 3) ?hd (cs := #[.bool a1_0, .bool a1_1, .bool a1_2, .bool a1_3]) (t := 24) ?hr ?_; (case hd => rfl); (case hg => rfl); (case hr => first | (go_simp; done) | (go_simp; rfl)); intro gb187 hg w8 hbox hb; have n0_ := Aside0.mk (below_step (by repeat (first | (with_reducible first | exact HB.out | apply below_alloc | apply pw_below_drewN | apply below_drew1) | exact HB.out)) hb); have n1_ := Aside0.mk (hbox); have n2_ := Aside0.mk ((by rw [hg]; exact (below_size (by repeat (first | (with_reducible first | exact HB.out | apply below_alloc | apply pw_below_drewN | apply below_drew1) | exact HB.out))) : w.heap.size ≤ gb187)); have n3_ := Aside0.mk ((by rw [hg]; exact (below_size (by repeat (first | (with_reducible first | exact HB.out | apply below_alloc | apply pw_below_drewN | apply below_drew1) | exact HB.out))) : w.heap.size ≤ gb187)); clear HB; have HB := n0_; have BK187 := n1_; have GW187 := n2_; have GE187 := n3_; clear n0_ n1_ n2_ n3_; clear hb hbox hg; have hcz9_0 : w8.cell? ⟨gb187, 0, none⟩ = some (.bool a1_0) := (blk_cell BK187.out 0).trans rfl; have hcz9_1 : w8.cell? ⟨gb187, 1, none⟩ = some (.bool a1_1) := (blk_cell BK187.out 1).trans rfl; have hcz9_2 : w8.cell? ⟨gb187, 2, none⟩ = some (.bool a1_2) := (blk_cell BK187.out 2).trans rfl; have hcz9_3 : w8.cell? ⟨gb187, 3, none⟩ = some (.bool a1_3) := (blk_cell BK187.out 3).trans rfl; have hfz9_0 := blk_frozen BK187.out 0; have hfz9_1 := blk_frozen BK187.out 1; have hfz9_2 := blk_frozen BK187.out 2; have hfz9_3 := blk_frozen BK187.out 3) | ((with_reducible refine gate_callee (f := 18) rfl ?_); refine goesL_ (some 10) rfl rfl Try.func18 (by kernel_rfl) rfl #[.int .i64 a0, .agg #[.bool a1_0, .bool a1_1, .bool a1_2, .bool a1_3]] rfl (by (try simp only [List.map_toArray, List.map_cons, List.map_nil]); first | done | rfl | (simp only [List.length_drop, List.length_take]; rfl)) ?_; (with_reducible refine (flag_Holds.calls a0 a1_0 a1_1 a1_2 a1_3 false t189 _ A3.out).mono ?_); rintro e w10 ⟨rfl, hb⟩; refine ⟨_, rfl, ?_⟩; have n0_ := Aside0.mk (blk_below (g := gb187) (o := .cells #[.bool a1_0, .bool a1_1, .bool a1_2, .bool a1_3] 24 (0, 0)) (by (with_reducible repeat (first | refine blk_drewN ?_ _ | refine blk_drew ?_ | refine blk_alloc ?_ _)); exact BK187.out) hb); have n1_ := Aside0.mk (below_step (by repeat (first | (with_reducible first | exact HB.out | apply below_alloc | apply pw_below_drewN | apply below_drew1 | refine below_set ?_ GE187.out) | exact HB.out)) hb); clear BK187; clear HB; have BK187 := n0_; have HB := n1_; clear n0_ n1_; (try clear hb); (try clear hb2); (try clear hk); (try clear hi)))
    go_ret
    exact ⟨by first | rfl | (simp [errW_none, errW_some] <;> rfl) | (simp [*, errW_none, errW_some] <;> rfl), by repeat (first | (with_reducible first | exact HB.out | apply below_alloc | apply pw_below_drewN | apply below_drew1 | refine below_set ?_ GE187.out) | exact HB.out)⟩

end Go.Proofs.Ytclomjndhcpmfaa.P
