/- Written for this claim by a program of this session (drive.py, over the print of the kit): Lean functions with the answers of Go functions, and the proofs that the Go code comes to these answers, under no condition but the readings of the arguments that each theorem names. -/
import Derived.Test.YtbklmlbmbnnjkaaDoorRx0
import Derived.Test.YtbklmlbmbnnjkaaDoorRx2
import Derived.Test.YtbklmlbmbnnjkaaDoorRx4
import Derived.Test.YtbklmlbmbnnjkaaDoorRx8
import Derived.Test.YtbklmlbmbnnjkaaDoorRx9
import Derived.Test.YtbklmlbmbnnjkaaDoorRx20
namespace Go.Proofs.YtbklmlbmbnnjkaaDoor.R
open Go.RowKit Go.Proofs.YtbklmlbmbnnjkaaDoorW.PrintWords Go.Proofs.YtbklmlbmbnnjkaaDoorW.PrintLast Go.Proofs.YtbklmlbmbnnjkaaDoorW.PrintMore
attribute [local go_sem] max2_int min2_int max_two min_two max_three min_three max_four min_four   -- for this text's walks alone
set_option linter.unusedVariables false
set_option linter.unusedSimpArgs false

/-! ### cleatref02_Decode: function 15 -/
mutual
def cleatref02_Decode.j0 : Nat → Int → Int → Int → Bool → Option (Int × Int)
 | 0, _, _, _, _ => none
 | k + 1, x0, x1, x2, x31 => if x31 = true then (some (0, 1)) else (cleatref02_Decode.l0 k x0 x1 x2 2)
def cleatref02_Decode.l0 : Nat → Int → Int → Int → Int → Option (Int × Int)
 | 0, _, _, _, _ => none
 | k + 1, x0, x1, x2, x8 => if x8 ≤ 64 then (if x8 < 64 then (cleatref02_Decode.j2 k x0 x1 x2 x8 (wrap64 ((wrap64 (x2 - (wrap64 (64 - (wrap64 (2 * x8)))))) + 1))) else (cleatref02_Decode.j2 k x0 x1 x2 x8 (wrap64 (x2 + 1)))) else (some (0, 3))
def cleatref02_Decode.j2 : Nat → Int → Int → Int → Int → Int → Option (Int × Int)
 | 0, _, _, _, _, _ => none
 | k + 1, x0, x1, x2, x8, x9 => if ((x0 == 1) == (x8 == 64)) = true then (if x9 ≥ 1 then (if x9 < x8 then (cleatref02_Decode.j3 k x0 x1 x2 x8 x9 (decide (x1 < x8))) else (cleatref02_Decode.j3 k x0 x1 x2 x8 x9 false)) else (cleatref02_Decode.j3 k x0 x1 x2 x8 x9 false)) else (cleatref02_Decode.j3 k x0 x1 x2 x8 x9 false)
def cleatref02_Decode.j3 : Nat → Int → Int → Int → Int → Int → Bool → Option (Int × Int)
 | 0, _, _, _, _, _, _ => none
 | k + 1, x0, x1, x2, x8, x9, x64 => if x64 = true then ((cleatref02_row.f k x9 x1 x8).bind fun t400 => ((cleatref02_again.f k t400 x8).bind fun t401 => (some (t401, 0)))) else (cleatref02_Decode.l0 k x0 x1 x2 (wrap64 (2 * x8)))
end
def cleatref02_Decode.f (k : Nat) (a0 : Int) (a1 : Int) (a2 : Int) : Option (Int × Int) := if a0 < 0 then (cleatref02_Decode.j0 k a0 a1 a2 true) else (if a0 > 1 then (cleatref02_Decode.j0 k a0 a1 a2 true) else (if a1 < 0 then (cleatref02_Decode.j0 k a0 a1 a2 true) else (if a1 > 63 then (cleatref02_Decode.j0 k a0 a1 a2 true) else (if a2 < 0 then (cleatref02_Decode.j0 k a0 a1 a2 true) else (cleatref02_Decode.j0 k a0 a1 a2 (decide (a2 > 63)))))))
theorem cleatref02_Decode.mono_l : ∀ k, (∀ y0 y1 y2 y3, LeO (cleatref02_Decode.j0 k y0 y1 y2 y3) (cleatref02_Decode.j0 (k + 1) y0 y1 y2 y3)) ∧ (∀ y0 y1 y2 y3, LeO (cleatref02_Decode.l0 k y0 y1 y2 y3) (cleatref02_Decode.l0 (k + 1) y0 y1 y2 y3)) ∧ (∀ y0 y1 y2 y3 y4, LeO (cleatref02_Decode.j2 k y0 y1 y2 y3 y4) (cleatref02_Decode.j2 (k + 1) y0 y1 y2 y3 y4)) ∧ (∀ y0 y1 y2 y3 y4 y5, LeO (cleatref02_Decode.j3 k y0 y1 y2 y3 y4 y5) (cleatref02_Decode.j3 (k + 1) y0 y1 y2 y3 y4 y5))
 | 0 => ⟨fun _ _ _ _ r h => by simp [cleatref02_Decode.j0] at h, fun _ _ _ _ r h => by simp [cleatref02_Decode.l0] at h, fun _ _ _ _ _ r h => by simp [cleatref02_Decode.j2] at h, fun _ _ _ _ _ _ r h => by simp [cleatref02_Decode.j3] at h⟩
 | k + 1 => by
  obtain ⟨ih0, ih1, ih2, ih3⟩ := cleatref02_Decode.mono_l k
  refine ⟨?_, ?_, ?_, ?_⟩
  ·
   intro y0 y1 y2 y3
   unfold cleatref02_Decode.j0
   repeat' first
   | (with_reducible exact ih0 _ _ _ _)
   | (with_reducible exact ih1 _ _ _ _)
   | (with_reducible exact ih2 _ _ _ _ _)
   | (with_reducible exact ih3 _ _ _ _ _ _)
   | (with_reducible exact cleatref02_again.mono _ _ _)
   | (with_reducible exact cleatref02_row.mono _ _ _ _)
   | (with_reducible exact LeO.refl _)
   | (with_reducible exact LeO.none _)
   | (with_reducible refine LeO.ite ?_ ?_)
   | (with_reducible refine LeO.bind ?_ (fun _ => ?_))
   | exact ih0 _ _ _ _
   | exact ih1 _ _ _ _
   | exact ih2 _ _ _ _ _
   | exact ih3 _ _ _ _ _ _
   | exact cleatref02_again.mono _ _ _
   | exact cleatref02_row.mono _ _ _ _
   | exact LeO.none _
   | refine LeO.ite ?_ ?_
   | refine LeO.bind ?_ (fun _ => ?_)
  ·
   intro y0 y1 y2 y3
   unfold cleatref02_Decode.l0
   repeat' first
   | (with_reducible exact ih0 _ _ _ _)
   | (with_reducible exact ih1 _ _ _ _)
   | (with_reducible exact ih2 _ _ _ _ _)
   | (with_reducible exact ih3 _ _ _ _ _ _)
   | (with_reducible exact cleatref02_again.mono _ _ _)
   | (with_reducible exact cleatref02_row.mono _ _ _ _)
   | (with_reducible exact LeO.refl _)
   | (with_reducible exact LeO.none _)
   | (with_reducible refine LeO.ite ?_ ?_)
   | (with_reducible refine LeO.bind ?_ (fun _ => ?_))
   | exact ih0 _ _ _ _
   | exact ih1 _ _ _ _
   | exact ih2 _ _ _ _ _
   | exact ih3 _ _ _ _ _ _
   | exact cleatref02_again.mono _ _ _
   | exact cleatref02_row.mono _ _ _ _
   | exact LeO.none _
   | refine LeO.ite ?_ ?_
   | refine LeO.bind ?_ (fun _ => ?_)
  ·
   intro y0 y1 y2 y3 y4
   unfold cleatref02_Decode.j2
   repeat' first
   | (with_reducible exact ih0 _ _ _ _)
   | (with_reducible exact ih1 _ _ _ _)
   | (with_reducible exact ih2 _ _ _ _ _)
   | (with_reducible exact ih3 _ _ _ _ _ _)
   | (with_reducible exact cleatref02_again.mono _ _ _)
   | (with_reducible exact cleatref02_row.mono _ _ _ _)
   | (with_reducible exact LeO.refl _)
   | (with_reducible exact LeO.none _)
   | (with_reducible refine LeO.ite ?_ ?_)
   | (with_reducible refine LeO.bind ?_ (fun _ => ?_))
   | exact ih0 _ _ _ _
   | exact ih1 _ _ _ _
   | exact ih2 _ _ _ _ _
   | exact ih3 _ _ _ _ _ _
   | exact cleatref02_again.mono _ _ _
   | exact cleatref02_row.mono _ _ _ _
   | exact LeO.none _
   | refine LeO.ite ?_ ?_
   | refine LeO.bind ?_ (fun _ => ?_)
  ·
   intro y0 y1 y2 y3 y4 y5
   unfold cleatref02_Decode.j3
   repeat' first
   | (with_reducible exact ih0 _ _ _ _)
   | (with_reducible exact ih1 _ _ _ _)
   | (with_reducible exact ih2 _ _ _ _ _)
   | (with_reducible exact ih3 _ _ _ _ _ _)
   | (with_reducible exact cleatref02_again.mono _ _ _)
   | (with_reducible exact cleatref02_row.mono _ _ _ _)
   | (with_reducible exact LeO.refl _)
   | (with_reducible exact LeO.none _)
   | (with_reducible refine LeO.ite ?_ ?_)
   | (with_reducible refine LeO.bind ?_ (fun _ => ?_))
   | exact ih0 _ _ _ _
   | exact ih1 _ _ _ _
   | exact ih2 _ _ _ _ _
   | exact ih3 _ _ _ _ _ _
   | exact cleatref02_again.mono _ _ _
   | exact cleatref02_row.mono _ _ _ _
   | exact LeO.none _
   | refine LeO.ite ?_ ?_
   | refine LeO.bind ?_ (fun _ => ?_)
theorem cleatref02_Decode.mono : ∀ a0 a1 a2 k, LeO (cleatref02_Decode.f k a0 a1 a2) (cleatref02_Decode.f (k + 1) a0 a1 a2) := by
 intro a0 a1 a2 k
 obtain ⟨ih0, ih1, ih2, ih3⟩ := cleatref02_Decode.mono_l k
 unfold cleatref02_Decode.f
 repeat' first
   | (with_reducible exact ih0 _ _ _ _)
   | (with_reducible exact ih1 _ _ _ _)
   | (with_reducible exact ih2 _ _ _ _ _)
   | (with_reducible exact ih3 _ _ _ _ _ _)
   | (with_reducible exact cleatref02_again.mono _ _ _)
   | (with_reducible exact cleatref02_row.mono _ _ _ _)
   | (with_reducible exact LeO.refl _)
   | (with_reducible exact LeO.none _)
   | (with_reducible refine LeO.ite ?_ ?_)
   | (with_reducible refine LeO.bind ?_ (fun _ => ?_))
   | exact ih0 _ _ _ _
   | exact ih1 _ _ _ _
   | exact ih2 _ _ _ _ _
   | exact ih3 _ _ _ _ _ _
   | exact cleatref02_again.mono _ _ _
   | exact cleatref02_row.mono _ _ _ _
   | exact LeO.none _
   | refine LeO.ite ?_ ?_
   | refine LeO.bind ?_ (fun _ => ?_)
set_option maxHeartbeats 8000000 in
set_option maxRecDepth 100000 in
theorem cleatref02_Decode.calls (k : Nat) (a0 : Int) (a1 : Int) (a2 : Int) (r1 : Int) (r2 : Int) (w : World) (h : cleatref02_Decode.f k a0 a1 a2 = some (r1, r2)) :
    Calls Tryd.prog 15 #[.int .i64 a0, .int .i64 a1, .int .i64 a2] w fun e w' => e = .returned (.tuple #[.int .u64 r1, .int .i64 r2]) ∧ Drawn0 w w' := by
 have H : (if a0 < 0 then (cleatref02_Decode.j0 k a0 a1 a2 true) else (if a0 > 1 then (cleatref02_Decode.j0 k a0 a1 a2 true) else (if a1 < 0 then (cleatref02_Decode.j0 k a0 a1 a2 true) else (if a1 > 63 then (cleatref02_Decode.j0 k a0 a1 a2 true) else (if a2 < 0 then (cleatref02_Decode.j0 k a0 a1 a2 true) else (cleatref02_Decode.j0 k a0 a1 a2 (decide (a2 > 63)))))))) = some (r1, r2) := h
 clear h
 have HC4 := Aside0.mk H
 clear H
 go_enter Tryd.func15, Tryd.ntmps15
 go_upto_region 1 with (fail)
 go_cut [31] (fun v31 wc => ∃ (kq : Nat) (x31_3 : Bool), v31 = .bool x31_3 ∧ Aside0 (cleatref02_Decode.j0 kq a0 a1 a2 x31_3 = some (r1, r2)) ∧ Aside0 (kq ≤ k) ∧ Drawn0 w wc)
 case first =>
  have H := HC4.out
  clear HC4
  (try (rw [drewN_self w]; have n0_ := fun n_ => pw_below_drewN HB.out n_; clear HB; generalize hq_ : World.drewN w _ = w; have HB := Aside0.mk (hq_ ▸ n0_ _); clear hq_ n0_))
  by_cases c5 : a0 < 0
  ·
   rw [if_pos c5] at H
   have c5b0 : decide (a0 < 0) = true := decide_eq_true c5
   clear c5
   (first | rw [c5b0] | (simp only [i64_w, i32_w]; rw [c5b0]) | skip)
   have H' := Aside0.mk H
   clear H
   go_wp2
   go_meet
   case rel => exact ⟨_, (true), (by first | rfl | (simp; done) | (simp [*]; done)), H', ⟨by first | omega | exact Nat.le_refl _⟩, by repeat (first | exact Drawn0.refl _ | apply Drawn0.step)⟩
  ·
   rw [if_neg c5] at H
   have c5b0 : decide (a0 < 0) = false := decide_eq_false c5
   clear c5
   (first | rw [c5b0] | (simp only [i64_w, i32_w]; rw [c5b0]) | skip)
   by_cases c6 : a0 > 1
   ·
    rw [if_pos c6] at H
    have c6b0 : decide (1 < a0) = true := decide_eq_true c6
    clear c6
    have H' := Aside0.mk H
    clear H
    go_wp2
    go_meet
    case rel => exact ⟨_, (true), (by first | rfl | (simp; done) | (simp [*]; done)), H', ⟨by first | omega | exact Nat.le_refl _⟩, by repeat (first | exact Drawn0.refl _ | apply Drawn0.step)⟩
   ·
    rw [if_neg c6] at H
    have c6b0 : decide (1 < a0) = false := decide_eq_false c6
    clear c6
    by_cases c7 : a1 < 0
    ·
     rw [if_pos c7] at H
     have c7b0 : decide (a1 < 0) = true := decide_eq_true c7
     clear c7
     have H' := Aside0.mk H
     clear H
     go_wp2
     go_meet
     case rel => exact ⟨_, (true), (by first | rfl | (simp; done) | (simp [*]; done)), H', ⟨by first | omega | exact Nat.le_refl _⟩, by repeat (first | exact Drawn0.refl _ | apply Drawn0.step)⟩
    ·
     rw [if_neg c7] at H
     have c7b0 : decide (a1 < 0) = false := decide_eq_false c7
     clear c7
     by_cases c8 : a1 > 63
     ·
      rw [if_pos c8] at H
      have c8b0 : decide (63 < a1) = true := decide_eq_true c8
      clear c8
      have H' := Aside0.mk H
      clear H
      go_wp2
      go_meet
      case rel => exact ⟨_, (true), (by first | rfl | (simp; done) | (simp [*]; done)), H', ⟨by first | omega | exact Nat.le_refl _⟩, by repeat (first | exact Drawn0.refl _ | apply Drawn0.step)⟩
     ·
      rw [if_neg c8] at H
      have c8b0 : decide (63 < a1) = false := decide_eq_false c8
      clear c8
      by_cases c9 : a2 < 0
      ·
       rw [if_pos c9] at H
       have c9b0 : decide (a2 < 0) = true := decide_eq_true c9
       clear c9
       have H' := Aside0.mk H
       clear H
       go_wp2
       go_meet
       case rel => exact ⟨_, (true), (by first | rfl | (simp; done) | (simp [*]; done)), H', ⟨by first | omega | exact Nat.le_refl _⟩, by repeat (first | exact Drawn0.refl _ | apply Drawn0.step)⟩
      ·
       rw [if_neg c9] at H
       have c9b0 : decide (a2 < 0) = false := decide_eq_false c9
       clear c9
       have H' := Aside0.mk H
       clear H
       go_wp2
       go_meet
       case rel => exact ⟨_, (decide (a2 > 63)), (by first | rfl | (simp; done) | (simp [*]; done)), H', ⟨by first | omega | exact Nat.le_refl _⟩, by repeat (first | exact Drawn0.refl _ | apply Drawn0.step)⟩
 case rest =>
  clear HC4
  try clear c1
  try clear p2
  try clear c5
  try clear c5b0
  try clear c6
  try clear c6b0
  try clear c7
  try clear c7b0
  try clear c8
  try clear c8b0
  try clear c9
  try clear c9b0
  obtain ⟨kq, x31_3, rfl, HA, HJ3, ⟨mc3, rfl⟩⟩ := hcut
  cases kq with
  | zero => exact absurd HA.out (by simp [cleatref02_Decode.j0])
  | succ kj3 =>
   have H := HA.out
   clear HA
   simp only [cleatref02_Decode.j0] at H
   by_cases c10 : x31_3 = true
   ·
    subst c10
    have H1 : (some (0, 1)) = some (r1, r2) := by rw [if_pos rfl] at H; exact H
    clear H
    have H := H1
    clear H1
    simp only [Option.some.injEq, Prod.mk.injEq] at H
    obtain ⟨rfl, rfl⟩ := H
    go_wp2
    go_ret2
    exact ⟨by first | rfl | (simp; done) | (simp [*]; done), by repeat (first | exact Drawn0.refl _ | apply Drawn0.step)⟩
   ·
    replace c10 := Bool.eq_false_iff.mpr c10
    subst c10
    have H1 : (cleatref02_Decode.l0 kj3 a0 a1 a2 2) = some (r1, r2) := by rw [if_neg (show ¬ (false = true) by decide)] at H; exact H
    clear H
    have H := H1
    clear H1
    have H' := Aside0.mk H
    clear H
    go_wp2
    go_loopg [8] kj3 (fun kq v8 w' => ∃ (x8_2 : Int), v8 = .int .i64 x8_2 ∧ Aside0 (cleatref02_Decode.l0 kq a0 a1 a2 x8_2 = some (r1, r2)) ∧ Aside0 (kq ≤ kj3) ∧ Drawn0 w w')
    case atStart => exact ⟨(2), (by first | rfl | (simp; done) | (simp [*]; done)), H', ⟨Nat.le_refl _⟩, by repeat (first | exact Drawn0.refl _ | apply Drawn0.step)⟩
    case round =>
     clear H'
     try clear c1
     try clear p2
     try clear c3
     try clear c5
     try clear c5b0
     try clear c6
     try clear c6b0
     try clear c7
     try clear c7b0
     try clear c8
     try clear c8b0
     try clear c9
     try clear c9b0
     try clear c10
     try clear p2
     obtain ⟨x8_2, rfl, HA, HK2, ⟨m2, rfl⟩⟩ := hrel
     cases gk with
     | zero => exact absurd HA.out (by simp [cleatref02_Decode.l0])
     | succ k2 =>
      have H := HA.out
      clear HA
      simp only [cleatref02_Decode.l0] at H
      by_cases c11 : x8_2 ≤ 64
      ·
       rw [if_pos c11] at H
       have c11b0 : decide (x8_2 ≤ 64) = true := decide_eq_true c11
       clear c11
       have HC12 := Aside0.mk H
       clear H
       go_upto_if 39 with (fail)
       go_cut [9] (fun v9 wc => ∃ (kq : Nat) (x9_11 : Int), v9 = .int .i64 x9_11 ∧ Aside0 (cleatref02_Decode.j2 kq a0 a1 a2 x8_2 x9_11 = some (r1, r2)) ∧ Aside0 (kq ≤ k2) ∧ Drawn0 w wc)
       case first =>
        have H := HC12.out
        clear HC12
        (try (rw [drewN_self wc]; have n0_ := fun n_ => pw_below_drewN HB.out n_; clear HB; generalize hq_ : World.drewN wc _ = wc; have HB := Aside0.mk (hq_ ▸ n0_ _); clear hq_ n0_))
        by_cases c13 : x8_2 < 64
        ·
         rw [if_pos c13] at H
         have c13b0 : decide (x8_2 < 64) = true := decide_eq_true c13
         clear c13
         (first | rw [c13b0] | (simp only [i64_w, i32_w]; rw [c13b0]) | skip)
         have H' := Aside0.mk H
         clear H
         go_wp2
         go_meet
         case rel => exact ⟨_, (wrap64 ((wrap64 (a2 - (wrap64 (64 - (wrap64 (2 * x8_2)))))) + 1)), (by first | rfl | (simp; done) | (simp [*]; done)), H', ⟨by have := HJ3.out; have := HK2.out; first | omega | exact Nat.le_refl _⟩, by repeat (first | exact Drawn0.refl _ | apply Drawn0.step)⟩
        ·
         rw [if_neg c13] at H
         have c13b0 : decide (x8_2 < 64) = false := decide_eq_false c13
         clear c13
         (first | rw [c13b0] | (simp only [i64_w, i32_w]; rw [c13b0]) | skip)
         have H' := Aside0.mk H
         clear H
         go_wp2
         go_meet
         case rel => exact ⟨_, (wrap64 (a2 + 1)), (by first | rfl | (simp; done) | (simp [*]; done)), H', ⟨by have := HJ3.out; have := HK2.out; first | omega | exact Nat.le_refl _⟩, by repeat (first | exact Drawn0.refl _ | apply Drawn0.step)⟩
       case rest =>
        clear HC12
        try clear c1
        try clear p2
        try clear c3
        try clear c5
        try clear c5b0
        try clear c6
        try clear c6b0
        try clear p6
        try clear c7
        try clear c7b0
        try clear c8
        try clear c8b0
        try clear c9
        try clear c9b0
        try clear c10
        try clear c11
        try clear c11b0
        try clear c13
        try clear c13b0
        try clear p2
        obtain ⟨kq, x9_11, rfl, HA, HJ11, ⟨mc11, rfl⟩⟩ := hcut
        cases kq with
        | zero => exact absurd HA.out (by simp [cleatref02_Decode.j2])
        | succ kj11 =>
         have H := HA.out
         clear HA
         simp only [cleatref02_Decode.j2] at H
         have HC14 := Aside0.mk H
         clear H
         go_upto_region 9 with (fail)
         go_cut [64] (fun v64 wc => ∃ (kq : Nat) (x64_13 : Bool), v64 = .bool x64_13 ∧ Aside0 (cleatref02_Decode.j3 kq a0 a1 a2 x8_2 x9_11 x64_13 = some (r1, r2)) ∧ Aside0 (kq ≤ kj11) ∧ Drawn0 w wc)
         case first =>
          have H := HC14.out
          clear HC14
          (try (rw [drewN_self wc]; have n0_ := fun n_ => pw_below_drewN HB.out n_; clear HB; generalize hq_ : World.drewN wc _ = wc; have HB := Aside0.mk (hq_ ▸ n0_ _); clear hq_ n0_))
          by_cases c15 : ((a0 == 1) == (x8_2 == 64)) = true
          ·
           rw [if_pos c15] at H
           have c15b0 : ((a0 == 1) == (x8_2 == 64)) = true := c15
           (try (have c15b1 : decide ((a0 == 1) = (x8_2 == 64)) = true := by simpa using c15))
           (try (have c15b2 : ((a0 == 1) == (x8_2 == 64)) = true := by simpa using c15))
           clear c15
           (first | rw [c15b0] | (simp only [i64_w, i32_w]; rw [c15b0]) | skip)
           by_cases c16 : x9_11 ≥ 1
           ·
            rw [if_pos c16] at H
            have c16b0 : decide (1 ≤ x9_11) = true := decide_eq_true c16
            clear c16
            by_cases c17 : x9_11 < x8_2
            ·
             rw [if_pos c17] at H
             have c17b0 : decide (x9_11 < x8_2) = true := decide_eq_true c17
             clear c17
             have H' := Aside0.mk H
             clear H
             go_wp2
             go_meet
             case rel => exact ⟨_, (decide (a1 < x8_2)), (by first | rfl | (simp; done) | (simp [*]; done)), H', ⟨by have := HJ3.out; have := HK2.out; have := HJ11.out; first | omega | exact Nat.le_refl _⟩, by repeat (first | exact Drawn0.refl _ | apply Drawn0.step)⟩
            ·
             rw [if_neg c17] at H
             have c17b0 : decide (x9_11 < x8_2) = false := decide_eq_false c17
             clear c17
             have H' := Aside0.mk H
             clear H
             go_wp2
             go_meet
             case rel => exact ⟨_, (false), (by first | rfl | (simp; done) | (simp [*]; done)), H', ⟨by have := HJ3.out; have := HK2.out; have := HJ11.out; first | omega | exact Nat.le_refl _⟩, by repeat (first | exact Drawn0.refl _ | apply Drawn0.step)⟩
           ·
            rw [if_neg c16] at H
            have c16b0 : decide (1 ≤ x9_11) = false := decide_eq_false c16
            clear c16
            have H' := Aside0.mk H
            clear H
            go_wp2
            go_meet
            case rel => exact ⟨_, (false), (by first | rfl | (simp; done) | (simp [*]; done)), H', ⟨by have := HJ3.out; have := HK2.out; have := HJ11.out; first | omega | exact Nat.le_refl _⟩, by repeat (first | exact Drawn0.refl _ | apply Drawn0.step)⟩
          ·
           rw [if_neg c15] at H
           have c15b0 : ((a0 == 1) == (x8_2 == 64)) = false := by simpa using c15
           (try (have c15b1 : decide ((a0 == 1) = (x8_2 == 64)) = false := by simpa using c15))
           (try (have c15b2 : ((a0 == 1) == (x8_2 == 64)) = false := by simpa using c15))
           (try (have c15b3 : ¬ ((a0 == 1) = (x8_2 == 64)) := by simpa using c15))
           clear c15
           (first | rw [c15b0] | (simp only [i64_w, i32_w]; rw [c15b0]) | skip)
           have H' := Aside0.mk H
           clear H
           go_wp2
           go_meet
           case rel => exact ⟨_, (false), (by first | rfl | (simp; done) | (simp [*]; done)), H', ⟨by have := HJ3.out; have := HK2.out; have := HJ11.out; first | omega | exact Nat.le_refl _⟩, by repeat (first | exact Drawn0.refl _ | apply Drawn0.step)⟩
         case rest =>
          clear HC14
          try clear c1
          try clear p2
          try clear c3
          try clear c5
          try clear c5b0
          try clear c6
          try clear c6b0
          try clear p6
          try clear c7
          try clear c7b0
          try clear c8
          try clear c8b0
          try clear c9
          try clear c9b0
          try clear c10
          try clear c11
          try clear c11b0
          try clear c13
          try clear c13b0
          try clear c15
          try clear c15b0
          try clear c15b1
          try clear c15b2
          try clear c16
          try clear c16b0
          try clear c17
          try clear c17b0
          try clear p2
          try clear p6
          obtain ⟨kq, x64_13, rfl, HA, HJ13, ⟨mc13, rfl⟩⟩ := hcut
          cases kq with
          | zero => exact absurd HA.out (by simp [cleatref02_Decode.j3])
          | succ kj13 =>
           have H := HA.out
           clear HA
           simp only [cleatref02_Decode.j3] at H
           by_cases c18 : x64_13 = true
           ·
            subst c18
            have H1 : ((cleatref02_row.f kj13 x9_11 a1 x8_2).bind fun t400 => ((cleatref02_again.f kj13 t400 x8_2).bind fun t401 => (some (t401, 0)))) = some (r1, r2) := by rw [if_pos rfl] at H; exact H
            clear H
            have H := H1
            clear H1
            replace H := Option.bind_eq_some_iff.mp H
            obtain ⟨t400, A190, H⟩ := H
            replace H : ((cleatref02_again.f kj13 t400 x8_2).bind fun t401 => (some (t401, 0))) = some (r1, r2) := H
            have A19 := Aside0.mk A190
            clear A190
            replace H := Option.bind_eq_some_iff.mp H
            obtain ⟨t401, A200, H⟩ := H
            replace H : (some (t401, 0)) = some (r1, r2) := H
            have A20 := Aside0.mk A200
            clear A200
            simp only [Option.some.injEq, Prod.mk.injEq] at H
            obtain ⟨rfl, rfl⟩ := H
            go_wp2_with (first | ((with_reducible refine gate_callee (f := 48) rfl ?_); refine goesL_ (some 68) rfl rfl Tryd.func48 (by kernel_rfl) rfl #[.int .i64 x9_11, .int .i64 a1, .int .i64 x8_2] rfl (by (try simp only [List.map_toArray, List.map_cons, List.map_nil]); first | done | rfl | (simp only [List.length_drop, List.length_take]; rfl)) ?_; (with_reducible refine (cleatref02_row.calls kj13 x9_11 a1 x8_2 t400 _ A19.out).mono ?_); rintro e w' ⟨rfl, ⟨nd, rfl⟩⟩; refine ⟨_, rfl, ?_⟩) | ((with_reducible refine gate_callee (f := 47) rfl ?_); refine goesL_ (some 70) rfl rfl Tryd.func47 (by kernel_rfl) rfl #[.int .u64 t400, .int .i64 x8_2] rfl (by (try simp only [List.map_toArray, List.map_cons, List.map_nil]); first | done | rfl | (simp only [List.length_drop, List.length_take]; rfl)) ?_; (with_reducible refine (cleatref02_again.calls kj13 t400 x8_2 t401 _ A20.out).mono ?_); rintro e w' ⟨rfl, ⟨nd, rfl⟩⟩; refine ⟨_, rfl, ?_⟩))
            go_ret2
            exact ⟨by first | rfl | (simp; done) | (simp [*]; done), by repeat (first | exact Drawn0.refl _ | apply Drawn0.step)⟩
           ·
            replace c18 := Bool.eq_false_iff.mpr c18
            subst c18
            have H1 : (cleatref02_Decode.l0 kj13 a0 a1 a2 (wrap64 (2 * x8_2))) = some (r1, r2) := by rw [if_neg (show ¬ (false = true) by decide)] at H; exact H
            clear H
            have H := H1
            clear H1
            have H' := Aside0.mk H
            clear H
            go_wp2
            go_roundg kj13
            case measure => have := HJ3.out; have := HK2.out; have := HJ11.out; have := HJ13.out; omega
            case rel => exact ⟨(wrap64 (2 * x8_2)), (by first | rfl | (simp; done) | (simp [*]; done)), H', ⟨by have := HJ3.out; have := HK2.out; have := HJ11.out; have := HJ13.out; omega⟩, by repeat (first | exact Drawn0.refl _ | apply Drawn0.step)⟩
      ·
       rw [if_neg c11] at H
       have c11b0 : decide (x8_2 ≤ 64) = false := decide_eq_false c11
       clear c11
       simp only [Option.some.injEq, Prod.mk.injEq] at H
       obtain ⟨rfl, rfl⟩ := H
       go_wp2
       go_ret2
       exact ⟨by first | rfl | (simp; done) | (simp [*]; done), by repeat (first | exact Drawn0.refl _ | apply Drawn0.step)⟩

/-! ### mask_Encode: function 16 -/
def mask_Encode.f (k : Nat) (a0 : Int) : Option (Int × Int × Int × Int) := (mask_Is.f k a0).bind fun t402 => (if t402 = true then ((mask_tell.f k a0).bind fun bt403 => (some (bt403.1, bt403.2.1, bt403.2.2, 0))) else (some (0, 0, 0, 3)))
theorem mask_Encode.mono : ∀ a0 k, LeO (mask_Encode.f k a0) (mask_Encode.f (k + 1) a0) := by
 intro a0 k
 unfold mask_Encode.f
 repeat' first
   | (with_reducible exact mask_Is.mono _ _)
   | (with_reducible exact mask_tell.mono _ _)
   | (with_reducible exact LeO.refl _)
   | (with_reducible exact LeO.none _)
   | (with_reducible refine LeO.ite ?_ ?_)
   | (with_reducible refine LeO.bind ?_ (fun _ => ?_))
   | exact mask_Is.mono _ _
   | exact mask_tell.mono _ _
   | exact LeO.none _
   | refine LeO.ite ?_ ?_
   | refine LeO.bind ?_ (fun _ => ?_)
set_option maxHeartbeats 8000000 in
set_option maxRecDepth 100000 in
theorem mask_Encode.calls (k : Nat) (a0 : Int) (r1 : Int) (r2 : Int) (r3 : Int) (r4 : Int) (w : World) (h : mask_Encode.f k a0 = some (r1, r2, r3, r4)) (hTab : TabW w := by first | exact hTab | exact TabW.drew hTab | exact TabW.drewN hTab _ | exact TabW.below hTab (by repeat (first | (with_reducible first | exact HB.out | apply below_alloc | apply pw_below_drewN | apply below_drew1) | refine Below.setCell ?_ (Aside0.out (by assumption)) _ | exact HB.out | exact Below.refl _ _))) :
    Calls Tryd.prog 16 #[.int .u64 a0] w fun e w' => e = .returned (.tuple #[.int .i64 r1, .int .i64 r2, .int .i64 r3, .int .i64 r4]) ∧ Below w.heap.size w w' := by
 have hu55 := Tryd.underlying55
 have HB := Aside0.mk (Below.refl w.heap.size w)
 have H : ((mask_Is.f k a0).bind fun t402 => (if t402 = true then ((mask_tell.f k a0).bind fun bt403 => (some (bt403.1, bt403.2.1, bt403.2.2, 0))) else (some (0, 0, 0, 3)))) = some (r1, r2, r3, r4) := h
 clear h
 replace H := Option.bind_eq_some_iff.mp H
 obtain ⟨t402, A20, H⟩ := H
 replace H : (if t402 = true then ((mask_tell.f k a0).bind fun bt403 => (some (bt403.1, bt403.2.1, bt403.2.2, 0))) else (some (0, 0, 0, 3))) = some (r1, r2, r3, r4) := H
 have A2 := Aside0.mk A20
 clear A20
 by_cases c3 : t402 = true
 ·
  subst c3
  have H1 : ((mask_tell.f k a0).bind fun bt403 => (some (bt403.1, bt403.2.1, bt403.2.2, 0))) = some (r1, r2, r3, r4) := by rw [if_pos rfl] at H; exact H
  clear H
  have H := H1
  clear H1
  replace H := Option.bind_eq_some_iff.mp H
  obtain ⟨⟨t403, t404, t405⟩, A40, H⟩ := H
  replace H : (some (t403, t404, t405, 0)) = some (r1, r2, r3, r4) := H
  have A4 := Aside0.mk A40
  clear A40
  simp only [Option.some.injEq, Prod.mk.injEq] at H
  obtain ⟨rfl, rfl, rfl, rfl⟩ := H
  go_enter Tryd.func16, Tryd.ntmps16
  go_wp2_with (first | (go_at_call 19; (with_reducible refine (mask_Is.calls k a0 true _ A2.out).mono ?_); rintro e w5 ⟨rfl, hb⟩; have n0_ := Aside0.mk (below_step (by repeat (first | (with_reducible first | exact HB.out | apply below_alloc | apply pw_below_drewN | apply below_drew1) | exact HB.out)) hb); clear HB; have HB := n0_; clear n0_; (try clear hb); (try clear hb2); (try clear hk); (try clear hi)) | (go_at_call 49; (with_reducible refine (mask_tell.calls k a0 t403 t404 t405 _ A4.out).mono ?_); rintro e w6 ⟨rfl, hb⟩; have n0_ := Aside0.mk (below_step (by repeat (first | (with_reducible first | exact HB.out | apply below_alloc | apply pw_below_drewN | apply below_drew1) | exact HB.out)) hb); clear HB; have HB := n0_; clear n0_; (try clear hb); (try clear hb2); (try clear hk); (try clear hi)) | ((with_reducible refine gate_dst (N := 6) rfl ?_); refine box_event ?hg (N := 6) ?hd (cs := #[.int .i64 0, .int .i64 0, .int .i64 0]) (t := 55) ?hr ?_; (case hd => rfl); (case hg => rfl); (case hr => first | (go_simp; done) | (go_simp; rfl)); intro gb406 hg w7 hbox hb; have n0_ := Aside0.mk (below_step (by repeat (first | (with_reducible first | exact HB.out | apply below_alloc | apply pw_below_drewN | apply below_drew1) | exact HB.out)) hb); have n1_ := Aside0.mk (hbox); have n2_ := Aside0.mk ((by rw [hg]; exact (below_size (by repeat (first | (with_reducible first | exact HB.out | apply below_alloc | apply pw_below_drewN | apply below_drew1) | exact HB.out))) : w.heap.size ≤ gb406)); have n3_ := Aside0.mk ((by rw [hg]; exact (below_size (by repeat (first | (with_reducible first | exact HB.out | apply below_alloc | apply pw_below_drewN | apply below_drew1) | exact HB.out))) : w.heap.size ≤ gb406)); clear HB; have HB := n0_; have BK406 := n1_; have GW406 := n2_; have GE406 := n3_; clear n0_ n1_ n2_ n3_; clear hb hbox hg; obtain ⟨hcz8_0, hcz8_1, hcz8_2⟩ := cells3_ BK406.out; have hfz8_0 := fun j => blk_frozen BK406.out j))
  repeat (go_quiet (first | (go_at_call 19; (with_reducible refine (mask_Is.calls k a0 true _ A2.out).mono ?_); rintro e w5 ⟨rfl, hb⟩; have n0_ := Aside0.mk (below_step (by repeat (first | (with_reducible first | exact HB.out | apply below_alloc | apply pw_below_drewN | apply below_drew1) | exact HB.out)) hb); clear HB; have HB := n0_; clear n0_; (try clear hb); (try clear hb2); (try clear hk); (try clear hi)) | (go_at_call 49; (with_reducible refine (mask_tell.calls k a0 t403 t404 t405 _ A4.out).mono ?_); rintro e w6 ⟨rfl, hb⟩; have n0_ := Aside0.mk (below_step (by repeat (first | (with_reducible first | exact HB.out | apply below_alloc | apply pw_below_drewN | apply below_drew1) | exact HB.out)) hb); clear HB; have HB := n0_; clear n0_; (try clear hb); (try clear hb2); (try clear hk); (try clear hi)) | ((with_reducible refine gate_dst (N := 6) rfl ?_); refine box_event ?hg (N := 6) ?hd (cs := #[.int .i64 0, .int .i64 0, .int .i64 0]) (t := 55) ?hr ?_; (case hd => rfl); (case hg => rfl); (case hr => first | (go_simp; done) | (go_simp; rfl)); intro gb406 hg w7 hbox hb; have n0_ := Aside0.mk (below_step (by repeat (first | (with_reducible first | exact HB.out | apply below_alloc | apply pw_below_drewN | apply below_drew1) | exact HB.out)) hb); have n1_ := Aside0.mk (hbox); have n2_ := Aside0.mk ((by rw [hg]; exact (below_size (by repeat (first | (with_reducible first | exact HB.out | apply below_alloc | apply pw_below_drewN | apply below_drew1) | exact HB.out))) : w.heap.size ≤ gb406)); have n3_ := Aside0.mk ((by rw [hg]; exact (below_size (by repeat (first | (with_reducible first | exact HB.out | apply below_alloc | apply pw_below_drewN | apply below_drew1) | exact HB.out))) : w.heap.size ≤ gb406)); clear HB; have HB := n0_; have BK406 := n1_; have GW406 := n2_; have GE406 := n3_; clear n0_ n1_ n2_ n3_; clear hb hbox hg; obtain ⟨hcz8_0, hcz8_1, hcz8_2⟩ := cells3_ BK406.out; have hfz8_0 := fun j => blk_frozen BK406.out j)); try go_wp2_with (first | (go_at_call 19; (with_reducible refine (mask_Is.calls k a0 true _ A2.out).mono ?_); rintro e w5 ⟨rfl, hb⟩; have n0_ := Aside0.mk (below_step (by repeat (first | (with_reducible first | exact HB.out | apply below_alloc | apply pw_below_drewN | apply below_drew1) | exact HB.out)) hb); clear HB; have HB := n0_; clear n0_; (try clear hb); (try clear hb2); (try clear hk); (try clear hi)) | (go_at_call 49; (with_reducible refine (mask_tell.calls k a0 t403 t404 t405 _ A4.out).mono ?_); rintro e w6 ⟨rfl, hb⟩; have n0_ := Aside0.mk (below_step (by repeat (first | (with_reducible first | exact HB.out | apply below_alloc | apply pw_below_drewN | apply below_drew1) | exact HB.out)) hb); clear HB; have HB := n0_; clear n0_; (try clear hb); (try clear hb2); (try clear hk); (try clear hi)) | ((with_reducible refine gate_dst (N := 6) rfl ?_); refine box_event ?hg (N := 6) ?hd (cs := #[.int .i64 0, .int .i64 0, .int .i64 0]) (t := 55) ?hr ?_; (case hd => rfl); (case hg => rfl); (case hr => first | (go_simp; done) | (go_simp; rfl)); intro gb406 hg w7 hbox hb; have n0_ := Aside0.mk (below_step (by repeat (first | (with_reducible first | exact HB.out | apply below_alloc | apply pw_below_drewN | apply below_drew1) | exact HB.out)) hb); have n1_ := Aside0.mk (hbox); have n2_ := Aside0.mk ((by rw [hg]; exact (below_size (by repeat (first | (with_reducible first | exact HB.out | apply below_alloc | apply pw_below_drewN | apply below_drew1) | exact HB.out))) : w.heap.size ≤ gb406)); have n3_ := Aside0.mk ((by rw [hg]; exact (below_size (by repeat (first | (with_reducible first | exact HB.out | apply below_alloc | apply pw_below_drewN | apply below_drew1) | exact HB.out))) : w.heap.size ≤ gb406)); clear HB; have HB := n0_; have BK406 := n1_; have GW406 := n2_; have GE406 := n3_; clear n0_ n1_ n2_ n3_; clear hb hbox hg; obtain ⟨hcz8_0, hcz8_1, hcz8_2⟩ := cells3_ BK406.out; have hfz8_0 := fun j => blk_frozen BK406.out j)))
  refine bodyPost_ret (results_list (rs := [.tmp 2, .tmp 3, .tmp 4, .tmp 5]) rfl (by simp) (.tmp (.tmp (.tmp (.tmp .nil))))) rfl ?_
  exact ⟨by first | rfl | (simp [errW_none, errW_some] <;> rfl) | (simp [*, errW_none, errW_some] <;> rfl), by repeat (first | (with_reducible first | exact HB.out | apply below_alloc | apply pw_below_drewN | apply below_drew1 | refine below_set ?_ GE406.out) | exact HB.out)⟩
 ·
  replace c3 := Bool.eq_false_iff.mpr c3
  subst c3
  have H1 : (some (0, 0, 0, 3)) = some (r1, r2, r3, r4) := by rw [if_neg (show ¬ (false = true) by decide)] at H; exact H
  clear H
  have H := H1
  clear H1
  simp only [Option.some.injEq, Prod.mk.injEq] at H
  obtain ⟨rfl, rfl, rfl, rfl⟩ := H
  go_enter Tryd.func16, Tryd.ntmps16
  go_wp2_with (first | (go_at_call 19; (with_reducible refine (mask_Is.calls k a0 false _ A2.out).mono ?_); rintro e w9 ⟨rfl, hb⟩; have n0_ := Aside0.mk (below_step (by repeat (first | (with_reducible first | exact HB.out | apply below_alloc | apply pw_below_drewN | apply below_drew1) | exact HB.out)) hb); clear HB; have HB := n0_; clear n0_; (try clear hb); (try clear hb2); (try clear hk); (try clear hi)))
  repeat (go_quiet (first | (go_at_call 19; (with_reducible refine (mask_Is.calls k a0 false _ A2.out).mono ?_); rintro e w9 ⟨rfl, hb⟩; have n0_ := Aside0.mk (below_step (by repeat (first | (with_reducible first | exact HB.out | apply below_alloc | apply pw_below_drewN | apply below_drew1) | exact HB.out)) hb); clear HB; have HB := n0_; clear n0_; (try clear hb); (try clear hb2); (try clear hk); (try clear hi))); try go_wp2_with (first | (go_at_call 19; (with_reducible refine (mask_Is.calls k a0 false _ A2.out).mono ?_); rintro e w9 ⟨rfl, hb⟩; have n0_ := Aside0.mk (below_step (by repeat (first | (with_reducible first | exact HB.out | apply below_alloc | apply pw_below_drewN | apply below_drew1) | exact HB.out)) hb); clear HB; have HB := n0_; clear n0_; (try clear hb); (try clear hb2); (try clear hk); (try clear hi))))
  refine bodyPost_ret (results_list (rs := [.tmp 2, .tmp 3, .tmp 4, .tmp 5]) rfl (by simp) (.tmp (.tmp (.tmp (.tmp .nil))))) rfl ?_
  exact ⟨by first | rfl | (simp [errW_none, errW_some] <;> rfl) | (simp [*, errW_none, errW_some] <;> rfl), by repeat (first | (with_reducible first | exact HB.out | apply below_alloc | apply pw_below_drewN | apply below_drew1) | exact HB.out)⟩

/-! ### cleatlaw02_masked: function 18 -/
def cleatlaw02_masked.f (k : Nat)  : Option (Bool) := (mask_Decode.f k 1 0 7).bind fun bt407 => ((mask_Decode.f k 0 0 60).bind fun bt409 => ((mask_Encode.f k 6).bind fun bt411 => ((mask_Decode.f k 0 0 63).bind fun bt415 => ((mask_Encode.f k 0).bind fun bt417 => (if bt407.2 = 0 then (if bt407.1 = 255 then (if bt409.2 = bt407.2 then (if bt409.1 = 6148914691236517205 then (if bt411.2.2.2 = bt407.2 then (if bt411.1 = 1 then (if bt411.2.1 = 63 then (if bt411.2.2.1 = 1 then (if bt415.2 = 3 then (if bt417.2.2.2 = bt415.2 then ((mask_Is.f k 6).bind fun t421 => (if t421 = true then ((mask_Size.f k bt409.1).bind fun t422 => (if t422 = 2 then ((mask_Ones.f bt409.1).bind fun t423 => (some (t423 == 32))) else (none))) else (none))) else (none)) else (none)) else (none)) else (none)) else (none)) else (none)) else (none)) else (none)) else (none)) else (none))))))
theorem cleatlaw02_masked.mono : ∀ k, LeO (cleatlaw02_masked.f k ) (cleatlaw02_masked.f (k + 1) ) := by
 intro  k
 unfold cleatlaw02_masked.f
 repeat' first
   | (with_reducible exact mask_Decode.mono _ _ _ _)
   | (with_reducible exact mask_Encode.mono _ _)
   | (with_reducible exact mask_Is.mono _ _)
   | (with_reducible exact mask_Size.mono _ _)
   | (with_reducible exact LeO.refl _)
   | (with_reducible exact LeO.none _)
   | (with_reducible refine LeO.ite ?_ ?_)
   | (with_reducible refine LeO.bind ?_ (fun _ => ?_))
   | exact mask_Decode.mono _ _ _ _
   | exact mask_Encode.mono _ _
   | exact mask_Is.mono _ _
   | exact mask_Size.mono _ _
   | exact LeO.none _
   | refine LeO.ite ?_ ?_
   | refine LeO.bind ?_ (fun _ => ?_)
set_option maxHeartbeats 8000000 in
set_option maxRecDepth 100000 in
theorem cleatlaw02_masked.calls (k : Nat)  (r : Bool) (w : World) (h : cleatlaw02_masked.f k  = some r) (hTab : TabW w := by first | exact hTab | exact TabW.drew hTab | exact TabW.drewN hTab _ | exact TabW.below hTab (by repeat (first | (with_reducible first | exact HB.out | apply below_alloc | apply pw_below_drewN | apply below_drew1) | refine Below.setCell ?_ (Aside0.out (by assumption)) _ | exact HB.out | exact Below.refl _ _))) :
    Calls Tryd.prog 18 #[] w fun e w' => e = .returned (.bool r) ∧ Below w.heap.size w w' := by
 have HB := Aside0.mk (Below.refl w.heap.size w)
 have H : ((mask_Decode.f k 1 0 7).bind fun bt407 => ((mask_Decode.f k 0 0 60).bind fun bt409 => ((mask_Encode.f k 6).bind fun bt411 => ((mask_Decode.f k 0 0 63).bind fun bt415 => ((mask_Encode.f k 0).bind fun bt417 => (if bt407.2 = 0 then (if bt407.1 = 255 then (if bt409.2 = bt407.2 then (if bt409.1 = 6148914691236517205 then (if bt411.2.2.2 = bt407.2 then (if bt411.1 = 1 then (if bt411.2.1 = 63 then (if bt411.2.2.1 = 1 then (if bt415.2 = 3 then (if bt417.2.2.2 = bt415.2 then ((mask_Is.f k 6).bind fun t421 => (if t421 = true then ((mask_Size.f k bt409.1).bind fun t422 => (if t422 = 2 then ((mask_Ones.f bt409.1).bind fun t423 => (some (t423 == 32))) else (none))) else (none))) else (none)) else (none)) else (none)) else (none)) else (none)) else (none)) else (none)) else (none)) else (none)) else (none))))))) = some r := h
 clear h
 replace H := Option.bind_eq_some_iff.mp H
 obtain ⟨⟨t407, t408⟩, A10, H⟩ := H
 replace H : ((mask_Decode.f k 0 0 60).bind fun bt409 => ((mask_Encode.f k 6).bind fun bt411 => ((mask_Decode.f k 0 0 63).bind fun bt415 => ((mask_Encode.f k 0).bind fun bt417 => (if t408 = 0 then (if t407 = 255 then (if bt409.2 = t408 then (if bt409.1 = 6148914691236517205 then (if bt411.2.2.2 = t408 then (if bt411.1 = 1 then (if bt411.2.1 = 63 then (if bt411.2.2.1 = 1 then (if bt415.2 = 3 then (if bt417.2.2.2 = bt415.2 then ((mask_Is.f k 6).bind fun t421 => (if t421 = true then ((mask_Size.f k bt409.1).bind fun t422 => (if t422 = 2 then ((mask_Ones.f bt409.1).bind fun t423 => (some (t423 == 32))) else (none))) else (none))) else (none)) else (none)) else (none)) else (none)) else (none)) else (none)) else (none)) else (none)) else (none)) else (none)))))) = some r := H
 have A1 := Aside0.mk A10
 clear A10
 replace H := Option.bind_eq_some_iff.mp H
 obtain ⟨⟨t409, t410⟩, A20, H⟩ := H
 replace H : ((mask_Encode.f k 6).bind fun bt411 => ((mask_Decode.f k 0 0 63).bind fun bt415 => ((mask_Encode.f k 0).bind fun bt417 => (if t408 = 0 then (if t407 = 255 then (if t410 = t408 then (if t409 = 6148914691236517205 then (if bt411.2.2.2 = t408 then (if bt411.1 = 1 then (if bt411.2.1 = 63 then (if bt411.2.2.1 = 1 then (if bt415.2 = 3 then (if bt417.2.2.2 = bt415.2 then ((mask_Is.f k 6).bind fun t421 => (if t421 = true then ((mask_Size.f k t409).bind fun t422 => (if t422 = 2 then ((mask_Ones.f t409).bind fun t423 => (some (t423 == 32))) else (none))) else (none))) else (none)) else (none)) else (none)) else (none)) else (none)) else (none)) else (none)) else (none)) else (none)) else (none))))) = some r := H
 have A2 := Aside0.mk A20
 clear A20
 replace H := Option.bind_eq_some_iff.mp H
 obtain ⟨⟨t411, t412, t413, t414⟩, A30, H⟩ := H
 replace H : ((mask_Decode.f k 0 0 63).bind fun bt415 => ((mask_Encode.f k 0).bind fun bt417 => (if t408 = 0 then (if t407 = 255 then (if t410 = t408 then (if t409 = 6148914691236517205 then (if t414 = t408 then (if t411 = 1 then (if t412 = 63 then (if t413 = 1 then (if bt415.2 = 3 then (if bt417.2.2.2 = bt415.2 then ((mask_Is.f k 6).bind fun t421 => (if t421 = true then ((mask_Size.f k t409).bind fun t422 => (if t422 = 2 then ((mask_Ones.f t409).bind fun t423 => (some (t423 == 32))) else (none))) else (none))) else (none)) else (none)) else (none)) else (none)) else (none)) else (none)) else (none)) else (none)) else (none)) else (none)))) = some r := H
 have A3 := Aside0.mk A30
 clear A30
 replace H := Option.bind_eq_some_iff.mp H
 obtain ⟨⟨t415, t416⟩, A40, H⟩ := H
 replace H : ((mask_Encode.f k 0).bind fun bt417 => (if t408 = 0 then (if t407 = 255 then (if t410 = t408 then (if t409 = 6148914691236517205 then (if t414 = t408 then (if t411 = 1 then (if t412 = 63 then (if t413 = 1 then (if t416 = 3 then (if bt417.2.2.2 = t416 then ((mask_Is.f k 6).bind fun t421 => (if t421 = true then ((mask_Size.f k t409).bind fun t422 => (if t422 = 2 then ((mask_Ones.f t409).bind fun t423 => (some (t423 == 32))) else (none))) else (none))) else (none)) else (none)) else (none)) else (none)) else (none)) else (none)) else (none)) else (none)) else (none)) else (none))) = some r := H
 have A4 := Aside0.mk A40
 clear A40
 replace H := Option.bind_eq_some_iff.mp H
 obtain ⟨⟨t417, t418, t419, t420⟩, A50, H⟩ := H
 replace H : (if t408 = 0 then (if t407 = 255 then (if t410 = t408 then (if t409 = 6148914691236517205 then (if t414 = t408 then (if t411 = 1 then (if t412 = 63 then (if t413 = 1 then (if t416 = 3 then (if t420 = t416 then ((mask_Is.f k 6).bind fun t421 => (if t421 = true then ((mask_Size.f k t409).bind fun t422 => (if t422 = 2 then ((mask_Ones.f t409).bind fun t423 => (some (t423 == 32))) else (none))) else (none))) else (none)) else (none)) else (none)) else (none)) else (none)) else (none)) else (none)) else (none)) else (none)) else (none)) = some r := H
 have A5 := Aside0.mk A50
 clear A50
 by_cases c6 : t408 = 0
 ·
  rw [if_pos c6] at H
  have c6b0 : (t408 == 0) = true := beq_iff_eq.mpr c6
  have c6b1 : (t408 != 0) = false := bne_eq_false_iff_eq.mpr c6
  clear c6
  by_cases c7 : t407 = 255
  ·
   rw [if_pos c7] at H
   have c7b0 : (t407 == 255) = true := beq_iff_eq.mpr c7
   have c7b1 : (t407 != 255) = false := bne_eq_false_iff_eq.mpr c7
   clear c7
   by_cases c8 : t410 = t408
   ·
    rw [if_pos c8] at H
    have c8b0 : (t410 == t408) = true := beq_iff_eq.mpr c8
    have c8b1 : (t410 != t408) = false := bne_eq_false_iff_eq.mpr c8
    clear c8
    by_cases c9 : t409 = 6148914691236517205
    ·
     rw [if_pos c9] at H
     have c9b0 : (t409 == 6148914691236517205) = true := beq_iff_eq.mpr c9
     have c9b1 : (t409 != 6148914691236517205) = false := bne_eq_false_iff_eq.mpr c9
     clear c9
     by_cases c10 : t414 = t408
     ·
      rw [if_pos c10] at H
      have c10b0 : (t414 == t408) = true := beq_iff_eq.mpr c10
      have c10b1 : (t414 != t408) = false := bne_eq_false_iff_eq.mpr c10
      clear c10
      by_cases c11 : t411 = 1
      ·
       rw [if_pos c11] at H
       have c11b0 : (t411 == 1) = true := beq_iff_eq.mpr c11
       have c11b1 : (t411 != 1) = false := bne_eq_false_iff_eq.mpr c11
       clear c11
       by_cases c12 : t412 = 63
       ·
        rw [if_pos c12] at H
        have c12b0 : (t412 == 63) = true := beq_iff_eq.mpr c12
        have c12b1 : (t412 != 63) = false := bne_eq_false_iff_eq.mpr c12
        clear c12
        by_cases c13 : t413 = 1
        ·
         rw [if_pos c13] at H
         have c13b0 : (t413 == 1) = true := beq_iff_eq.mpr c13
         have c13b1 : (t413 != 1) = false := bne_eq_false_iff_eq.mpr c13
         clear c13
         by_cases c14 : t416 = 3
         ·
          rw [if_pos c14] at H
          have c14b0 : (t416 == 3) = true := beq_iff_eq.mpr c14
          have c14b1 : (t416 != 3) = false := bne_eq_false_iff_eq.mpr c14
          clear c14
          by_cases c15 : t420 = t416
          ·
           rw [if_pos c15] at H
           have c15b0 : (t420 == t416) = true := beq_iff_eq.mpr c15
           have c15b1 : (t420 != t416) = false := bne_eq_false_iff_eq.mpr c15
           clear c15
           replace H := Option.bind_eq_some_iff.mp H
           obtain ⟨t421, A160, H⟩ := H
           replace H : (if t421 = true then ((mask_Size.f k t409).bind fun t422 => (if t422 = 2 then ((mask_Ones.f t409).bind fun t423 => (some (t423 == 32))) else (none))) else (none)) = some r := H
           have A16 := Aside0.mk A160
           clear A160
           by_cases c17 : t421 = true
           ·
            subst c17
            have H1 : ((mask_Size.f k t409).bind fun t422 => (if t422 = 2 then ((mask_Ones.f t409).bind fun t423 => (some (t423 == 32))) else (none))) = some r := by rw [if_pos rfl] at H; exact H
            clear H
            have H := H1
            clear H1
            replace H := Option.bind_eq_some_iff.mp H
            obtain ⟨t422, A180, H⟩ := H
            replace H : (if t422 = 2 then ((mask_Ones.f t409).bind fun t423 => (some (t423 == 32))) else (none)) = some r := H
            have A18 := Aside0.mk A180
            clear A180
            by_cases c19 : t422 = 2
            ·
             rw [if_pos c19] at H
             have c19b0 : (t422 == 2) = true := beq_iff_eq.mpr c19
             have c19b1 : (t422 != 2) = false := bne_eq_false_iff_eq.mpr c19
             clear c19
             replace H := Option.bind_eq_some_iff.mp H
             obtain ⟨t423, A200, H⟩ := H
             replace H : (some (t423 == 32)) = some r := H
             have A20 := Aside0.mk A200
             clear A200
             obtain rfl := Option.some.inj H
             go_enter Tryd.func18, Tryd.ntmps18
             go_wp2_with (first | ((with_reducible refine gate_callee (f := 14) rfl ?_); refine goesL_ (some 16) rfl rfl Tryd.func14 (by kernel_rfl) rfl #[.int .i64 1, .int .i64 0, .int .i64 7] rfl (by (try simp only [List.map_toArray, List.map_cons, List.map_nil]); first | done | rfl | (simp only [List.length_drop, List.length_take]; rfl)) ?_; (with_reducible refine (mask_Decode.calls k 1 0 7 t407 t408 _ A1.out).mono ?_); rintro e w21 ⟨rfl, hb⟩; refine ⟨_, rfl, ?_⟩; have n0_ := Aside0.mk (below_step (by repeat (first | (with_reducible first | exact HB.out | apply below_alloc | apply pw_below_drewN | apply below_drew1) | exact HB.out)) hb); clear HB; have HB := n0_; clear n0_; (try clear hb); (try clear hb2); (try clear hk); (try clear hi)) | ((with_reducible refine gate_callee (f := 14) rfl ?_); refine goesL_ (some 20) rfl rfl Tryd.func14 (by kernel_rfl) rfl #[.int .i64 0, .int .i64 0, .int .i64 60] rfl (by (try simp only [List.map_toArray, List.map_cons, List.map_nil]); first | done | rfl | (simp only [List.length_drop, List.length_take]; rfl)) ?_; (with_reducible refine (mask_Decode.calls k 0 0 60 t409 t410 _ A2.out).mono ?_); rintro e w22 ⟨rfl, hb⟩; refine ⟨_, rfl, ?_⟩; have n0_ := Aside0.mk (below_step (by repeat (first | (with_reducible first | exact HB.out | apply below_alloc | apply pw_below_drewN | apply below_drew1) | exact HB.out)) hb); clear HB; have HB := n0_; clear n0_; (try clear hb); (try clear hb2); (try clear hk); (try clear hi)) | ((with_reducible refine gate_callee (f := 16) rfl ?_); refine goesL_ (some 24) rfl rfl Tryd.func16 (by kernel_rfl) rfl #[.int .u64 6] rfl (by (try simp only [List.map_toArray, List.map_cons, List.map_nil]); first | done | rfl | (simp only [List.length_drop, List.length_take]; rfl)) ?_; (with_reducible refine (mask_Encode.calls k 6 t411 t412 t413 t414 _ A3.out).mono ?_); rintro e w23 ⟨rfl, hb⟩; refine ⟨_, rfl, ?_⟩; have n0_ := Aside0.mk (below_step (by repeat (first | (with_reducible first | exact HB.out | apply below_alloc | apply pw_below_drewN | apply below_drew1) | exact HB.out)) hb); clear HB; have HB := n0_; clear n0_; (try clear hb); (try clear hb2); (try clear hk); (try clear hi)) | ((with_reducible refine gate_callee (f := 14) rfl ?_); refine goesL_ (some 30) rfl rfl Tryd.func14 (by kernel_rfl) rfl #[.int .i64 0, .int .i64 0, .int .i64 63] rfl (by (try simp only [List.map_toArray, List.map_cons, List.map_nil]); first | done | rfl | (simp only [List.length_drop, List.length_take]; rfl)) ?_; (with_reducible refine (mask_Decode.calls k 0 0 63 t415 t416 _ A4.out).mono ?_); rintro e w24 ⟨rfl, hb⟩; refine ⟨_, rfl, ?_⟩; have n0_ := Aside0.mk (below_step (by repeat (first | (with_reducible first | exact HB.out | apply below_alloc | apply pw_below_drewN | apply below_drew1) | exact HB.out)) hb); clear HB; have HB := n0_; clear n0_; (try clear hb); (try clear hb2); (try clear hk); (try clear hi)) | ((with_reducible refine gate_callee (f := 16) rfl ?_); refine goesL_ (some 34) rfl rfl Tryd.func16 (by kernel_rfl) rfl #[.int .u64 0] rfl (by (try simp only [List.map_toArray, List.map_cons, List.map_nil]); first | done | rfl | (simp only [List.length_drop, List.length_take]; rfl)) ?_; (with_reducible refine (mask_Encode.calls k 0 t417 t418 t419 t420 _ A5.out).mono ?_); rintro e w25 ⟨rfl, hb⟩; refine ⟨_, rfl, ?_⟩; have n0_ := Aside0.mk (below_step (by repeat (first | (with_reducible first | exact HB.out | apply below_alloc | apply pw_below_drewN | apply below_drew1) | exact HB.out)) hb); clear HB; have HB := n0_; clear n0_; (try clear hb); (try clear hb2); (try clear hk); (try clear hi)) | (go_at_call 19; (with_reducible refine (mask_Is.calls k 6 true _ A16.out).mono ?_); rintro e w26 ⟨rfl, hb⟩; have n0_ := Aside0.mk (below_step (by repeat (first | (with_reducible first | exact HB.out | apply below_alloc | apply pw_below_drewN | apply below_drew1) | exact HB.out)) hb); clear HB; have HB := n0_; clear n0_; (try clear hb); (try clear hb2); (try clear hk); (try clear hi)) | (go_at_call 21; (with_reducible refine (mask_Size.calls k t409 t422 _ A18.out).mono ?_); rintro e w27 ⟨rfl, hb⟩; have n0_ := Aside0.mk (below_step (by repeat (first | (with_reducible first | exact HB.out | apply below_alloc | apply pw_below_drewN | apply below_drew1) | exact HB.out)) hb); clear HB; have HB := n0_; clear n0_; (try clear hb); (try clear hb2); (try clear hk); (try clear hi)) | (go_at_call 23; (with_reducible refine (mask_Ones.calls t409 t423 _ A20.out).mono ?_); rintro e w' ⟨rfl, ⟨nd, rfl⟩⟩))
             go_ret
             exact ⟨by first | rfl | (simp [errW_none, errW_some] <;> rfl) | (simp [*, errW_none, errW_some] <;> rfl), by repeat (first | (with_reducible first | exact HB.out | apply below_alloc | apply pw_below_drewN | apply below_drew1) | exact HB.out)⟩
            ·
             rw [if_neg c19] at H
             exact absurd H (by simp)
           ·
            replace c17 := Bool.eq_false_iff.mpr c17
            subst c17
            have H1 : (none) = some r := by rw [if_neg (show ¬ (false = true) by decide)] at H; exact H
            clear H
            have H := H1
            clear H1
            exact absurd H (by simp)
          ·
           rw [if_neg c15] at H
           exact absurd H (by simp)
         ·
          rw [if_neg c14] at H
          exact absurd H (by simp)
        ·
         rw [if_neg c13] at H
         exact absurd H (by simp)
       ·
        rw [if_neg c12] at H
        exact absurd H (by simp)
      ·
       rw [if_neg c11] at H
       exact absurd H (by simp)
     ·
      rw [if_neg c10] at H
      exact absurd H (by simp)
    ·
     rw [if_neg c9] at H
     exact absurd H (by simp)
   ·
    rw [if_neg c8] at H
    exact absurd H (by simp)
  ·
   rw [if_neg c7] at H
   exact absurd H (by simp)
 ·
  rw [if_neg c6] at H
  exact absurd H (by simp)

end Go.Proofs.YtbklmlbmbnnjkaaDoor.R
