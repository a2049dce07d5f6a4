/- Written for this claim by a program of this session: what the claim uses of lemmas and proved contracts of Go functions. -/
import Derived.Test.YtbklmlbmbnnjkaaDoorZDoesRx0
import Derived.Test.YtbklmlbmbnnjkaaDoorZDoesRx7
import Derived.Test.YtbklmlbmbnnjkaaDoorZDoesRx8
namespace Go.Proofs.YtbklmlbmbnnjkaaDoor.R
open Go.RowKit Go.Proofs.YtbklmlbmbnnjkaaDoorW.PrintWords Go.Proofs.YtbklmlbmbnnjkaaDoorW.PrintLast Go.Proofs.YtbklmlbmbnnjkaaDoorW.PrintMore
attribute [local go_sem] max2_int min2_int max_two min_two max_three min_three max_four min_four   -- for this text's walks alone
set_option linter.unusedVariables false
set_option linter.unusedSimpArgs false
mutual
def cleatref01_Rotate.j0 : Nat → Int → Int → Int → Bool → Option (Int × Int)
 | 0, _, _, _, _ => none
 | k + 1, x0, x1, x2, x40 => if x40 = true then (some (0, 1)) else ((cleatref01_Small.f k x0 x2).bind fun t176 => (if t176 = true then (cleatref01_Rotate.l0 k x0 x1 x2 0 0) else (some (0, 4))))
def cleatref01_Rotate.l0 : Nat → Int → Int → Int → Int → Int → Option (Int × Int)
 | 0, _, _, _, _, _ => none
 | k + 1, x0, x1, x2, x8, x9 => if x9 < x2 then (if x2 = 0 then (none) else ((cleatref01_Bit.f k x0 (Int.tmod (wrap64 (x9 + x1)) x2)).bind fun t177 => (if t177 = true then ((cleatref01_Power.f k x9).bind fun t178 => (cleatref01_Rotate.l0 k x0 x1 x2 (IntKind.u64.wrap (x8 + t178)) (wrap64 (x9 + 1)))) else (cleatref01_Rotate.l0 k x0 x1 x2 x8 (wrap64 (x9 + 1)))))) else (some (x8, 0))
end
def cleatref01_Rotate.f (k : Nat) (a0 : Int) (a1 : Int) (a2 : Int) : Option (Int × Int) := if a2 = 2 then (if a1 < 0 then (cleatref01_Rotate.j0 k a0 a1 a2 true) else (cleatref01_Rotate.j0 k a0 a1 a2 (decide (a1 ≥ a2)))) else (if a2 = 4 then (if a1 < 0 then (cleatref01_Rotate.j0 k a0 a1 a2 true) else (cleatref01_Rotate.j0 k a0 a1 a2 (decide (a1 ≥ a2)))) else (if a2 = 8 then (if a1 < 0 then (cleatref01_Rotate.j0 k a0 a1 a2 true) else (cleatref01_Rotate.j0 k a0 a1 a2 (decide (a1 ≥ a2)))) else (if a2 = 16 then (if a1 < 0 then (cleatref01_Rotate.j0 k a0 a1 a2 true) else (cleatref01_Rotate.j0 k a0 a1 a2 (decide (a1 ≥ a2)))) else (if a2 = 32 then (if a1 < 0 then (cleatref01_Rotate.j0 k a0 a1 a2 true) else (cleatref01_Rotate.j0 k a0 a1 a2 (decide (a1 ≥ a2)))) else (if a2 = 64 then (if a1 < 0 then (cleatref01_Rotate.j0 k a0 a1 a2 true) else (cleatref01_Rotate.j0 k a0 a1 a2 (decide (a1 ≥ a2)))) else (cleatref01_Rotate.j0 k a0 a1 a2 true))))))
theorem cleatref01_Rotate.mono_l : ∀ k, (∀ y0 y1 y2 y3, LeO (cleatref01_Rotate.j0 k y0 y1 y2 y3) (cleatref01_Rotate.j0 (k + 1) y0 y1 y2 y3)) ∧ (∀ y0 y1 y2 y3 y4, LeO (cleatref01_Rotate.l0 k y0 y1 y2 y3 y4) (cleatref01_Rotate.l0 (k + 1) y0 y1 y2 y3 y4))
 | 0 => ⟨fun _ _ _ _ r h => by simp [cleatref01_Rotate.j0] at h, fun _ _ _ _ _ r h => by simp [cleatref01_Rotate.l0] at h⟩
 | k + 1 => by
  obtain ⟨ih0, ih1⟩ := cleatref01_Rotate.mono_l k
  refine ⟨?_, ?_⟩
  ·
   intro y0 y1 y2 y3
   unfold cleatref01_Rotate.j0
   repeat' first
   | (with_reducible exact ih0 _ _ _ _)
   | (with_reducible exact ih1 _ _ _ _ _)
   | (with_reducible exact cleatref01_Bit.mono _ _ _)
   | (with_reducible exact cleatref01_Power.mono _ _)
   | (with_reducible exact cleatref01_Small.mono _ _ _)
   | (with_reducible exact LeO.refl _)
   | (with_reducible exact LeO.none _)
   | (with_reducible refine LeO.ite ?_ ?_)
   | (with_reducible refine LeO.bind ?_ (fun _ => ?_))
   | exact ih0 _ _ _ _
   | exact ih1 _ _ _ _ _
   | exact cleatref01_Bit.mono _ _ _
   | exact cleatref01_Power.mono _ _
   | exact cleatref01_Small.mono _ _ _
   | exact LeO.none _
   | refine LeO.ite ?_ ?_
   | refine LeO.bind ?_ (fun _ => ?_)
  ·
   intro y0 y1 y2 y3 y4
   unfold cleatref01_Rotate.l0
   repeat' first
   | (with_reducible exact ih0 _ _ _ _)
   | (with_reducible exact ih1 _ _ _ _ _)
   | (with_reducible exact cleatref01_Bit.mono _ _ _)
   | (with_reducible exact cleatref01_Power.mono _ _)
   | (with_reducible exact cleatref01_Small.mono _ _ _)
   | (with_reducible exact LeO.refl _)
   | (with_reducible exact LeO.none _)
   | (with_reducible refine LeO.ite ?_ ?_)
   | (with_reducible refine LeO.bind ?_ (fun _ => ?_))
   | exact ih0 _ _ _ _
   | exact ih1 _ _ _ _ _
   | exact cleatref01_Bit.mono _ _ _
   | exact cleatref01_Power.mono _ _
   | exact cleatref01_Small.mono _ _ _
   | exact LeO.none _
   | refine LeO.ite ?_ ?_
   | refine LeO.bind ?_ (fun _ => ?_)
theorem cleatref01_Rotate.mono : ∀ a0 a1 a2 k, LeO (cleatref01_Rotate.f k a0 a1 a2) (cleatref01_Rotate.f (k + 1) a0 a1 a2) := by
 intro a0 a1 a2 k
 obtain ⟨ih0, ih1⟩ := cleatref01_Rotate.mono_l k
 unfold cleatref01_Rotate.f
 repeat' first
   | (with_reducible exact ih0 _ _ _ _)
   | (with_reducible exact ih1 _ _ _ _ _)
   | (with_reducible exact cleatref01_Bit.mono _ _ _)
   | (with_reducible exact cleatref01_Power.mono _ _)
   | (with_reducible exact cleatref01_Small.mono _ _ _)
   | (with_reducible exact LeO.refl _)
   | (with_reducible exact LeO.none _)
   | (with_reducible refine LeO.ite ?_ ?_)
   | (with_reducible refine LeO.bind ?_ (fun _ => ?_))
   | exact ih0 _ _ _ _
   | exact ih1 _ _ _ _ _
   | exact cleatref01_Bit.mono _ _ _
   | exact cleatref01_Power.mono _ _
   | exact cleatref01_Small.mono _ _ _
   | exact LeO.none _
   | refine LeO.ite ?_ ?_
   | refine LeO.bind ?_ (fun _ => ?_)
set_option maxHeartbeats 8000000 in
set_option maxRecDepth 100000 in
theorem cleatref01_Rotate.calls (k : Nat) (a0 : Int) (a1 : Int) (a2 : Int) (r1 : Int) (r2 : Int) (w : World) (h : cleatref01_Rotate.f k a0 a1 a2 = some (r1, r2)) :
    Calls Tryd.prog 71 #[.int .u64 a0, .int .i64 a1, .int .i64 a2] w fun e w' => e = .returned (.tuple #[.int .u64 r1, .int .i64 r2]) ∧ Drawn0 w w' := by
 have H : (if a2 = 2 then (if a1 < 0 then (cleatref01_Rotate.j0 k a0 a1 a2 true) else (cleatref01_Rotate.j0 k a0 a1 a2 (decide (a1 ≥ a2)))) else (if a2 = 4 then (if a1 < 0 then (cleatref01_Rotate.j0 k a0 a1 a2 true) else (cleatref01_Rotate.j0 k a0 a1 a2 (decide (a1 ≥ a2)))) else (if a2 = 8 then (if a1 < 0 then (cleatref01_Rotate.j0 k a0 a1 a2 true) else (cleatref01_Rotate.j0 k a0 a1 a2 (decide (a1 ≥ a2)))) else (if a2 = 16 then (if a1 < 0 then (cleatref01_Rotate.j0 k a0 a1 a2 true) else (cleatref01_Rotate.j0 k a0 a1 a2 (decide (a1 ≥ a2)))) else (if a2 = 32 then (if a1 < 0 then (cleatref01_Rotate.j0 k a0 a1 a2 true) else (cleatref01_Rotate.j0 k a0 a1 a2 (decide (a1 ≥ a2)))) else (if a2 = 64 then (if a1 < 0 then (cleatref01_Rotate.j0 k a0 a1 a2 true) else (cleatref01_Rotate.j0 k a0 a1 a2 (decide (a1 ≥ a2)))) else (cleatref01_Rotate.j0 k a0 a1 a2 true))))))) = some (r1, r2) := h
 clear h
 have HC4 := Aside0.mk H
 clear H
 go_enter Tryd.func71, Tryd.ntmps71
 go_upto_region 1 with (fail)
 go_cut [40] (fun v40 wc => ∃ (kq : Nat) (x40_3 : Bool), v40 = .bool x40_3 ∧ Aside0 (cleatref01_Rotate.j0 kq a0 a1 a2 x40_3 = some (r1, r2)) ∧ Aside0 (kq ≤ k) ∧ Drawn0 w wc)
 case first =>
  have H := HC4.out
  clear HC4
  (try (rw [drewN_self w]; have n0_ := fun n_ => pw_below_drewN HB.out n_; clear HB; generalize hq_ : World.drewN w _ = w; have HB := Aside0.mk (hq_ ▸ n0_ _); clear hq_ n0_))
  by_cases c5 : a2 = 2
  ·
   rw [if_pos c5] at H
   have c5b0 : (a2 == 2) = true := beq_iff_eq.mpr c5
   have c5b1 : (a2 != 2) = false := bne_eq_false_iff_eq.mpr c5
   clear c5
   (first | rw [c5b0] | (simp only [i64_w, i32_w]; rw [c5b0]) | skip)
   by_cases c6 : a1 < 0
   ·
    rw [if_pos c6] at H
    have c6b0 : decide (a1 < 0) = true := decide_eq_true c6
    clear c6
    have H' := Aside0.mk H
    clear H
    go_wp2
    go_meet
    case rel => exact ⟨_, (true), (by first | rfl | (simp; done) | (simp [*]; done)), H', ⟨by first | omega | exact Nat.le_refl _⟩, by repeat (first | exact Drawn0.refl _ | apply Drawn0.step)⟩
   ·
    rw [if_neg c6] at H
    have c6b0 : decide (a1 < 0) = false := decide_eq_false c6
    clear c6
    have H' := Aside0.mk H
    clear H
    go_wp2
    go_meet
    case rel => exact ⟨_, (decide (a1 ≥ a2)), (by first | rfl | (simp; done) | (simp [*]; done)), H', ⟨by first | omega | exact Nat.le_refl _⟩, by repeat (first | exact Drawn0.refl _ | apply Drawn0.step)⟩
  ·
   rw [if_neg c5] at H
   have c5b0 : (a2 == 2) = false := beq_eq_false_iff_ne.mpr c5
   have c5b1 : (a2 != 2) = true := bne_iff_ne.mpr c5
   (first | rw [c5b0] | (simp only [i64_w, i32_w]; rw [c5b0]) | skip)
   by_cases c7 : a2 = 4
   ·
    rw [if_pos c7] at H
    have c7b0 : (a2 == 4) = true := beq_iff_eq.mpr c7
    have c7b1 : (a2 != 4) = false := bne_eq_false_iff_eq.mpr c7
    clear c7
    by_cases c8 : a1 < 0
    ·
     rw [if_pos c8] at H
     have c8b0 : decide (a1 < 0) = true := decide_eq_true c8
     clear c8
     have H' := Aside0.mk H
     clear H
     go_wp2
     go_meet
     case rel => exact ⟨_, (true), (by first | rfl | (simp; done) | (simp [*]; done)), H', ⟨by first | omega | exact Nat.le_refl _⟩, by repeat (first | exact Drawn0.refl _ | apply Drawn0.step)⟩
    ·
     rw [if_neg c8] at H
     have c8b0 : decide (a1 < 0) = false := decide_eq_false c8
     clear c8
     have H' := Aside0.mk H
     clear H
     go_wp2
     go_meet
     case rel => exact ⟨_, (decide (a1 ≥ a2)), (by first | rfl | (simp; done) | (simp [*]; done)), H', ⟨by first | omega | exact Nat.le_refl _⟩, by repeat (first | exact Drawn0.refl _ | apply Drawn0.step)⟩
   ·
    rw [if_neg c7] at H
    have c7b0 : (a2 == 4) = false := beq_eq_false_iff_ne.mpr c7
    have c7b1 : (a2 != 4) = true := bne_iff_ne.mpr c7
    by_cases c9 : a2 = 8
    ·
     rw [if_pos c9] at H
     have c9b0 : (a2 == 8) = true := beq_iff_eq.mpr c9
     have c9b1 : (a2 != 8) = false := bne_eq_false_iff_eq.mpr c9
     clear c9
     by_cases c10 : a1 < 0
     ·
      rw [if_pos c10] at H
      have c10b0 : decide (a1 < 0) = true := decide_eq_true c10
      clear c10
      have H' := Aside0.mk H
      clear H
      go_wp2
      go_meet
      case rel => exact ⟨_, (true), (by first | rfl | (simp; done) | (simp [*]; done)), H', ⟨by first | omega | exact Nat.le_refl _⟩, by repeat (first | exact Drawn0.refl _ | apply Drawn0.step)⟩
     ·
      rw [if_neg c10] at H
      have c10b0 : decide (a1 < 0) = false := decide_eq_false c10
      clear c10
      have H' := Aside0.mk H
      clear H
      go_wp2
      go_meet
      case rel => exact ⟨_, (decide (a1 ≥ a2)), (by first | rfl | (simp; done) | (simp [*]; done)), H', ⟨by first | omega | exact Nat.le_refl _⟩, by repeat (first | exact Drawn0.refl _ | apply Drawn0.step)⟩
    ·
     rw [if_neg c9] at H
     have c9b0 : (a2 == 8) = false := beq_eq_false_iff_ne.mpr c9
     have c9b1 : (a2 != 8) = true := bne_iff_ne.mpr c9
     by_cases c11 : a2 = 16
     ·
      rw [if_pos c11] at H
      have c11b0 : (a2 == 16) = true := beq_iff_eq.mpr c11
      have c11b1 : (a2 != 16) = false := bne_eq_false_iff_eq.mpr c11
      clear c11
      by_cases c12 : a1 < 0
      ·
       rw [if_pos c12] at H
       have c12b0 : decide (a1 < 0) = true := decide_eq_true c12
       clear c12
       have H' := Aside0.mk H
       clear H
       go_wp2
       go_meet
       case rel => exact ⟨_, (true), (by first | rfl | (simp; done) | (simp [*]; done)), H', ⟨by first | omega | exact Nat.le_refl _⟩, by repeat (first | exact Drawn0.refl _ | apply Drawn0.step)⟩
      ·
       rw [if_neg c12] at H
       have c12b0 : decide (a1 < 0) = false := decide_eq_false c12
       clear c12
       have H' := Aside0.mk H
       clear H
       go_wp2
       go_meet
       case rel => exact ⟨_, (decide (a1 ≥ a2)), (by first | rfl | (simp; done) | (simp [*]; done)), H', ⟨by first | omega | exact Nat.le_refl _⟩, by repeat (first | exact Drawn0.refl _ | apply Drawn0.step)⟩
     ·
      rw [if_neg c11] at H
      have c11b0 : (a2 == 16) = false := beq_eq_false_iff_ne.mpr c11
      have c11b1 : (a2 != 16) = true := bne_iff_ne.mpr c11
      by_cases c13 : a2 = 32
      ·
       rw [if_pos c13] at H
       have c13b0 : (a2 == 32) = true := beq_iff_eq.mpr c13
       have c13b1 : (a2 != 32) = false := bne_eq_false_iff_eq.mpr c13
       clear c13
       by_cases c14 : a1 < 0
       ·
        rw [if_pos c14] at H
        have c14b0 : decide (a1 < 0) = true := decide_eq_true c14
        clear c14
        have H' := Aside0.mk H
        clear H
        go_wp2
        go_meet
        case rel => exact ⟨_, (true), (by first | rfl | (simp; done) | (simp [*]; done)), H', ⟨by first | omega | exact Nat.le_refl _⟩, by repeat (first | exact Drawn0.refl _ | apply Drawn0.step)⟩
       ·
        rw [if_neg c14] at H
        have c14b0 : decide (a1 < 0) = false := decide_eq_false c14
        clear c14
        have H' := Aside0.mk H
        clear H
        go_wp2
        go_meet
        case rel => exact ⟨_, (decide (a1 ≥ a2)), (by first | rfl | (simp; done) | (simp [*]; done)), H', ⟨by first | omega | exact Nat.le_refl _⟩, by repeat (first | exact Drawn0.refl _ | apply Drawn0.step)⟩
      ·
       rw [if_neg c13] at H
       have c13b0 : (a2 == 32) = false := beq_eq_false_iff_ne.mpr c13
       have c13b1 : (a2 != 32) = true := bne_iff_ne.mpr c13
       by_cases c15 : a2 = 64
       ·
        rw [if_pos c15] at H
        have c15b0 : (a2 == 64) = true := beq_iff_eq.mpr c15
        have c15b1 : (a2 != 64) = false := bne_eq_false_iff_eq.mpr c15
        clear c15
        by_cases c16 : a1 < 0
        ·
         rw [if_pos c16] at H
         have c16b0 : decide (a1 < 0) = true := decide_eq_true c16
         clear c16
         have H' := Aside0.mk H
         clear H
         go_wp2
         go_meet
         case rel => exact ⟨_, (true), (by first | rfl | (simp; done) | (simp [*]; done)), H', ⟨by first | omega | exact Nat.le_refl _⟩, by repeat (first | exact Drawn0.refl _ | apply Drawn0.step)⟩
        ·
         rw [if_neg c16] at H
         have c16b0 : decide (a1 < 0) = false := decide_eq_false c16
         clear c16
         have H' := Aside0.mk H
         clear H
         go_wp2
         go_meet
         case rel => exact ⟨_, (decide (a1 ≥ a2)), (by first | rfl | (simp; done) | (simp [*]; done)), H', ⟨by first | omega | exact Nat.le_refl _⟩, by repeat (first | exact Drawn0.refl _ | apply Drawn0.step)⟩
       ·
        rw [if_neg c15] at H
        have c15b0 : (a2 == 64) = false := beq_eq_false_iff_ne.mpr c15
        have c15b1 : (a2 != 64) = true := bne_iff_ne.mpr c15
        have H' := Aside0.mk H
        clear H
        go_wp2
        go_meet
        case rel => exact ⟨_, (true), (by first | rfl | (simp; done) | (simp [*]; done)), H', ⟨by first | omega | exact Nat.le_refl _⟩, by repeat (first | exact Drawn0.refl _ | apply Drawn0.step)⟩
 case rest =>
  clear HC4
  try clear c1
  try clear p2
  try clear c5
  try clear c5b0
  try clear c5b1
  try clear c6
  try clear c6b0
  try clear c7
  try clear c7b0
  try clear c7b1
  try clear c8
  try clear c8b0
  try clear c9
  try clear c9b0
  try clear c9b1
  try clear c10
  try clear c10b0
  try clear c11
  try clear c11b0
  try clear c11b1
  try clear c12
  try clear c12b0
  try clear c13
  try clear c13b0
  try clear c13b1
  try clear c14
  try clear c14b0
  try clear c15
  try clear c15b0
  try clear c15b1
  try clear c16
  try clear c16b0
  obtain ⟨kq, x40_3, rfl, HA, HJ3, ⟨mc3, rfl⟩⟩ := hcut
  cases kq with
  | zero => exact absurd HA.out (by simp [cleatref01_Rotate.j0])
  | succ kj3 =>
   have H := HA.out
   clear HA
   simp only [cleatref01_Rotate.j0] at H
   by_cases c17 : x40_3 = true
   ·
    subst c17
    have H1 : (some (0, 1)) = some (r1, r2) := by rw [if_pos rfl] at H; exact H
    clear H
    have H := H1
    clear H1
    simp only [Option.some.injEq, Prod.mk.injEq] at H
    obtain ⟨rfl, rfl⟩ := H
    go_wp2
    go_ret2
    exact ⟨by first | rfl | (simp; done) | (simp [*]; done), by repeat (first | exact Drawn0.refl _ | apply Drawn0.step)⟩
   ·
    replace c17 := Bool.eq_false_iff.mpr c17
    subst c17
    have H1 : ((cleatref01_Small.f kj3 a0 a2).bind fun t176 => (if t176 = true then (cleatref01_Rotate.l0 kj3 a0 a1 a2 0 0) else (some (0, 4)))) = some (r1, r2) := by rw [if_neg (show ¬ (false = true) by decide)] at H; exact H
    clear H
    have H := H1
    clear H1
    replace H := Option.bind_eq_some_iff.mp H
    obtain ⟨t176, A180, H⟩ := H
    replace H : (if t176 = true then (cleatref01_Rotate.l0 kj3 a0 a1 a2 0 0) else (some (0, 4))) = some (r1, r2) := H
    have A18 := Aside0.mk A180
    clear A180
    by_cases c19 : t176 = true
    ·
     subst c19
     have H1 : (cleatref01_Rotate.l0 kj3 a0 a1 a2 0 0) = some (r1, r2) := by rw [if_pos rfl] at H; exact H
     clear H
     have H := H1
     clear H1
     have H' := Aside0.mk H
     clear H
     go_wp2_with (first | ((with_reducible refine gate_callee (f := 78) rfl ?_); refine goesL_ (some 43) rfl rfl Tryd.func78 (by kernel_rfl) rfl #[.int .u64 a0, .int .i64 a2] rfl (by (try simp only [List.map_toArray, List.map_cons, List.map_nil]); first | done | rfl | (simp only [List.length_drop, List.length_take]; rfl)) ?_; (with_reducible refine (cleatref01_Small.calls kj3 a0 a2 true _ A18.out).mono ?_); rintro e w' ⟨rfl, ⟨nd, rfl⟩⟩; refine ⟨_, rfl, ?_⟩))
     go_loopg [8, 9] kj3 (fun kq v8 v9 w' => ∃ (x8_2 : Int) (x9_2 : Int), v8 = .int .u64 x8_2 ∧ v9 = .int .i64 x9_2 ∧ Aside0 (cleatref01_Rotate.l0 kq a0 a1 a2 x8_2 x9_2 = some (r1, r2)) ∧ Aside0 (kq ≤ kj3) ∧ Drawn0 w w')
     case atStart => exact ⟨(0), (0), (by first | rfl | (simp; done) | (simp [*]; done)), (by first | rfl | (simp; done) | (simp [*]; done)), H', ⟨Nat.le_refl _⟩, by repeat (first | exact Drawn0.refl _ | apply Drawn0.step)⟩
     case round =>
      clear H'
      try clear c1
      try clear p2
      try clear c3
      try clear c5
      try clear c5b0
      try clear c5b1
      try clear c6
      try clear c6b0
      try clear c7
      try clear c7b0
      try clear c7b1
      try clear c8
      try clear c8b0
      try clear c9
      try clear c9b0
      try clear c9b1
      try clear c10
      try clear c10b0
      try clear c11
      try clear c11b0
      try clear c11b1
      try clear c12
      try clear c12b0
      try clear c13
      try clear c13b0
      try clear c13b1
      try clear c14
      try clear c14b0
      try clear c15
      try clear c15b0
      try clear c15b1
      try clear c16
      try clear c16b0
      try clear c17
      try clear c19
      try clear p2
      obtain ⟨x8_2, x9_2, rfl, rfl, HA, HK2, ⟨m2, rfl⟩⟩ := hrel
      cases gk with
      | zero => exact absurd HA.out (by simp [cleatref01_Rotate.l0])
      | succ k2 =>
       have H := HA.out
       clear HA
       simp only [cleatref01_Rotate.l0] at H
       by_cases c20 : x9_2 < a2
       ·
        rw [if_pos c20] at H
        have c20b0 : decide (x9_2 < a2) = true := decide_eq_true c20
        clear c20
        by_cases c21 : a2 = 0
        ·
         rw [if_pos c21] at H
         exact absurd H (by simp)
        ·
         rw [if_neg c21] at H
         have c21b0 : (a2 == 0) = false := beq_eq_false_iff_ne.mpr c21
         have c21b1 : (a2 != 0) = true := bne_iff_ne.mpr c21
         replace H := Option.bind_eq_some_iff.mp H
         obtain ⟨t177, A220, H⟩ := H
         replace H : (if t177 = true then ((cleatref01_Power.f k2 x9_2).bind fun t178 => (cleatref01_Rotate.l0 k2 a0 a1 a2 (IntKind.u64.wrap (x8_2 + t178)) (wrap64 (x9_2 + 1)))) else (cleatref01_Rotate.l0 k2 a0 a1 a2 x8_2 (wrap64 (x9_2 + 1)))) = some (r1, r2) := H
         have A22 := Aside0.mk A220
         clear A220
         by_cases c23 : t177 = true
         ·
          subst c23
          have H1 : ((cleatref01_Power.f k2 x9_2).bind fun t178 => (cleatref01_Rotate.l0 k2 a0 a1 a2 (IntKind.u64.wrap (x8_2 + t178)) (wrap64 (x9_2 + 1)))) = some (r1, r2) := by rw [if_pos rfl] at H; exact H
          clear H
          have H := H1
          clear H1
          replace H := Option.bind_eq_some_iff.mp H
          obtain ⟨t178, A240, H⟩ := H
          replace H : (cleatref01_Rotate.l0 k2 a0 a1 a2 (IntKind.u64.wrap (x8_2 + t178)) (wrap64 (x9_2 + 1))) = some (r1, r2) := H
          have A24 := Aside0.mk A240
          clear A240
          have H' := Aside0.mk H
          clear H
          go_wp2_with (first | ((with_reducible refine gate_callee (f := 53) rfl ?_); refine goesL_ (some 56) rfl rfl Tryd.func53 (by kernel_rfl) rfl #[.int .u64 a0, .int .i64 (Int.tmod (wrap64 (x9_2 + a1)) a2)] rfl (by (try simp only [List.map_toArray, List.map_cons, List.map_nil]); first | done | rfl | (simp only [List.length_drop, List.length_take]; rfl)) ?_; (with_reducible refine (cleatref01_Bit.calls k2 a0 (Int.tmod (wrap64 (x9_2 + a1)) a2) true _ A22.out).mono ?_); rintro e w' ⟨rfl, ⟨nd, rfl⟩⟩; refine ⟨_, rfl, ?_⟩) | ((with_reducible refine gate_callee (f := 70) rfl ?_); refine goesL_ (some 59) rfl rfl Tryd.func70 (by kernel_rfl) rfl #[.int .i64 x9_2] rfl (by (try simp only [List.map_toArray, List.map_cons, List.map_nil]); first | done | rfl | (simp only [List.length_drop, List.length_take]; rfl)) ?_; (with_reducible refine (cleatref01_Power.calls k2 x9_2 t178 _ A24.out).mono ?_); rintro e w' ⟨rfl, ⟨nd, rfl⟩⟩; refine ⟨_, rfl, ?_⟩))
          go_roundg k2
          case measure => have := HJ3.out; have := HK2.out; omega
          case rel => exact ⟨(IntKind.u64.wrap (x8_2 + t178)), (wrap64 (x9_2 + 1)), (by first | rfl | (simp; done) | (simp [*]; done)), (by first | rfl | (simp; done) | (simp [*]; done)), H', ⟨by have := HJ3.out; have := HK2.out; omega⟩, by repeat (first | exact Drawn0.refl _ | apply Drawn0.step)⟩
         ·
          replace c23 := Bool.eq_false_iff.mpr c23
          subst c23
          have H1 : (cleatref01_Rotate.l0 k2 a0 a1 a2 x8_2 (wrap64 (x9_2 + 1))) = some (r1, r2) := by rw [if_neg (show ¬ (false = true) by decide)] at H; exact H
          clear H
          have H := H1
          clear H1
          have H' := Aside0.mk H
          clear H
          go_wp2_with (first | ((with_reducible refine gate_callee (f := 53) rfl ?_); refine goesL_ (some 56) rfl rfl Tryd.func53 (by kernel_rfl) rfl #[.int .u64 a0, .int .i64 (Int.tmod (wrap64 (x9_2 + a1)) a2)] rfl (by (try simp only [List.map_toArray, List.map_cons, List.map_nil]); first | done | rfl | (simp only [List.length_drop, List.length_take]; rfl)) ?_; (with_reducible refine (cleatref01_Bit.calls k2 a0 (Int.tmod (wrap64 (x9_2 + a1)) a2) false _ A22.out).mono ?_); rintro e w' ⟨rfl, ⟨nd, rfl⟩⟩; refine ⟨_, rfl, ?_⟩))
          go_roundg k2
          case measure => have := HJ3.out; have := HK2.out; omega
          case rel => exact ⟨(x8_2), (wrap64 (x9_2 + 1)), (by first | rfl | (simp; done) | (simp [*]; done)), (by first | rfl | (simp; done) | (simp [*]; done)), H', ⟨by have := HJ3.out; have := HK2.out; omega⟩, by repeat (first | exact Drawn0.refl _ | apply Drawn0.step)⟩
       ·
        rw [if_neg c20] at H
        have c20b0 : decide (x9_2 < a2) = false := decide_eq_false c20
        clear c20
        simp only [Option.some.injEq, Prod.mk.injEq] at H
        obtain ⟨rfl, rfl⟩ := H
        go_wp2
        go_ret2
        exact ⟨by first | rfl | (simp; done) | (simp [*]; done), by repeat (first | exact Drawn0.refl _ | apply Drawn0.step)⟩
    ·
     replace c19 := Bool.eq_false_iff.mpr c19
     subst c19
     have H1 : (some (0, 4)) = some (r1, r2) := by rw [if_neg (show ¬ (false = true) by decide)] at H; exact H
     clear H
     have H := H1
     clear H1
     simp only [Option.some.injEq, Prod.mk.injEq] at H
     obtain ⟨rfl, rfl⟩ := H
     go_wp2_with (first | ((with_reducible refine gate_callee (f := 78) rfl ?_); refine goesL_ (some 43) rfl rfl Tryd.func78 (by kernel_rfl) rfl #[.int .u64 a0, .int .i64 a2] rfl (by (try simp only [List.map_toArray, List.map_cons, List.map_nil]); first | done | rfl | (simp only [List.length_drop, List.length_take]; rfl)) ?_; (with_reducible refine (cleatref01_Small.calls kj3 a0 a2 false _ A18.out).mono ?_); rintro e w' ⟨rfl, ⟨nd, rfl⟩⟩; refine ⟨_, rfl, ?_⟩))
     go_ret2
     exact ⟨by first | rfl | (simp; done) | (simp [*]; done), by repeat (first | exact Drawn0.refl _ | apply Drawn0.step)⟩
def cleatref02_row.l0 : Nat → Int → Int → Int → Int → Int → Option (Int)
 | 0, _, _, _, _, _ => none
 | k + 1, x0, x1, x2, x7, x8 => if x8 < x0 then ((cleatref01_Power.f k x8).bind fun t179 => (cleatref02_row.l0 k x0 x1 x2 (IntKind.u64.wrap (x7 + t179)) (wrap64 (x8 + 1)))) else ((cleatref01_Rotate.f k x7 x1 x2).bind fun bt180 => (some bt180.1))
def cleatref02_row.f (k : Nat) (a0 : Int) (a1 : Int) (a2 : Int) : Option (Int) := cleatref02_row.l0 k a0 a1 a2 0 0
theorem cleatref02_row.mono_l : ∀ k, (∀ y0 y1 y2 y3 y4, LeO (cleatref02_row.l0 k y0 y1 y2 y3 y4) (cleatref02_row.l0 (k + 1) y0 y1 y2 y3 y4))
 | 0 => fun _ _ _ _ _ r h => by simp [cleatref02_row.l0] at h
 | k + 1 => by
  have ih0 := cleatref02_row.mono_l k
  ·
   intro y0 y1 y2 y3 y4
   unfold cleatref02_row.l0
   repeat' first
   | (with_reducible exact ih0 _ _ _ _ _)
   | (with_reducible exact cleatref01_Power.mono _ _)
   | (with_reducible exact cleatref01_Rotate.mono _ _ _ _)
   | (with_reducible exact LeO.refl _)
   | (with_reducible exact LeO.none _)
   | (with_reducible refine LeO.ite ?_ ?_)
   | (with_reducible refine LeO.bind ?_ (fun _ => ?_))
   | exact ih0 _ _ _ _ _
   | exact cleatref01_Power.mono _ _
   | exact cleatref01_Rotate.mono _ _ _ _
   | exact LeO.none _
   | refine LeO.ite ?_ ?_
   | refine LeO.bind ?_ (fun _ => ?_)
theorem cleatref02_row.mono : ∀ a0 a1 a2 k, LeO (cleatref02_row.f k a0 a1 a2) (cleatref02_row.f (k + 1) a0 a1 a2) := by
 intro a0 a1 a2 k
 have ih0 := cleatref02_row.mono_l k
 unfold cleatref02_row.f
 repeat' first
   | (with_reducible exact ih0 _ _ _ _ _)
   | (with_reducible exact cleatref01_Power.mono _ _)
   | (with_reducible exact cleatref01_Rotate.mono _ _ _ _)
   | (with_reducible exact LeO.refl _)
   | (with_reducible exact LeO.none _)
   | (with_reducible refine LeO.ite ?_ ?_)
   | (with_reducible refine LeO.bind ?_ (fun _ => ?_))
   | exact ih0 _ _ _ _ _
   | exact cleatref01_Power.mono _ _
   | exact cleatref01_Rotate.mono _ _ _ _
   | exact LeO.none _
   | refine LeO.ite ?_ ?_
   | refine LeO.bind ?_ (fun _ => ?_)
set_option maxHeartbeats 8000000 in
set_option maxRecDepth 100000 in
theorem cleatref02_row.calls (k : Nat) (a0 : Int) (a1 : Int) (a2 : Int) (r : Int) (w : World) (h : cleatref02_row.f k a0 a1 a2 = some r) :
    Calls Tryd.prog 48 #[.int .i64 a0, .int .i64 a1, .int .i64 a2] w fun e w' => e = .returned (.int .u64 r) ∧ Drawn0 w w' := by
 have H : (cleatref02_row.l0 k a0 a1 a2 0 0) = some r := h
 clear h
 have H' := Aside0.mk H
 clear H
 go_enter Tryd.func48, Tryd.ntmps48
 go_wp2
 go_loopg [7, 8] k (fun kq v7 v8 w' => ∃ (x7_1 : Int) (x8_1 : Int), v7 = .int .u64 x7_1 ∧ v8 = .int .i64 x8_1 ∧ Aside0 (cleatref02_row.l0 kq a0 a1 a2 x7_1 x8_1 = some r) ∧ Aside0 (kq ≤ k) ∧ Drawn0 w w')
 case atStart => exact ⟨(0), (0), (by first | rfl | (simp; done) | (simp [*]; done)), (by first | rfl | (simp; done) | (simp [*]; done)), H', ⟨Nat.le_refl _⟩, by repeat (first | exact Drawn0.refl _ | apply Drawn0.step)⟩
 case round =>
  clear H'
  try clear p2
  obtain ⟨x7_1, x8_1, rfl, rfl, HA, HK1, ⟨m1, rfl⟩⟩ := hrel
  cases gk with
  | zero => exact absurd HA.out (by simp [cleatref02_row.l0])
  | succ k1 =>
   have H := HA.out
   clear HA
   simp only [cleatref02_row.l0] at H
   by_cases c4 : x8_1 < a0
   ·
    rw [if_pos c4] at H
    have c4b0 : decide (x8_1 < a0) = true := decide_eq_true c4
    clear c4
    replace H := Option.bind_eq_some_iff.mp H
    obtain ⟨t179, A50, H⟩ := H
    replace H : (cleatref02_row.l0 k1 a0 a1 a2 (IntKind.u64.wrap (x7_1 + t179)) (wrap64 (x8_1 + 1))) = some r := H
    have A5 := Aside0.mk A50
    clear A50
    have H' := Aside0.mk H
    clear H
    go_wp2_with (first | ((with_reducible refine gate_callee (f := 70) rfl ?_); refine goesL_ (some 18) rfl rfl Tryd.func70 (by kernel_rfl) rfl #[.int .i64 x8_1] rfl (by (try simp only [List.map_toArray, List.map_cons, List.map_nil]); first | done | rfl | (simp only [List.length_drop, List.length_take]; rfl)) ?_; (with_reducible refine (cleatref01_Power.calls k1 x8_1 t179 _ A5.out).mono ?_); rintro e w' ⟨rfl, ⟨nd, rfl⟩⟩; refine ⟨_, rfl, ?_⟩))
    go_roundg k1
    case measure => have := HK1.out; omega
    case rel => exact ⟨(IntKind.u64.wrap (x7_1 + t179)), (wrap64 (x8_1 + 1)), (by first | rfl | (simp; done) | (simp [*]; done)), (by first | rfl | (simp; done) | (simp [*]; done)), H', ⟨by have := HK1.out; omega⟩, by repeat (first | exact Drawn0.refl _ | apply Drawn0.step)⟩
   ·
    rw [if_neg c4] at H
    have c4b0 : decide (x8_1 < a0) = false := decide_eq_false c4
    clear c4
    replace H := Option.bind_eq_some_iff.mp H
    obtain ⟨⟨t180, t181⟩, A60, H⟩ := H
    replace H : (some t180) = some r := H
    have A6 := Aside0.mk A60
    clear A60
    obtain rfl := Option.some.inj H
    go_wp2_with (first | ((with_reducible refine gate_callee (f := 71) rfl ?_); refine goesL_ (some 24) rfl rfl Tryd.func71 (by kernel_rfl) rfl #[.int .u64 x7_1, .int .i64 a1, .int .i64 a2] rfl (by (try simp only [List.map_toArray, List.map_cons, List.map_nil]); first | done | rfl | (simp only [List.length_drop, List.length_take]; rfl)) ?_; (with_reducible refine (cleatref01_Rotate.calls k1 x7_1 a1 a2 t180 t181 _ A6.out).mono ?_); rintro e w' ⟨rfl, ⟨nd, rfl⟩⟩; refine ⟨_, rfl, ?_⟩))
    go_ret
    exact ⟨by first | rfl | (simp; done) | (simp [*]; done), by repeat (first | exact Drawn0.refl _ | apply Drawn0.step)⟩
mutual
def cleatref02_Encode.l0 : Nat → Int → Int → Int → Int → Option (Int × Int × Int × Int)
 | 0, _, _, _, _ => none
 | k + 1, x0, x6, x7, x8 => if x8 < x6 then (if x7 > 0 then (cleatref02_Encode.j1 k x0 x6 x7 x8 (decide (x7 < x6))) else (cleatref02_Encode.j1 k x0 x6 x7 x8 false)) else (cleatref02_Encode.j1 k x0 x6 x7 x8 false)
def cleatref02_Encode.j1 : Nat → Int → Int → Int → Int → Bool → Option (Int × Int × Int × Int)
 | 0, _, _, _, _, _ => none
 | k + 1, x0, x6, x7, x8, x26 => if x26 = true then ((cleatref02_row.f k x7 x8 x6).bind fun t185 => ((cleatref01_Low.f k x0 x6).bind fun t186 => (if t185 = t186 then (if x6 = 64 then (some (1, x8, wrap64 (x7 - 1), 0)) else (some (0, x8, wrap64 ((wrap64 ((wrap64 (x7 - 1)) + 64)) - (wrap64 (2 * x6))), 0))) else (cleatref02_Encode.l0 k x0 x6 x7 (wrap64 (x8 + 1)))))) else (some (0, 0, 0, 3))
end
def cleatref02_Encode.f (k : Nat) (a0 : Int) : Option (Int × Int × Int × Int) := (cleatref02_Size.f k a0).bind fun t182 => ((cleatref01_Low.f k a0 t182).bind fun t183 => ((cleatref02_Ones.f k t183).bind fun t184 => (cleatref02_Encode.l0 k a0 t182 t184 0)))
theorem cleatref02_Encode.mono_l : ∀ k, (∀ y0 y1 y2 y3, LeO (cleatref02_Encode.l0 k y0 y1 y2 y3) (cleatref02_Encode.l0 (k + 1) y0 y1 y2 y3)) ∧ (∀ y0 y1 y2 y3 y4, LeO (cleatref02_Encode.j1 k y0 y1 y2 y3 y4) (cleatref02_Encode.j1 (k + 1) y0 y1 y2 y3 y4))
 | 0 => ⟨fun _ _ _ _ r h => by simp [cleatref02_Encode.l0] at h, fun _ _ _ _ _ r h => by simp [cleatref02_Encode.j1] at h⟩
 | k + 1 => by
  obtain ⟨ih0, ih1⟩ := cleatref02_Encode.mono_l k
  refine ⟨?_, ?_⟩
  ·
   intro y0 y1 y2 y3
   unfold cleatref02_Encode.l0
   repeat' first
   | (with_reducible exact ih0 _ _ _ _)
   | (with_reducible exact ih1 _ _ _ _ _)
   | (with_reducible exact cleatref01_Low.mono _ _ _)
   | (with_reducible exact cleatref02_Ones.mono _ _)
   | (with_reducible exact cleatref02_Size.mono _ _)
   | (with_reducible exact cleatref02_row.mono _ _ _ _)
   | (with_reducible exact LeO.refl _)
   | (with_reducible exact LeO.none _)
   | (with_reducible refine LeO.ite ?_ ?_)
   | (with_reducible refine LeO.bind ?_ (fun _ => ?_))
   | exact ih0 _ _ _ _
   | exact ih1 _ _ _ _ _
   | exact cleatref01_Low.mono _ _ _
   | exact cleatref02_Ones.mono _ _
   | exact cleatref02_Size.mono _ _
   | exact cleatref02_row.mono _ _ _ _
   | exact LeO.none _
   | refine LeO.ite ?_ ?_
   | refine LeO.bind ?_ (fun _ => ?_)
  ·
   intro y0 y1 y2 y3 y4
   unfold cleatref02_Encode.j1
   repeat' first
   | (with_reducible exact ih0 _ _ _ _)
   | (with_reducible exact ih1 _ _ _ _ _)
   | (with_reducible exact cleatref01_Low.mono _ _ _)
   | (with_reducible exact cleatref02_Ones.mono _ _)
   | (with_reducible exact cleatref02_Size.mono _ _)
   | (with_reducible exact cleatref02_row.mono _ _ _ _)
   | (with_reducible exact LeO.refl _)
   | (with_reducible exact LeO.none _)
   | (with_reducible refine LeO.ite ?_ ?_)
   | (with_reducible refine LeO.bind ?_ (fun _ => ?_))
   | exact ih0 _ _ _ _
   | exact ih1 _ _ _ _ _
   | exact cleatref01_Low.mono _ _ _
   | exact cleatref02_Ones.mono _ _
   | exact cleatref02_Size.mono _ _
   | exact cleatref02_row.mono _ _ _ _
   | exact LeO.none _
   | refine LeO.ite ?_ ?_
   | refine LeO.bind ?_ (fun _ => ?_)
theorem cleatref02_Encode.mono : ∀ a0 k, LeO (cleatref02_Encode.f k a0) (cleatref02_Encode.f (k + 1) a0) := by
 intro a0 k
 obtain ⟨ih0, ih1⟩ := cleatref02_Encode.mono_l k
 unfold cleatref02_Encode.f
 repeat' first
   | (with_reducible exact ih0 _ _ _ _)
   | (with_reducible exact ih1 _ _ _ _ _)
   | (with_reducible exact cleatref01_Low.mono _ _ _)
   | (with_reducible exact cleatref02_Ones.mono _ _)
   | (with_reducible exact cleatref02_Size.mono _ _)
   | (with_reducible exact cleatref02_row.mono _ _ _ _)
   | (with_reducible exact LeO.refl _)
   | (with_reducible exact LeO.none _)
   | (with_reducible refine LeO.ite ?_ ?_)
   | (with_reducible refine LeO.bind ?_ (fun _ => ?_))
   | exact ih0 _ _ _ _
   | exact ih1 _ _ _ _ _
   | exact cleatref01_Low.mono _ _ _
   | exact cleatref02_Ones.mono _ _
   | exact cleatref02_Size.mono _ _
   | exact cleatref02_row.mono _ _ _ _
   | exact LeO.none _
   | refine LeO.ite ?_ ?_
   | refine LeO.bind ?_ (fun _ => ?_)
set_option maxHeartbeats 8000000 in
set_option maxRecDepth 100000 in
theorem cleatref02_Encode.calls (k : Nat) (a0 : Int) (r1 : Int) (r2 : Int) (r3 : Int) (r4 : Int) (w : World) (h : cleatref02_Encode.f k a0 = some (r1, r2, r3, r4)) :
    Calls Tryd.prog 17 #[.int .u64 a0] w fun e w' => e = .returned (.tuple #[.int .i64 r1, .int .i64 r2, .int .i64 r3, .int .i64 r4]) ∧ Drawn0 w w' := by
 have H : ((cleatref02_Size.f k a0).bind fun t182 => ((cleatref01_Low.f k a0 t182).bind fun t183 => ((cleatref02_Ones.f k t183).bind fun t184 => (cleatref02_Encode.l0 k a0 t182 t184 0)))) = some (r1, r2, r3, r4) := h
 clear h
 replace H := Option.bind_eq_some_iff.mp H
 obtain ⟨t182, A20, H⟩ := H
 replace H : ((cleatref01_Low.f k a0 t182).bind fun t183 => ((cleatref02_Ones.f k t183).bind fun t184 => (cleatref02_Encode.l0 k a0 t182 t184 0))) = some (r1, r2, r3, r4) := H
 have A2 := Aside0.mk A20
 clear A20
 replace H := Option.bind_eq_some_iff.mp H
 obtain ⟨t183, A30, H⟩ := H
 replace H : ((cleatref02_Ones.f k t183).bind fun t184 => (cleatref02_Encode.l0 k a0 t182 t184 0)) = some (r1, r2, r3, r4) := H
 have A3 := Aside0.mk A30
 clear A30
 replace H := Option.bind_eq_some_iff.mp H
 obtain ⟨t184, A40, H⟩ := H
 replace H : (cleatref02_Encode.l0 k a0 t182 t184 0) = some (r1, r2, r3, r4) := H
 have A4 := Aside0.mk A40
 clear A40
 have H' := Aside0.mk H
 clear H
 go_enter Tryd.func17, Tryd.ntmps17
 go_wp2_with (first | ((with_reducible refine gate_callee (f := 22) rfl ?_); refine goesL_ (some 10) rfl rfl Tryd.func22 (by kernel_rfl) rfl #[.int .u64 a0] rfl (by (try simp only [List.map_toArray, List.map_cons, List.map_nil]); first | done | rfl | (simp only [List.length_drop, List.length_take]; rfl)) ?_; (with_reducible refine (cleatref02_Size.calls k a0 t182 _ A2.out).mono ?_); rintro e w' ⟨rfl, ⟨nd, rfl⟩⟩; refine ⟨_, rfl, ?_⟩) | ((with_reducible refine gate_callee (f := 50) rfl ?_); refine goesL_ (some 13) rfl rfl Tryd.func50 (by kernel_rfl) rfl #[.int .u64 a0, .int .i64 t182] rfl (by (try simp only [List.map_toArray, List.map_cons, List.map_nil]); first | done | rfl | (simp only [List.length_drop, List.length_take]; rfl)) ?_; (with_reducible refine (cleatref01_Low.calls k a0 t182 t183 _ A3.out).mono ?_); rintro e w' ⟨rfl, ⟨nd, rfl⟩⟩; refine ⟨_, rfl, ?_⟩) | ((with_reducible refine gate_callee (f := 24) rfl ?_); refine goesL_ (some 14) rfl rfl Tryd.func24 (by kernel_rfl) rfl #[.int .u64 t183] rfl (by (try simp only [List.map_toArray, List.map_cons, List.map_nil]); first | done | rfl | (simp only [List.length_drop, List.length_take]; rfl)) ?_; (with_reducible refine (cleatref02_Ones.calls k t183 t184 _ A4.out).mono ?_); rintro e w' ⟨rfl, ⟨nd, rfl⟩⟩; refine ⟨_, rfl, ?_⟩))
 go_loopg [8] k (fun kq v8 w' => ∃ (x8_1 : Int), v8 = .int .i64 x8_1 ∧ Aside0 (cleatref02_Encode.l0 kq a0 t182 t184 x8_1 = some (r1, r2, r3, r4)) ∧ Aside0 (kq ≤ k) ∧ Drawn0 w w')
 case atStart => exact ⟨(0), (by first | rfl | (simp; done) | (simp [*]; done)), H', ⟨Nat.le_refl _⟩, by repeat (first | exact Drawn0.refl _ | apply Drawn0.step)⟩
 case round =>
  clear H'
  try clear c1
  try clear c2
  try clear p2
  obtain ⟨x8_1, rfl, HA, HK1, ⟨m1, rfl⟩⟩ := hrel
  cases gk with
  | zero => exact absurd HA.out (by simp [cleatref02_Encode.l0])
  | succ k1 =>
   have H := HA.out
   clear HA
   simp only [cleatref02_Encode.l0] at H
   have HC5 := Aside0.mk H
   clear H
   go_upto_region 4 with (fail)
   go_cut [26] (fun v26 wc => ∃ (kq : Nat) (x26_4 : Bool), v26 = .bool x26_4 ∧ Aside0 (cleatref02_Encode.j1 kq a0 t182 t184 x8_1 x26_4 = some (r1, r2, r3, r4)) ∧ Aside0 (kq ≤ k1) ∧ Drawn0 w wc)
   case first =>
    have H := HC5.out
    clear HC5
    (try (rw [drewN_self w]; have n0_ := fun n_ => pw_below_drewN HB.out n_; clear HB; generalize hq_ : World.drewN w _ = w; have HB := Aside0.mk (hq_ ▸ n0_ _); clear hq_ n0_))
    by_cases c6 : x8_1 < t182
    ·
     rw [if_pos c6] at H
     have c6b0 : decide (x8_1 < t182) = true := decide_eq_true c6
     clear c6
     (first | rw [c6b0] | (simp only [i64_w, i32_w]; rw [c6b0]) | skip)
     by_cases c7 : t184 > 0
     ·
      rw [if_pos c7] at H
      have c7b0 : decide (0 < t184) = true := decide_eq_true c7
      clear c7
      have H' := Aside0.mk H
      clear H
      go_wp2
      go_meet
      case rel => exact ⟨_, (decide (t184 < t182)), (by first | rfl | (simp; done) | (simp [*]; done)), H', ⟨by have := HK1.out; first | omega | exact Nat.le_refl _⟩, by repeat (first | exact Drawn0.refl _ | apply Drawn0.step)⟩
     ·
      rw [if_neg c7] at H
      have c7b0 : decide (0 < t184) = false := decide_eq_false c7
      clear c7
      have H' := Aside0.mk H
      clear H
      go_wp2
      go_meet
      case rel => exact ⟨_, (false), (by first | rfl | (simp; done) | (simp [*]; done)), H', ⟨by have := HK1.out; first | omega | exact Nat.le_refl _⟩, by repeat (first | exact Drawn0.refl _ | apply Drawn0.step)⟩
    ·
     rw [if_neg c6] at H
     have c6b0 : decide (x8_1 < t182) = false := decide_eq_false c6
     clear c6
     (first | rw [c6b0] | (simp only [i64_w, i32_w]; rw [c6b0]) | skip)
     have H' := Aside0.mk H
     clear H
     go_wp2
     go_meet
     case rel => exact ⟨_, (false), (by first | rfl | (simp; done) | (simp [*]; done)), H', ⟨by have := HK1.out; first | omega | exact Nat.le_refl _⟩, by repeat (first | exact Drawn0.refl _ | apply Drawn0.step)⟩
   case rest =>
    clear HC5
    try clear c1
    try clear c2
    try clear p2
    try clear c5
    try clear c6
    try clear c6b0
    try clear c7
    try clear c7b0
    try clear p2
    obtain ⟨kq, x26_4, rfl, HA, HJ4, ⟨mc4, rfl⟩⟩ := hcut
    cases kq with
    | zero => exact absurd HA.out (by simp [cleatref02_Encode.j1])
    | succ kj4 =>
     have H := HA.out
     clear HA
     simp only [cleatref02_Encode.j1] at H
     by_cases c8 : x26_4 = true
     ·
      subst c8
      have H1 : ((cleatref02_row.f kj4 t184 x8_1 t182).bind fun t185 => ((cleatref01_Low.f kj4 a0 t182).bind fun t186 => (if t185 = t186 then (if t182 = 64 then (some (1, x8_1, wrap64 (t184 - 1), 0)) else (some (0, x8_1, wrap64 ((wrap64 ((wrap64 (t184 - 1)) + 64)) - (wrap64 (2 * t182))), 0))) else (cleatref02_Encode.l0 kj4 a0 t182 t184 (wrap64 (x8_1 + 1)))))) = some (r1, r2, r3, r4) := by rw [if_pos rfl] at H; exact H
      clear H
      have H := H1
      clear H1
      replace H := Option.bind_eq_some_iff.mp H
      obtain ⟨t185, A90, H⟩ := H
      replace H : ((cleatref01_Low.f kj4 a0 t182).bind fun t186 => (if t185 = t186 then (if t182 = 64 then (some (1, x8_1, wrap64 (t184 - 1), 0)) else (some (0, x8_1, wrap64 ((wrap64 ((wrap64 (t184 - 1)) + 64)) - (wrap64 (2 * t182))), 0))) else (cleatref02_Encode.l0 kj4 a0 t182 t184 (wrap64 (x8_1 + 1))))) = some (r1, r2, r3, r4) := H
      have A9 := Aside0.mk A90
      clear A90
      replace H := Option.bind_eq_some_iff.mp H
      obtain ⟨t186, A100, H⟩ := H
      replace H : (if t185 = t186 then (if t182 = 64 then (some (1, x8_1, wrap64 (t184 - 1), 0)) else (some (0, x8_1, wrap64 ((wrap64 ((wrap64 (t184 - 1)) + 64)) - (wrap64 (2 * t182))), 0))) else (cleatref02_Encode.l0 kj4 a0 t182 t184 (wrap64 (x8_1 + 1)))) = some (r1, r2, r3, r4) := H
      have A10 := Aside0.mk A100
      clear A100
      by_cases c11 : t185 = t186
      ·
       rw [if_pos c11] at H
       have c11b0 : (t185 == t186) = true := beq_iff_eq.mpr c11
       have c11b1 : (t185 != t186) = false := bne_eq_false_iff_eq.mpr c11
       clear c11
       by_cases c12 : t182 = 64
       ·
        rw [if_pos c12] at H
        have c12b0 : (t182 == 64) = true := beq_iff_eq.mpr c12
        have c12b1 : (t182 != 64) = false := bne_eq_false_iff_eq.mpr c12
        clear c12
        simp only [Option.some.injEq, Prod.mk.injEq] at H
        obtain ⟨rfl, rfl, rfl, rfl⟩ := H
        go_wp2_with (first | ((with_reducible refine gate_callee (f := 48) rfl ?_); refine goesL_ (some 32) rfl rfl Tryd.func48 (by kernel_rfl) rfl #[.int .i64 t184, .int .i64 x8_1, .int .i64 t182] rfl (by (try simp only [List.map_toArray, List.map_cons, List.map_nil]); first | done | rfl | (simp only [List.length_drop, List.length_take]; rfl)) ?_; (with_reducible refine (cleatref02_row.calls kj4 t184 x8_1 t182 t185 _ A9.out).mono ?_); rintro e w' ⟨rfl, ⟨nd, rfl⟩⟩; refine ⟨_, rfl, ?_⟩) | ((with_reducible refine gate_callee (f := 50) rfl ?_); refine goesL_ (some 35) rfl rfl Tryd.func50 (by kernel_rfl) rfl #[.int .u64 a0, .int .i64 t182] rfl (by (try simp only [List.map_toArray, List.map_cons, List.map_nil]); first | done | rfl | (simp only [List.length_drop, List.length_take]; rfl)) ?_; (with_reducible refine (cleatref01_Low.calls kj4 a0 t182 t186 _ A10.out).mono ?_); rintro e w' ⟨rfl, ⟨nd, rfl⟩⟩; refine ⟨_, rfl, ?_⟩))
        refine bodyPost_ret (results_list (rs := [.tmp 2, .tmp 3, .tmp 4, .tmp 5]) rfl (by simp) (.tmp (.tmp (.tmp (.tmp .nil))))) rfl ?_
        exact ⟨by first | rfl | (simp; done) | (simp [*]; done), by repeat (first | exact Drawn0.refl _ | apply Drawn0.step)⟩
       ·
        rw [if_neg c12] at H
        have c12b0 : (t182 == 64) = false := beq_eq_false_iff_ne.mpr c12
        have c12b1 : (t182 != 64) = true := bne_iff_ne.mpr c12
        simp only [Option.some.injEq, Prod.mk.injEq] at H
        obtain ⟨rfl, rfl, rfl, rfl⟩ := H
        go_wp2_with (first | ((with_reducible refine gate_callee (f := 48) rfl ?_); refine goesL_ (some 32) rfl rfl Tryd.func48 (by kernel_rfl) rfl #[.int .i64 t184, .int .i64 x8_1, .int .i64 t182] rfl (by (try simp only [List.map_toArray, List.map_cons, List.map_nil]); first | done | rfl | (simp only [List.length_drop, List.length_take]; rfl)) ?_; (with_reducible refine (cleatref02_row.calls kj4 t184 x8_1 t182 t185 _ A9.out).mono ?_); rintro e w' ⟨rfl, ⟨nd, rfl⟩⟩; refine ⟨_, rfl, ?_⟩) | ((with_reducible refine gate_callee (f := 50) rfl ?_); refine goesL_ (some 35) rfl rfl Tryd.func50 (by kernel_rfl) rfl #[.int .u64 a0, .int .i64 t182] rfl (by (try simp only [List.map_toArray, List.map_cons, List.map_nil]); first | done | rfl | (simp only [List.length_drop, List.length_take]; rfl)) ?_; (with_reducible refine (cleatref01_Low.calls kj4 a0 t182 t186 _ A10.out).mono ?_); rintro e w' ⟨rfl, ⟨nd, rfl⟩⟩; refine ⟨_, rfl, ?_⟩))
        refine bodyPost_ret (results_list (rs := [.tmp 2, .tmp 3, .tmp 4, .tmp 5]) rfl (by simp) (.tmp (.tmp (.tmp (.tmp .nil))))) rfl ?_
        exact ⟨by first | rfl | (simp; done) | (simp [*]; done), by repeat (first | exact Drawn0.refl _ | apply Drawn0.step)⟩
      ·
       rw [if_neg c11] at H
       have c11b0 : (t185 == t186) = false := beq_eq_false_iff_ne.mpr c11
       have c11b1 : (t185 != t186) = true := bne_iff_ne.mpr c11
       have H' := Aside0.mk H
       clear H
       go_wp2_with (first | ((with_reducible refine gate_callee (f := 48) rfl ?_); refine goesL_ (some 32) rfl rfl Tryd.func48 (by kernel_rfl) rfl #[.int .i64 t184, .int .i64 x8_1, .int .i64 t182] rfl (by (try simp only [List.map_toArray, List.map_cons, List.map_nil]); first | done | rfl | (simp only [List.length_drop, List.length_take]; rfl)) ?_; (with_reducible refine (cleatref02_row.calls kj4 t184 x8_1 t182 t185 _ A9.out).mono ?_); rintro e w' ⟨rfl, ⟨nd, rfl⟩⟩; refine ⟨_, rfl, ?_⟩) | ((with_reducible refine gate_callee (f := 50) rfl ?_); refine goesL_ (some 35) rfl rfl Tryd.func50 (by kernel_rfl) rfl #[.int .u64 a0, .int .i64 t182] rfl (by (try simp only [List.map_toArray, List.map_cons, List.map_nil]); first | done | rfl | (simp only [List.length_drop, List.length_take]; rfl)) ?_; (with_reducible refine (cleatref01_Low.calls kj4 a0 t182 t186 _ A10.out).mono ?_); rintro e w' ⟨rfl, ⟨nd, rfl⟩⟩; refine ⟨_, rfl, ?_⟩))
       go_roundg kj4
       case measure => have := HK1.out; have := HJ4.out; omega
       case rel => exact ⟨(wrap64 (x8_1 + 1)), (by first | rfl | (simp; done) | (simp [*]; done)), H', ⟨by have := HK1.out; have := HJ4.out; omega⟩, by repeat (first | exact Drawn0.refl _ | apply Drawn0.step)⟩
     ·
      replace c8 := Bool.eq_false_iff.mpr c8
      subst c8
      have H1 : (some (0, 0, 0, 3)) = some (r1, r2, r3, r4) := by rw [if_neg (show ¬ (false = true) by decide)] at H; exact H
      clear H
      have H := H1
      clear H1
      simp only [Option.some.injEq, Prod.mk.injEq] at H
      obtain ⟨rfl, rfl, rfl, rfl⟩ := H
      go_wp2
      refine bodyPost_ret (results_list (rs := [.tmp 2, .tmp 3, .tmp 4, .tmp 5]) rfl (by simp) (.tmp (.tmp (.tmp (.tmp .nil))))) rfl ?_
      exact ⟨by first | rfl | (simp; done) | (simp [*]; done), by repeat (first | exact Drawn0.refl _ | apply Drawn0.step)⟩
def cleatref02_Is.f (k : Nat) (a0 : Int) : Option (Bool) := (cleatref02_Encode.f k a0).bind fun bt187 => (some (bt187.2.2.2 == 0))
theorem cleatref02_Is.mono : ∀ a0 k, LeO (cleatref02_Is.f k a0) (cleatref02_Is.f (k + 1) a0) := by
 intro a0 k
 unfold cleatref02_Is.f
 repeat' first
   | (with_reducible exact cleatref02_Encode.mono _ _)
   | (with_reducible exact LeO.refl _)
   | (with_reducible exact LeO.none _)
   | (with_reducible refine LeO.ite ?_ ?_)
   | (with_reducible refine LeO.bind ?_ (fun _ => ?_))
   | exact cleatref02_Encode.mono _ _
   | exact LeO.none _
   | refine LeO.ite ?_ ?_
   | refine LeO.bind ?_ (fun _ => ?_)
set_option maxHeartbeats 8000000 in
set_option maxRecDepth 100000 in
theorem cleatref02_Is.calls (k : Nat) (a0 : Int) (r : Bool) (w : World) (h : cleatref02_Is.f k a0 = some r) :
    Calls Tryd.prog 20 #[.int .u64 a0] w fun e w' => e = .returned (.bool r) ∧ Drawn0 w w' := by
 have H : ((cleatref02_Encode.f k a0).bind fun bt187 => (some (bt187.2.2.2 == 0))) = some r := h
 clear h
 replace H := Option.bind_eq_some_iff.mp H
 obtain ⟨⟨t187, t188, t189, t190⟩, A20, H⟩ := H
 replace H : (some (t190 == 0)) = some r := H
 have A2 := Aside0.mk A20
 clear A20
 obtain rfl := Option.some.inj H
 go_enter Tryd.func20, Tryd.ntmps20
 go_wp2_with (first | ((with_reducible refine gate_callee (f := 17) rfl ?_); refine goesL_ (some 9) rfl rfl Tryd.func17 (by kernel_rfl) rfl #[.int .u64 a0] rfl (by (try simp only [List.map_toArray, List.map_cons, List.map_nil]); first | done | rfl | (simp only [List.length_drop, List.length_take]; rfl)) ?_; (with_reducible refine (cleatref02_Encode.calls k a0 t187 t188 t189 t190 _ A2.out).mono ?_); rintro e w' ⟨rfl, ⟨nd, rfl⟩⟩; refine ⟨_, rfl, ?_⟩))
 go_ret
 exact ⟨by first | rfl | (simp; done) | (simp [*]; done), by repeat (first | exact Drawn0.refl _ | apply Drawn0.step)⟩
end Go.Proofs.YtbklmlbmbnnjkaaDoor.R
