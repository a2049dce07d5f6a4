/- Written for this claim by a program of this session (drive.py, over the print of the kit): Lean functions with the answers of Go functions, and the proofs that the Go code comes to these answers, under no condition but the readings of the arguments that each theorem names. -/
import Derived.Test.YtfajpcinmpbhgaaDoorPx0
namespace Go.Proofs.YtfajpcinmpbhgaaDoor.P
open Go.RowKit Go.Proofs.YtfajpcinmpbhgaaDoorW.PrintWords Go.Proofs.YtfajpcinmpbhgaaDoorW.PrintLast Go.Proofs.YtfajpcinmpbhgaaDoorW.PrintMore
attribute [local go_sem] max2_int min2_int max_two min_two max_three min_three max_four min_four   -- for this text's walks alone
set_option linter.unusedVariables false
set_option linter.unusedSimpArgs false

/-! ### cleatref10_Signed: function 11 -/
mutual
def cleatref10_Signed.j0 : Nat → Bool → Int → Int → Bool → Option (Int × Int)
  | 0, _, _, _, _ => none
  | k + 1, x0, x1, x6, x13 => if x13 = true then (some (wrap64 (x1), 0)) else (if x0 = true then (cleatref10_Signed.j1 k x0 x1 x6 (decide (x1 < x6))) else (cleatref10_Signed.j1 k x0 x1 x6 false))
def cleatref10_Signed.j1 : Nat → Bool → Int → Int → Bool → Option (Int × Int)
  | 0, _, _, _, _ => none
  | k + 1, x0, x1, x6, x21 => if x21 = true then (some (wrap64 (-(wrap64 (x1))), 0)) else (if x0 = true then (if x1 = x6 then (some ((-9223372036854775808), 0)) else (some (0, 4))) else (some (0, 4)))
end
def cleatref10_Signed.f (k : Nat) (a0 : Bool) (a1 : Int) : Option (Int × Int) := if a0 = true then (cleatref10_Signed.j0 k a0 a1 9223372036854775808 false) else (cleatref10_Signed.j0 k a0 a1 9223372036854775808 (decide (a1 < 9223372036854775808)))
theorem cleatref10_Signed.mono_l : ∀ k, (∀ y0 y1 y2 y3, LeO (cleatref10_Signed.j0 k y0 y1 y2 y3) (cleatref10_Signed.j0 (k + 1) y0 y1 y2 y3)) ∧ (∀ y0 y1 y2 y3, LeO (cleatref10_Signed.j1 k y0 y1 y2 y3) (cleatref10_Signed.j1 (k + 1) y0 y1 y2 y3))
  | 0 => ⟨fun _ _ _ _ r h => by simp [cleatref10_Signed.j0] at h, fun _ _ _ _ r h => by simp [cleatref10_Signed.j1] at h⟩
  | k + 1 => by
    obtain ⟨ih0, ih1⟩ := cleatref10_Signed.mono_l k
    refine ⟨?_, ?_⟩
    · intro y0 y1 y2 y3
      unfold cleatref10_Signed.j0
      repeat' first
      | (with_reducible exact ih0 _ _ _ _)
      | (with_reducible exact ih1 _ _ _ _)
      | (with_reducible exact LeO.refl _)
      | (with_reducible exact LeO.none _)
      | (with_reducible refine LeO.ite ?_ ?_)
      | (with_reducible refine LeO.bind ?_ (fun _ => ?_))
      | exact ih0 _ _ _ _
      | exact ih1 _ _ _ _
      | exact LeO.none _
      | refine LeO.ite ?_ ?_
      | refine LeO.bind ?_ (fun _ => ?_)
    · intro y0 y1 y2 y3
      unfold cleatref10_Signed.j1
      repeat' first
      | (with_reducible exact ih0 _ _ _ _)
      | (with_reducible exact ih1 _ _ _ _)
      | (with_reducible exact LeO.refl _)
      | (with_reducible exact LeO.none _)
      | (with_reducible refine LeO.ite ?_ ?_)
      | (with_reducible refine LeO.bind ?_ (fun _ => ?_))
      | exact ih0 _ _ _ _
      | exact ih1 _ _ _ _
      | exact LeO.none _
      | refine LeO.ite ?_ ?_
      | refine LeO.bind ?_ (fun _ => ?_)
theorem cleatref10_Signed.mono : ∀ a0 a1 k, LeO (cleatref10_Signed.f k a0 a1) (cleatref10_Signed.f (k + 1) a0 a1) := by
  intro a0 a1 k
  obtain ⟨ih0, ih1⟩ := cleatref10_Signed.mono_l k
  unfold cleatref10_Signed.f
  repeat' first
      | (with_reducible exact ih0 _ _ _ _)
      | (with_reducible exact ih1 _ _ _ _)
      | (with_reducible exact LeO.refl _)
      | (with_reducible exact LeO.none _)
      | (with_reducible refine LeO.ite ?_ ?_)
      | (with_reducible refine LeO.bind ?_ (fun _ => ?_))
      | exact ih0 _ _ _ _
      | exact ih1 _ _ _ _
      | exact LeO.none _
      | refine LeO.ite ?_ ?_
      | refine LeO.bind ?_ (fun _ => ?_)
set_option maxHeartbeats 8000000 in
set_option maxRecDepth 100000 in
theorem cleatref10_Signed.calls (k : Nat) (a0 : Bool) (a1 : Int) (r1 : Int) (r2 : Int) (w : World) (h : cleatref10_Signed.f k a0 a1 = some (r1, r2)) :
    Calls Tryd.prog 11 #[.bool a0, .int .u64 a1] w fun e w' => e = .returned (.tuple #[.int .i64 r1, .int .i64 r2]) ∧ Drawn0 w w' := by
  have H : (if a0 = true then (cleatref10_Signed.j0 k a0 a1 9223372036854775808 false) else (cleatref10_Signed.j0 k a0 a1 9223372036854775808 (decide (a1 < 9223372036854775808)))) = some (r1, r2) := h
  clear h
  have HC3 := Aside0.mk H
  clear H
  go_enter Tryd.func11, Tryd.ntmps11
  go_upto_region 2 with (fail)
  go_cut [13] (fun v13 wc => ∃ (kq : Nat) (x13_2 : Bool), v13 = .bool x13_2 ∧ Aside0 (cleatref10_Signed.j0 kq a0 a1 9223372036854775808 x13_2 = some (r1, r2)) ∧ Aside0 (kq ≤ k) ∧ Drawn0 w wc)
  case first =>
    have H := HC3.out
    clear HC3
    (try (rw [drewN_self w]; have n0_ := fun n_ => pw_below_drewN HB.out n_; clear HB; generalize hq_ : World.drewN w _ = w; have HB := Aside0.mk (hq_ ▸ n0_ _); clear hq_ n0_))
    by_cases c4 : a0 = true
    · subst c4
      have H1 : (cleatref10_Signed.j0 k true a1 9223372036854775808 false) = some (r1, r2) := by rw [if_pos rfl] at H; exact H
      clear H
      have H := H1
      clear H1
      have H' := Aside0.mk H
      clear H
      go_wp2
      go_meet
      case rel => exact ⟨_, (false), (by first | rfl | (simp; done) | (simp [*]; done)), H', ⟨by first | omega | exact Nat.le_refl _⟩, by repeat (first | exact Drawn0.refl _ | apply Drawn0.step)⟩
    · replace c4 := Bool.eq_false_iff.mpr c4
      subst c4
      have H1 : (cleatref10_Signed.j0 k false a1 9223372036854775808 (decide (a1 < 9223372036854775808))) = some (r1, r2) := by rw [if_neg (show ¬ (false = true) by decide)] at H; exact H
      clear H
      have H := H1
      clear H1
      have H' := Aside0.mk H
      clear H
      go_wp2
      go_meet
      case rel => exact ⟨_, (decide (a1 < 9223372036854775808)), (by first | rfl | (simp; done) | (simp [*]; done)), H', ⟨by first | omega | exact Nat.le_refl _⟩, by repeat (first | exact Drawn0.refl _ | apply Drawn0.step)⟩
  case rest =>
    clear HC3
    try clear c1
    try clear p2
    try clear c4
    obtain ⟨kq, x13_2, rfl, HA, HJ2, ⟨mc2, rfl⟩⟩ := hcut
    cases kq with
    | zero => exact absurd HA.out (by simp [cleatref10_Signed.j0])
    | succ kj2 =>
      have H := HA.out
      clear HA
      simp only [cleatref10_Signed.j0] at H
      by_cases c5 : x13_2 = true
      · subst c5
        have H1 : (some (wrap64 (a1), 0)) = some (r1, r2) := by rw [if_pos rfl] at H; exact H
        clear H
        have H := H1
        clear H1
        simp only [Option.some.injEq, Prod.mk.injEq] at H
        obtain ⟨rfl, rfl⟩ := H
        go_wp2
        go_ret2
        exact ⟨by first | rfl | (simp; done) | (simp [*]; done), by repeat (first | exact Drawn0.refl _ | apply Drawn0.step)⟩
      · replace c5 := Bool.eq_false_iff.mpr c5
        subst c5
        have H1 : (if a0 = true then (cleatref10_Signed.j1 kj2 a0 a1 9223372036854775808 (decide (a1 < 9223372036854775808))) else (cleatref10_Signed.j1 kj2 a0 a1 9223372036854775808 false)) = some (r1, r2) := by rw [if_neg (show ¬ (false = true) by decide)] at H; exact H
        clear H
        have H := H1
        clear H1
        have HC6 := Aside0.mk H
        clear H
        go_upto_region 4 with (fail)
        go_cut [21] (fun v21 wc => ∃ (kq : Nat) (x21_5 : Bool), v21 = .bool x21_5 ∧ Aside0 (cleatref10_Signed.j1 kq a0 a1 9223372036854775808 x21_5 = some (r1, r2)) ∧ Aside0 (kq ≤ kj2) ∧ Drawn0 w wc)
        case first =>
          have H := HC6.out
          clear HC6
          (try (rw [drewN_self wc]; have n0_ := fun n_ => pw_below_drewN HB.out n_; clear HB; generalize hq_ : World.drewN wc _ = wc; have HB := Aside0.mk (hq_ ▸ n0_ _); clear hq_ n0_))
          by_cases c7 : a0 = true
          · subst c7
            have H1 : (cleatref10_Signed.j1 kj2 true a1 9223372036854775808 (decide (a1 < 9223372036854775808))) = some (r1, r2) := by rw [if_pos rfl] at H; exact H
            clear H
            have H := H1
            clear H1
            have H' := Aside0.mk H
            clear H
            go_wp2
            go_meet
            case rel => exact ⟨_, (decide (a1 < 9223372036854775808)), (by first | rfl | (simp; done) | (simp [*]; done)), H', ⟨by have := HJ2.out; first | omega | exact Nat.le_refl _⟩, by repeat (first | exact Drawn0.refl _ | apply Drawn0.step)⟩
          · replace c7 := Bool.eq_false_iff.mpr c7
            subst c7
            have H1 : (cleatref10_Signed.j1 kj2 false a1 9223372036854775808 false) = some (r1, r2) := by rw [if_neg (show ¬ (false = true) by decide)] at H; exact H
            clear H
            have H := H1
            clear H1
            have H' := Aside0.mk H
            clear H
            go_wp2
            go_meet
            case rel => exact ⟨_, (false), (by first | rfl | (simp; done) | (simp [*]; done)), H', ⟨by have := HJ2.out; first | omega | exact Nat.le_refl _⟩, by repeat (first | exact Drawn0.refl _ | apply Drawn0.step)⟩
        case rest =>
          clear HC6
          try clear c1
          try clear c2
          try clear p2
          try clear c4
          try clear c5
          try clear p6
          try clear c7
          try clear p2
          obtain ⟨kq, x21_5, rfl, HA, HJ5, ⟨mc5, rfl⟩⟩ := hcut
          cases kq with
          | zero => exact absurd HA.out (by simp [cleatref10_Signed.j1])
          | succ kj5 =>
            have H := HA.out
            clear HA
            simp only [cleatref10_Signed.j1] at H
            by_cases c8 : x21_5 = true
            · subst c8
              have H1 : (some (wrap64 (-(wrap64 (a1))), 0)) = some (r1, r2) := by rw [if_pos rfl] at H; exact H
              clear H
              have H := H1
              clear H1
              simp only [Option.some.injEq, Prod.mk.injEq] at H
              obtain ⟨rfl, rfl⟩ := H
              go_wp2
              go_ret2
              exact ⟨by first | rfl | (simp; done) | (simp [*]; done), by repeat (first | exact Drawn0.refl _ | apply Drawn0.step)⟩
            · replace c8 := Bool.eq_false_iff.mpr c8
              subst c8
              have H1 : (if a0 = true then (if a1 = 9223372036854775808 then (some ((-9223372036854775808), 0)) else (some (0, 4))) else (some (0, 4))) = some (r1, r2) := by rw [if_neg (show ¬ (false = true) by decide)] at H; exact H
              clear H
              have H := H1
              clear H1
              by_cases c9 : a0 = true
              · subst c9
                have H1 : (if a1 = 9223372036854775808 then (some ((-9223372036854775808), 0)) else (some (0, 4))) = some (r1, r2) := by rw [if_pos rfl] at H; exact H
                clear H
                have H := H1
                clear H1
                by_cases c10 : a1 = 9223372036854775808
                · rw [if_pos c10] at H
                  have c10b0 : (a1 == 9223372036854775808) = true := beq_iff_eq.mpr c10
                  have c10b1 : (a1 != 9223372036854775808) = false := bne_eq_false_iff_eq.mpr c10
                  clear c10
                  simp only [Option.some.injEq, Prod.mk.injEq] at H
                  obtain ⟨rfl, rfl⟩ := H
                  go_wp2
                  go_ret2
                  exact ⟨by first | rfl | (simp; done) | (simp [*]; done), by repeat (first | exact Drawn0.refl _ | apply Drawn0.step)⟩
                · rw [if_neg c10] at H
                  have c10b0 : (a1 == 9223372036854775808) = false := beq_eq_false_iff_ne.mpr c10
                  have c10b1 : (a1 != 9223372036854775808) = true := bne_iff_ne.mpr c10
                  simp only [Option.some.injEq, Prod.mk.injEq] at H
                  obtain ⟨rfl, rfl⟩ := H
                  go_wp2
                  go_ret2
                  exact ⟨by first | rfl | (simp; done) | (simp [*]; done), by repeat (first | exact Drawn0.refl _ | apply Drawn0.step)⟩
              · replace c9 := Bool.eq_false_iff.mpr c9
                subst c9
                have H1 : (some (0, 4)) = some (r1, r2) := by rw [if_neg (show ¬ (false = true) by decide)] at H; exact H
                clear H
                have H := H1
                clear H1
                simp only [Option.some.injEq, Prod.mk.injEq] at H
                obtain ⟨rfl, rfl⟩ := H
                go_wp2
                go_ret2
                exact ⟨by first | rfl | (simp; done) | (simp [*]; done), by repeat (first | exact Drawn0.refl _ | apply Drawn0.step)⟩

/-! ### num_Of: function 12 -/
def num_Of.f (a0 : Int) : Option (Bool × Int) := if a0 < 0 then (some (true, IntKind.u64.wrap (-(IntKind.u64.wrap (a0))))) else (some (false, IntKind.u64.wrap (a0)))
set_option maxHeartbeats 8000000 in
set_option maxRecDepth 100000 in
theorem num_Of.calls (a0 : Int) (r1 : Bool) (r2 : Int) (w : World) (h : num_Of.f a0 = some (r1, r2)) :
    Calls Tryd.prog 12 #[.int .i64 a0] w fun e w' => e = .returned (.tuple #[.bool r1, .int .u64 r2]) ∧ Drawn0 w w' := by
  have H : (if a0 < 0 then (some (true, IntKind.u64.wrap (-(IntKind.u64.wrap (a0))))) else (some (false, IntKind.u64.wrap (a0)))) = some (r1, r2) := h
  clear h
  by_cases c2 : a0 < 0
  · rw [if_pos c2] at H
    have c2b0 : decide (a0 < 0) = true := decide_eq_true c2
    clear c2
    simp only [Option.some.injEq, Prod.mk.injEq] at H
    obtain ⟨rfl, rfl⟩ := H
    go_enter Tryd.func12, Tryd.ntmps12
    go_wp2
    go_ret2
    exact ⟨by first | rfl | (simp; done) | (simp [*]; done), by repeat (first | exact Drawn0.refl _ | apply Drawn0.step)⟩
  · rw [if_neg c2] at H
    have c2b0 : decide (a0 < 0) = false := decide_eq_false c2
    clear c2
    simp only [Option.some.injEq, Prod.mk.injEq] at H
    obtain ⟨rfl, rfl⟩ := H
    go_enter Tryd.func12, Tryd.ntmps12
    go_wp2
    go_ret2
    exact ⟨by first | rfl | (simp; done) | (simp [*]; done), by repeat (first | exact Drawn0.refl _ | apply Drawn0.step)⟩

/-! ### cleatref10_Of: function 13 -/
def cleatref10_Of.f (a0 : Int) : Option (Bool × Int) := if a0 ≥ 0 then (some (false, IntKind.u64.wrap (a0))) else (if a0 = (-9223372036854775808) then (some (true, 9223372036854775808)) else (some (true, IntKind.u64.wrap (wrap64 (-a0)))))
set_option maxHeartbeats 8000000 in
set_option maxRecDepth 100000 in
theorem cleatref10_Of.calls (a0 : Int) (r1 : Bool) (r2 : Int) (w : World) (h : cleatref10_Of.f a0 = some (r1, r2)) :
    Calls Tryd.prog 13 #[.int .i64 a0] w fun e w' => e = .returned (.tuple #[.bool r1, .int .u64 r2]) ∧ Drawn0 w w' := by
  have H : (if a0 ≥ 0 then (some (false, IntKind.u64.wrap (a0))) else (if a0 = (-9223372036854775808) then (some (true, 9223372036854775808)) else (some (true, IntKind.u64.wrap (wrap64 (-a0)))))) = some (r1, r2) := h
  clear h
  by_cases c2 : a0 ≥ 0
  · rw [if_pos c2] at H
    have c2b0 : decide (0 ≤ a0) = true := decide_eq_true c2
    clear c2
    simp only [Option.some.injEq, Prod.mk.injEq] at H
    obtain ⟨rfl, rfl⟩ := H
    go_enter Tryd.func13, Tryd.ntmps13
    go_wp2
    go_ret2
    exact ⟨by first | rfl | (simp; done) | (simp [*]; done), by repeat (first | exact Drawn0.refl _ | apply Drawn0.step)⟩
  · rw [if_neg c2] at H
    have c2b0 : decide (0 ≤ a0) = false := decide_eq_false c2
    clear c2
    by_cases c3 : a0 = (-9223372036854775808)
    · rw [if_pos c3] at H
      have c3b0 : (a0 == (-9223372036854775808)) = true := beq_iff_eq.mpr c3
      have c3b1 : (a0 != (-9223372036854775808)) = false := bne_eq_false_iff_eq.mpr c3
      clear c3
      simp only [Option.some.injEq, Prod.mk.injEq] at H
      obtain ⟨rfl, rfl⟩ := H
      go_enter Tryd.func13, Tryd.ntmps13
      go_wp2
      go_ret2
      exact ⟨by first | rfl | (simp; done) | (simp [*]; done), by repeat (first | exact Drawn0.refl _ | apply Drawn0.step)⟩
    · rw [if_neg c3] at H
      have c3b0 : (a0 == (-9223372036854775808)) = false := beq_eq_false_iff_ne.mpr c3
      have c3b1 : (a0 != (-9223372036854775808)) = true := bne_iff_ne.mpr c3
      simp only [Option.some.injEq, Prod.mk.injEq] at H
      obtain ⟨rfl, rfl⟩ := H
      go_enter Tryd.func13, Tryd.ntmps13
      go_wp2
      go_ret2
      exact ⟨by first | rfl | (simp; done) | (simp [*]; done), by repeat (first | exact Drawn0.refl _ | apply Drawn0.step)⟩

/-! ### num_Sum: function 14 -/
def num_Sum.f (a0 : Int) (a1 : Int) : Option (Int × Int) := (num_Of.f a1).bind fun bt106 => (if bt106.1 = true then (if bt106.2 > a0 then (some (0, 4)) else (some (IntKind.u64.wrap (a0 + (IntKind.u64.wrap (a1))), 0))) else (if (IntKind.u64.wrap (a0 + (IntKind.u64.wrap (a1)))) < a0 then (some (0, 4)) else (some (IntKind.u64.wrap (a0 + (IntKind.u64.wrap (a1))), 0))))
set_option maxHeartbeats 8000000 in
set_option maxRecDepth 100000 in
theorem num_Sum.calls (a0 : Int) (a1 : Int) (r1 : Int) (r2 : Int) (w : World) (h : num_Sum.f a0 a1 = some (r1, r2)) :
    Calls Tryd.prog 14 #[.int .u64 a0, .int .i64 a1] w fun e w' => e = .returned (.tuple #[.int .u64 r1, .int .i64 r2]) ∧ Drawn0 w w' := by
  have H : ((num_Of.f a1).bind fun bt106 => (if bt106.1 = true then (if bt106.2 > a0 then (some (0, 4)) else (some (IntKind.u64.wrap (a0 + (IntKind.u64.wrap (a1))), 0))) else (if (IntKind.u64.wrap (a0 + (IntKind.u64.wrap (a1)))) < a0 then (some (0, 4)) else (some (IntKind.u64.wrap (a0 + (IntKind.u64.wrap (a1))), 0))))) = some (r1, r2) := h
  clear h
  replace H := Option.bind_eq_some_iff.mp H
  obtain ⟨⟨t106, t107⟩, A30, H⟩ := H
  replace H : (if t106 = true then (if t107 > a0 then (some (0, 4)) else (some (IntKind.u64.wrap (a0 + (IntKind.u64.wrap (a1))), 0))) else (if (IntKind.u64.wrap (a0 + (IntKind.u64.wrap (a1)))) < a0 then (some (0, 4)) else (some (IntKind.u64.wrap (a0 + (IntKind.u64.wrap (a1))), 0)))) = some (r1, r2) := H
  have A3 := Aside0.mk A30
  clear A30
  by_cases c4 : t106 = true
  · subst c4
    have H1 : (if t107 > a0 then (some (0, 4)) else (some (IntKind.u64.wrap (a0 + (IntKind.u64.wrap (a1))), 0))) = some (r1, r2) := by rw [if_pos rfl] at H; exact H
    clear H
    have H := H1
    clear H1
    by_cases c5 : t107 > a0
    · rw [if_pos c5] at H
      have c5b0 : decide (a0 < t107) = true := decide_eq_true c5
      clear c5
      simp only [Option.some.injEq, Prod.mk.injEq] at H
      obtain ⟨rfl, rfl⟩ := H
      go_enter Tryd.func14, Tryd.ntmps14
      go_wp2_with (first | ((with_reducible refine gate_callee (f := 12) rfl ?_); refine goesL_ (some 11) rfl rfl Tryd.func12 (by kernel_rfl) rfl #[.int .i64 a1] rfl (by (try simp only [List.map_toArray, List.map_cons, List.map_nil]); first | done | rfl | (simp only [List.length_drop, List.length_take]; rfl)) ?_; (with_reducible refine (num_Of.calls a1 true t107 _ A3.out).mono ?_); rintro e w' ⟨rfl, ⟨nd, rfl⟩⟩; refine ⟨_, rfl, ?_⟩))
      go_ret2
      exact ⟨by first | rfl | (simp; done) | (simp [*]; done), by repeat (first | exact Drawn0.refl _ | apply Drawn0.step)⟩
    · rw [if_neg c5] at H
      have c5b0 : decide (a0 < t107) = false := decide_eq_false c5
      clear c5
      simp only [Option.some.injEq, Prod.mk.injEq] at H
      obtain ⟨rfl, rfl⟩ := H
      go_enter Tryd.func14, Tryd.ntmps14
      go_wp2_with (first | ((with_reducible refine gate_callee (f := 12) rfl ?_); refine goesL_ (some 11) rfl rfl Tryd.func12 (by kernel_rfl) rfl #[.int .i64 a1] rfl (by (try simp only [List.map_toArray, List.map_cons, List.map_nil]); first | done | rfl | (simp only [List.length_drop, List.length_take]; rfl)) ?_; (with_reducible refine (num_Of.calls a1 true t107 _ A3.out).mono ?_); rintro e w' ⟨rfl, ⟨nd, rfl⟩⟩; refine ⟨_, rfl, ?_⟩))
      go_ret2
      exact ⟨by first | rfl | (simp; done) | (simp [*]; done), by repeat (first | exact Drawn0.refl _ | apply Drawn0.step)⟩
  · replace c4 := Bool.eq_false_iff.mpr c4
    subst c4
    have H1 : (if (IntKind.u64.wrap (a0 + (IntKind.u64.wrap (a1)))) < a0 then (some (0, 4)) else (some (IntKind.u64.wrap (a0 + (IntKind.u64.wrap (a1))), 0))) = some (r1, r2) := by rw [if_neg (show ¬ (false = true) by decide)] at H; exact H
    clear H
    have H := H1
    clear H1
    by_cases c6 : (IntKind.u64.wrap (a0 + (IntKind.u64.wrap (a1)))) < a0
    · rw [if_pos c6] at H
      have c6b0 : decide ((IntKind.u64.wrap (a0 + (IntKind.u64.wrap (a1)))) < a0) = true := decide_eq_true c6
      clear c6
      simp only [Option.some.injEq, Prod.mk.injEq] at H
      obtain ⟨rfl, rfl⟩ := H
      go_enter Tryd.func14, Tryd.ntmps14
      go_wp2_with (first | ((with_reducible refine gate_callee (f := 12) rfl ?_); refine goesL_ (some 11) rfl rfl Tryd.func12 (by kernel_rfl) rfl #[.int .i64 a1] rfl (by (try simp only [List.map_toArray, List.map_cons, List.map_nil]); first | done | rfl | (simp only [List.length_drop, List.length_take]; rfl)) ?_; (with_reducible refine (num_Of.calls a1 false t107 _ A3.out).mono ?_); rintro e w' ⟨rfl, ⟨nd, rfl⟩⟩; refine ⟨_, rfl, ?_⟩))
      go_ret2
      exact ⟨by first | rfl | (simp; done) | (simp [*]; done), by repeat (first | exact Drawn0.refl _ | apply Drawn0.step)⟩
    · rw [if_neg c6] at H
      have c6b0 : decide ((IntKind.u64.wrap (a0 + (IntKind.u64.wrap (a1)))) < a0) = false := decide_eq_false c6
      clear c6
      simp only [Option.some.injEq, Prod.mk.injEq] at H
      obtain ⟨rfl, rfl⟩ := H
      go_enter Tryd.func14, Tryd.ntmps14
      go_wp2_with (first | ((with_reducible refine gate_callee (f := 12) rfl ?_); refine goesL_ (some 11) rfl rfl Tryd.func12 (by kernel_rfl) rfl #[.int .i64 a1] rfl (by (try simp only [List.map_toArray, List.map_cons, List.map_nil]); first | done | rfl | (simp only [List.length_drop, List.length_take]; rfl)) ?_; (with_reducible refine (num_Of.calls a1 false t107 _ A3.out).mono ?_); rintro e w' ⟨rfl, ⟨nd, rfl⟩⟩; refine ⟨_, rfl, ?_⟩))
      go_ret2
      exact ⟨by first | rfl | (simp; done) | (simp [*]; done), by repeat (first | exact Drawn0.refl _ | apply Drawn0.step)⟩

/-! ### cleatref10_Sum: function 15 -/
def cleatref10_Sum.j0 : Nat → Int → Bool → Int → Bool → Option (Int × Int)
  | 0, _, _, _, _ => none
  | k + 1, x0, x6, x7, x28 => if x28 = true then (some (0, 4)) else (if x6 = true then (some (IntKind.u64.wrap (x0 - x7), 0)) else (some (IntKind.u64.wrap (x0 + x7), 0)))
def cleatref10_Sum.f (k : Nat) (a0 : Int) (a1 : Int) : Option (Int × Int) := (cleatref10_Of.f a1).bind fun bt108 => (if bt108.1 = true then (if bt108.2 > a0 then (cleatref10_Sum.j0 k a0 bt108.1 bt108.2 true) else (cleatref10_Sum.j0 k a0 bt108.1 bt108.2 false)) else (cleatref10_Sum.j0 k a0 bt108.1 bt108.2 (decide (bt108.2 > (IntKind.u64.wrap (18446744073709551615 - a0))))))
theorem cleatref10_Sum.mono_l : ∀ k, (∀ y0 y1 y2 y3, LeO (cleatref10_Sum.j0 k y0 y1 y2 y3) (cleatref10_Sum.j0 (k + 1) y0 y1 y2 y3))
  | 0 => fun _ _ _ _ r h => by simp [cleatref10_Sum.j0] at h
  | k + 1 => by
    have ih0 := cleatref10_Sum.mono_l k
    · intro y0 y1 y2 y3
      unfold cleatref10_Sum.j0
      repeat' first
      | (with_reducible exact ih0 _ _ _ _)
      | (with_reducible exact LeO.refl _)
      | (with_reducible exact LeO.none _)
      | (with_reducible refine LeO.ite ?_ ?_)
      | (with_reducible refine LeO.bind ?_ (fun _ => ?_))
      | exact ih0 _ _ _ _
      | exact LeO.none _
      | refine LeO.ite ?_ ?_
      | refine LeO.bind ?_ (fun _ => ?_)
theorem cleatref10_Sum.mono : ∀ a0 a1 k, LeO (cleatref10_Sum.f k a0 a1) (cleatref10_Sum.f (k + 1) a0 a1) := by
  intro a0 a1 k
  have ih0 := cleatref10_Sum.mono_l k
  unfold cleatref10_Sum.f
  repeat' first
      | (with_reducible exact ih0 _ _ _ _)
      | (with_reducible exact LeO.refl _)
      | (with_reducible exact LeO.none _)
      | (with_reducible refine LeO.ite ?_ ?_)
      | (with_reducible refine LeO.bind ?_ (fun _ => ?_))
      | exact ih0 _ _ _ _
      | exact LeO.none _
      | refine LeO.ite ?_ ?_
      | refine LeO.bind ?_ (fun _ => ?_)
set_option maxHeartbeats 8000000 in
set_option maxRecDepth 100000 in
theorem cleatref10_Sum.calls (k : Nat) (a0 : Int) (a1 : Int) (r1 : Int) (r2 : Int) (w : World) (h : cleatref10_Sum.f k a0 a1 = some (r1, r2)) :
    Calls Tryd.prog 15 #[.int .u64 a0, .int .i64 a1] w fun e w' => e = .returned (.tuple #[.int .u64 r1, .int .i64 r2]) ∧ Drawn0 w w' := by
  have H : ((cleatref10_Of.f a1).bind fun bt108 => (if bt108.1 = true then (if bt108.2 > a0 then (cleatref10_Sum.j0 k a0 bt108.1 bt108.2 true) else (cleatref10_Sum.j0 k a0 bt108.1 bt108.2 false)) else (cleatref10_Sum.j0 k a0 bt108.1 bt108.2 (decide (bt108.2 > (IntKind.u64.wrap (18446744073709551615 - a0))))))) = some (r1, r2) := h
  clear h
  replace H := Option.bind_eq_some_iff.mp H
  obtain ⟨⟨t108, t109⟩, A30, H⟩ := H
  replace H : (if t108 = true then (if t109 > a0 then (cleatref10_Sum.j0 k a0 t108 t109 true) else (cleatref10_Sum.j0 k a0 t108 t109 false)) else (cleatref10_Sum.j0 k a0 t108 t109 (decide (t109 > (IntKind.u64.wrap (18446744073709551615 - a0)))))) = some (r1, r2) := H
  have A3 := Aside0.mk A30
  clear A30
  have HC4 := Aside0.mk H
  clear H
  go_enter Tryd.func15, Tryd.ntmps15
  go_upto_region 2 with (first | ((with_reducible refine gate_callee (f := 13) rfl ?_); refine goesL_ (some 10) rfl rfl Tryd.func13 (by kernel_rfl) rfl #[.int .i64 a1] rfl (by (try simp only [List.map_toArray, List.map_cons, List.map_nil]); first | done | rfl | (simp only [List.length_drop, List.length_take]; rfl)) ?_; (with_reducible refine (cleatref10_Of.calls a1 t108 t109 _ A3.out).mono ?_); rintro e w' ⟨rfl, ⟨nd, rfl⟩⟩; refine ⟨_, rfl, ?_⟩))
  (try simp only [Act.put, List.setIfInBounds_toArray, List.set_cons_zero, List.set_cons_succ])
  go_cut [28] (fun v28 wc => ∃ (kq : Nat) (x28_3 : Bool), v28 = .bool x28_3 ∧ Aside0 (cleatref10_Sum.j0 kq a0 t108 t109 x28_3 = some (r1, r2)) ∧ Aside0 (kq ≤ k) ∧ Drawn0 w wc)
  case first =>
    have H := HC4.out
    clear HC4
    (try (rw [drewN_self w]; have n0_ := fun n_ => pw_below_drewN HB.out n_; clear HB; generalize hq_ : World.drewN w _ = w; have HB := Aside0.mk (hq_ ▸ n0_ _); clear hq_ n0_))
    by_cases c5 : t108 = true
    · subst c5
      have H1 : (if t109 > a0 then (cleatref10_Sum.j0 k a0 true t109 true) else (cleatref10_Sum.j0 k a0 true t109 false)) = some (r1, r2) := by rw [if_pos rfl] at H; exact H
      clear H
      have H := H1
      clear H1
      by_cases c6 : t109 > a0
      · rw [if_pos c6] at H
        have c6b0 : decide (a0 < t109) = true := decide_eq_true c6
        clear c6
        (first | rw [c6b0] | (simp only [i64_w, i32_w]; rw [c6b0]) | skip)
        have H' := Aside0.mk H
        clear H
        go_wp2
        go_meet
        case rel => exact ⟨_, (true), (by first | rfl | (simp; done) | (simp [*]; done)), H', ⟨by first | omega | exact Nat.le_refl _⟩, by repeat (first | exact Drawn0.refl _ | apply Drawn0.step)⟩
      · rw [if_neg c6] at H
        have c6b0 : decide (a0 < t109) = false := decide_eq_false c6
        clear c6
        (first | rw [c6b0] | (simp only [i64_w, i32_w]; rw [c6b0]) | skip)
        have H' := Aside0.mk H
        clear H
        go_wp2
        go_meet
        case rel => exact ⟨_, (false), (by first | rfl | (simp; done) | (simp [*]; done)), H', ⟨by first | omega | exact Nat.le_refl _⟩, by repeat (first | exact Drawn0.refl _ | apply Drawn0.step)⟩
    · replace c5 := Bool.eq_false_iff.mpr c5
      subst c5
      have H1 : (cleatref10_Sum.j0 k a0 false t109 (decide (t109 > (IntKind.u64.wrap (18446744073709551615 - a0))))) = some (r1, r2) := by rw [if_neg (show ¬ (false = true) by decide)] at H; exact H
      clear H
      have H := H1
      clear H1
      have H' := Aside0.mk H
      clear H
      go_wp2
      go_meet
      case rel => exact ⟨_, (decide (t109 > (IntKind.u64.wrap (18446744073709551615 - a0)))), (by first | rfl | (simp; done) | (simp [*]; done)), H', ⟨by first | omega | exact Nat.le_refl _⟩, by repeat (first | exact Drawn0.refl _ | apply Drawn0.step)⟩
  case rest =>
    clear HC4
    try clear c1
    try clear p2
    try clear c5
    try clear c6
    try clear c6b0
    obtain ⟨kq, x28_3, rfl, HA, HJ3, ⟨mc3, rfl⟩⟩ := hcut
    cases kq with
    | zero => exact absurd HA.out (by simp [cleatref10_Sum.j0])
    | succ kj3 =>
      have H := HA.out
      clear HA
      simp only [cleatref10_Sum.j0] at H
      by_cases c7 : x28_3 = true
      · subst c7
        have H1 : (some (0, 4)) = some (r1, r2) := by rw [if_pos rfl] at H; exact H
        clear H
        have H := H1
        clear H1
        simp only [Option.some.injEq, Prod.mk.injEq] at H
        obtain ⟨rfl, rfl⟩ := H
        go_wp2
        go_ret2
        exact ⟨by first | rfl | (simp; done) | (simp [*]; done), by repeat (first | exact Drawn0.refl _ | apply Drawn0.step)⟩
      · replace c7 := Bool.eq_false_iff.mpr c7
        subst c7
        have H1 : (if t108 = true then (some (IntKind.u64.wrap (a0 - t109), 0)) else (some (IntKind.u64.wrap (a0 + t109), 0))) = some (r1, r2) := by rw [if_neg (show ¬ (false = true) by decide)] at H; exact H
        clear H
        have H := H1
        clear H1
        by_cases c8 : t108 = true
        · subst c8
          have H1 : (some (IntKind.u64.wrap (a0 - t109), 0)) = some (r1, r2) := by rw [if_pos rfl] at H; exact H
          clear H
          have H := H1
          clear H1
          simp only [Option.some.injEq, Prod.mk.injEq] at H
          obtain ⟨rfl, rfl⟩ := H
          go_wp2
          go_ret2
          exact ⟨by first | rfl | (simp; done) | (simp [*]; done), by repeat (first | exact Drawn0.refl _ | apply Drawn0.step)⟩
        · replace c8 := Bool.eq_false_iff.mpr c8
          subst c8
          have H1 : (some (IntKind.u64.wrap (a0 + t109), 0)) = some (r1, r2) := by rw [if_neg (show ¬ (false = true) by decide)] at H; exact H
          clear H
          have H := H1
          clear H1
          simp only [Option.some.injEq, Prod.mk.injEq] at H
          obtain ⟨rfl, rfl⟩ := H
          go_wp2
          go_ret2
          exact ⟨by first | rfl | (simp; done) | (simp [*]; done), by repeat (first | exact Drawn0.refl _ | apply Drawn0.step)⟩

-- NOT PRINTED: function 29 (strconv_small)

-- NOT PRINTED: function 33 (strconv_log10Pow2)

-- NOT PRINTED: function 34 (bits_Len64)

-- NOT PRINTED: function 35 (strconv_bool2_int)

-- NOT PRINTED: function 30 (strconv_numDigits)

-- NOT PRINTED: function 31 (strconv_formatBase10)

/-! ### strconv_isPowerOfTwo: function 36 -/
def strconv_isPowerOfTwo.f (a0 : Int) : Option (Bool) := some ((Go.bits .and .i64 a0 (wrap64 (a0 - 1))) == 0)
set_option maxHeartbeats 8000000 in
set_option maxRecDepth 100000 in
theorem strconv_isPowerOfTwo.calls (a0 : Int) (r : Bool) (w : World) (h : strconv_isPowerOfTwo.f a0 = some r) :
    Calls Tryd.prog 36 #[.int .i64 a0] w fun e w' => e = .returned (.bool r) ∧ Drawn0 w w' := by
  have H : (some ((Go.bits .and .i64 a0 (wrap64 (a0 - 1))) == 0)) = some r := h
  clear h
  obtain rfl := Option.some.inj H
  go_enter Tryd.func36, Tryd.ntmps36
  go_wp2
  go_ret
  exact ⟨by first | rfl | (simp; done) | (simp [*]; done), by repeat (first | exact Drawn0.refl _ | apply Drawn0.step)⟩

-- NOT PRINTED: function 38 (bits_TrailingZeros32)

/-! ### bits_TrailingZeros64: function 39 -/
/-- How many noughts are below a number's lowest one: the library's table is read. -/
def bits_TrailingZeros64.f (a0 : Int) : Option Int := if 0 ≤ a0 ∧ a0 < 18446744073709551616 then some (Lib.ctz 64 a0.toNat : Nat) else none
theorem tz_bits_and (a b : Nat) (ha : a < 18446744073709551616) (hb : b < 18446744073709551616) : Go.bits .and .u64 (a : Int) (b : Int) = ((a &&& b : Nat) : Int) := by
  have hx : a &&& b < 2 ^ 64 := Nat.and_lt_two_pow _ (by omega)
  have h1 : (BitVec.ofInt 64 (a : Int)).toNat = a := by
    rw [BitVec.ofInt_natCast, BitVec.toNat_ofNat]; exact Nat.mod_eq_of_lt (by omega)
  have h2 : (BitVec.ofInt 64 (b : Int)).toNat = b := by
    rw [BitVec.ofInt_natCast, BitVec.toNat_ofNat]; exact Nat.mod_eq_of_lt (by omega)
  show IntKind.u64.wrap ((BitVec.ofInt 64 (a : Int) &&& BitVec.ofInt 64 (b : Int)).toNat : Int) = _
  rw [BitVec.toNat_and, h1, h2, IntKind.wrap_u64]
  omega
theorem tz_key (x a : Nat) (hx : x < 18446744073709551616) (hx0 : x ≠ 0) (hlow : x &&& (18446744073709551616 - x) = a) :
    IntKind.u64.wrap (Go.bits BinOp.and IntKind.u64 (x : Int) (IntKind.u64.wrap (-(x : Int))) * 285870213051353865) / 288230376151711744 = ((a * 285870213051353865 % 18446744073709551616 / 288230376151711744 : Nat) : Int) := by
  have e1 : IntKind.u64.wrap (-(x : Int)) = ((18446744073709551616 - x : Nat) : Int) := by rw [IntKind.wrap_u64]; omega
  rw [e1, tz_bits_and x _ hx (by omega), hlow, IntKind.wrap_u64]
  omega
set_option maxHeartbeats 1000000 in
theorem tz_core (x k idx : Nat) (w : World) (hx0 : ((x : Int) == 0) = false)
    (key : IntKind.u64.wrap (Go.bits BinOp.and IntKind.u64 (x : Int) (IntKind.u64.wrap (-(x : Int))) * 285870213051353865) / 288230376151711744 = (idx : Int))
    (hi : idx < 64) (hk : k < 64) (hcell : w.cell? ⟨2, idx, none⟩ = some (.int .u8 (k : Nat))) :
    Calls Tryd.prog 39 #[.int .u64 x] w fun e w' => e = .returned (.int .i64 k) ∧ w' = w := by
  go_enter Tryd.func39, Tryd.ntmps39
  go_wp2_with (simp only [key])
  go_ret
  exact ⟨rfl, rfl⟩
theorem tz_zero (w : World) : Calls Tryd.prog 39 #[.int .u64 0] w fun e w' => e = .returned (.int .i64 64) ∧ w' = w := by
  go_enter Tryd.func39, Tryd.ntmps39
  go_wp2
  go_ret
  exact ⟨rfl, rfl⟩
theorem bits_TrailingZeros64.calls (a0 : Int) (r : Int) (w : World) (h : bits_TrailingZeros64.f a0 = some r) (hTab : TabW w := by first | exact hTab | exact TabW.drew hTab | exact TabW.drewN hTab _ | exact TabW.below hTab (by repeat (first | (with_reducible first | exact HB.out | apply below_alloc | apply pw_below_drewN | apply below_drew1) | exact HB.out | exact Below.refl _ _))) :
    Calls Tryd.prog 39 #[.int .u64 a0] w fun e w' => e = .returned (.int .i64 r) ∧ Drawn0 w w' := by
  unfold bits_TrailingZeros64.f at h
  split at h
  · rename_i hx
    obtain ⟨x, rfl⟩ := Int.eq_ofNat_of_zero_le hx.1
    obtain rfl := Option.some.inj h
    rw [Int.toNat_natCast]
    by_cases hx0 : x = 0
    · subst hx0
      refine (tz_zero w).mono ?_
      rintro e w' ⟨he, rfl⟩
      exact ⟨he, Drawn0.refl _⟩
    · obtain ⟨hlow, hk⟩ := Lib.lowest_bit 64 x hx0 (by omega)
      obtain ⟨hi, htab⟩ := Lib.deBruijn64_at _ hk
      have hcell := hTab.db _ hi
      rw [htab] at hcell
      refine (tz_core x _ _ w (by simp; omega) (tz_key x _ (by omega) hx0 hlow) hi hk hcell).mono ?_
      rintro e w' ⟨he, rfl⟩
      exact ⟨he, Drawn0.refl _⟩
  · simp at h

/-! ### bits_TrailingZeros: function 37 -/
def bits_TrailingZeros.f (a0 : Int) : Option (Int) := (bits_TrailingZeros64.f a0).bind fun t126 => (some t126)
set_option maxHeartbeats 8000000 in
set_option maxRecDepth 100000 in
theorem bits_TrailingZeros.calls (a0 : Int) (r : Int) (w : World) (h : bits_TrailingZeros.f a0 = some r) (hTab : TabW w := by first | exact hTab | exact TabW.drew hTab | exact TabW.drewN hTab _ | exact TabW.below hTab (by repeat (first | (with_reducible first | exact HB.out | apply below_alloc | apply pw_below_drewN | apply below_drew1) | exact HB.out | exact Below.refl _ _))) :
    Calls Tryd.prog 37 #[.int .u64 a0] w fun e w' => e = .returned (.int .i64 r) ∧ Drawn0 w w' := by
  have H : ((bits_TrailingZeros64.f a0).bind fun t126 => (some t126)) = some r := h
  clear h
  replace H := Option.bind_eq_some_iff.mp H
  obtain ⟨t126, A20, H⟩ := H
  replace H : (some t126) = some r := H
  have A2 := Aside0.mk A20
  clear A20
  obtain rfl := Option.some.inj H
  go_enter Tryd.func37, Tryd.ntmps37
  go_wp2_with (first | ((with_reducible refine gate_callee (f := 39) rfl ?_); refine goesL_ (some 7) rfl rfl Tryd.func39 (by kernel_rfl) rfl #[.int .u64 a0] rfl (by (try simp only [List.map_toArray, List.map_cons, List.map_nil]); first | done | rfl | (simp only [List.length_drop, List.length_take]; rfl)) ?_; (with_reducible refine (bits_TrailingZeros64.calls a0 t126 _ A2.out).mono ?_); rintro e w' ⟨rfl, ⟨nd, rfl⟩⟩; refine ⟨_, rfl, ?_⟩))
  go_ret
  exact ⟨by first | rfl | (simp; done) | (simp [*]; done), by repeat (first | exact Drawn0.refl _ | apply Drawn0.step)⟩

-- NOT PRINTED: function 32 (strconv_formatBits)

-- NOT PRINTED: function 27 (strconv_FormatUint_27)

/-! ### strconv_FormatUint_24: function 24 -/
/-- A digit's sign. -/
def num_dg (d : Nat) : UInt8 := UInt8.ofNat (if d < 10 then 48 + d else 87 + d)
/-- A number's digits to a base. -/
def num_digs (b v : Nat) : List UInt8 := if h : v < b ∨ b < 2 then [num_dg v] else num_digs b (v / b) ++ [num_dg (v % b)]
  termination_by v
  decreasing_by exact Nat.div_lt_self (by omega) (by omega)
theorem num_digs_less {b v : Nat} (h : v < b) : num_digs b v = [num_dg v] := by rw [num_digs, dif_pos (.inl h)]
theorem num_digs_step {b v : Nat} (hb : 2 ≤ b) (h : b ≤ v) : num_digs b v = num_digs b (v / b) ++ [num_dg (v % b)] := by rw [num_digs, dif_neg (by omega)]
theorem num_digs_ne (b v : Nat) : num_digs b v ≠ [] := by rw [num_digs]; split <;> simp
theorem num_digs_len {b : Nat} (hb : 2 ≤ b) : ∀ (n v : Nat), v < b ^ (n + 1) → (num_digs b v).length ≤ n + 1
  | 0, v, h => by rw [num_digs_less (by simpa using h)]; simp
  | n + 1, v, h => by
    by_cases hv : v < b
    · rw [num_digs_less hv]; simp
    · rw [num_digs_step hb (by omega)]
      have := num_digs_len hb n (v / b) (Nat.div_lt_of_lt_mul (by rw [Nat.pow_succ, Nat.mul_comm] at h; exact h))
      simp
      omega
theorem num_digs_64 {b v : Nat} (hb : b = 10 ∨ b = 16) (h : v < 18446744073709551616) : (num_digs b v).length ≤ 20 := by
  refine num_digs_len (n := 19) (by omega) v (Nat.lt_of_lt_of_le h ?_)
  rcases hb with rfl | rfl <;> decide
theorem num_dg_cut : ∀ d : Fin 16, ((⟨#[48, 49, 50, 51, 52, 53, 54, 55, 56, 57, 97, 98, 99, 100, 101, 102]⟩ : ByteArray).extract d.val (d.val + 1)).data.toList = [num_dg d.val] := by decide +kernel

theorem num_dec : ∀ u, Lib.decDigits u = num_digs 10 u := by
  intro u
  induction u using Nat.strongRecOn with
  | _ u ih =>
    by_cases h : u < 10
    · rw [Lib.decDigits, dif_pos h, num_digs_less h]
      unfold num_dg
      rw [if_pos h]
    · rw [Lib.decDigits, dif_neg h, num_digs_step (by decide) (by omega), ih (u / 10) (by omega)]
      unfold num_dg
      rw [if_pos (by omega)]
theorem num_info8 : (Tryd.prog.info? 5).map (fun i => (i.zero, i.size, i.bytes)) = some (some (.int .u8 0), 1, 1) := by kernel_rfl
set_option maxHeartbeats 12800000 in
set_option maxRecDepth 100000 in
theorem num_fmt10_big (u : Nat) (hu : 100 ≤ u) (hu64 : u < 18446744073709551616) (w : World) (hTab : TabW w) :
    Calls Tryd.prog 27 #[.int .u64 u, .int .i64 10] w fun e w' => e = .returned (.string ⟨(num_digs 10 u).toArray⟩) ∧ Below w.heap.size w w' := by
  have hu1 : 1 ≤ u := by omega
  have hnd20 : Lib.nDigits u ≤ 20 := Lib.nDigits_le20 u hu64
  have hal : Tryd.prog.arrayLen 47 = 24 := by kernel_rfl
  have hsl : ∀ W, (Instr.sliceAt 47 (.pointer (some ⟨w.heap.size, 0, none⟩)) none (some (.int .i64 (Lib.nDigits u : Int))) none).run Tryd.prog W = .ok (.slice (some ⟨w.heap.size, 0, none⟩) (Lib.nDigits u) 24) W := fun W => by
    rw [run_sliceAt_array_h W 47 ⟨w.heap.size, 0, none⟩ (by kernel_rfl) .i64 (Lib.nDigits u : Int) (by omega) (by rw [hal]; omega)]
    go_simp
  have hH0 := Lib.holds_zero0 w 47 (Lib.nDigits u) (by omega)
  have hfmt := Tryd.internal_strconv_formatBase10 w.heap.size 0 24 u (Array.replicate (Lib.nDigits u) 0) (w.alloc (.cells Lib.zeros24 47)) hH0 (by rw [Array.size_replicate]; exact Lib.lt_pow_nDigits u) hu64 (by rw [Array.size_replicate]; omega)
  rw [Array.size_replicate] at hfmt
  have HH0 := Aside0.mk hH0
  have iu : (100 : Int) ≤ (u : Int) := by omega
  clear hH0 hal
  go_enter Tryd.func27, Tryd.ntmps27
  go_wp2_with (first | (go_at_call 30; refine (Tryd.internal_strconv_numDigits u hu1 hu64 _ (Lib.tabIs_alloc hTab.pw _)).mono ?_; rintro e w' ⟨rfl, rfl⟩))
  go_at_call 31
  refine hfmt.mono ?_
  rintro e w' ⟨rfl, k, v', dk, rfl, hF⟩
  have hcells : ∀ j u', (Lib.byteCells (Lib.decDigits u))[j]? = some u' → ((Go.Sort.putRow (fun (b : UInt8) => Value.int .u8 (b.toNat : Int)) (w.alloc (.cells Lib.zeros24 47)) w.heap.size 0 dk).drewN k).cell? ((⟨w.heap.size, 0, none⟩ : Addr).add j) = some u' := by
    intro j u' hj
    have hjl : j < (Lib.decDigits u).length := by
      have h5 := (List.getElem?_eq_some_iff.1 hj).1
      rwa [Lib.byteCells_length] at h5
    have e5 : (Lib.byteCells (Lib.decDigits u))[j]? = some (Value.int .u8 ((Lib.decDigits u)[j].toNat : Int)) := by simp [Lib.byteCells, hjl]
    rw [e5] at hj
    cases hj
    rw [Lib.row_is_numeral hF j hjl, Lib.add_plain, World.cell?_drewN]
    exact Go.Sort.cell?_putRow (fun (b : UInt8) => Value.int .u8 (b.toNat : Int)) _ w.heap.size 0 _ dk HH0.out (by rw [hF.size, Array.size_replicate]) j (by rw [hF.size]; rw [Lib.decDigits_length] at hjl; exact hjl)
  obtain ⟨os, eo⟩ := Lib.fin_at w (.cells Lib.zeros24 47) dk k 0
  have hnx2 : Below w.heap.size w ((Go.Sort.putRow (fun (b : UInt8) => Value.int .u8 (b.toNat : Int)) (w.alloc (.cells Lib.zeros24 47)) w.heap.size 0 dk).drewN k) := by rw [eo]; exact Lib.below_grow w.heap.size w (Nat.le_refl _) k os
  generalize (Go.Sort.putRow (fun (b : UInt8) => Value.int .u8 (b.toNat : Int)) (w.alloc (.cells Lib.zeros24 47)) w.heap.size 0 dk).drewN k = W2 at hcells hnx2 ⊢
  clear eo HH0 hfmt
  have hread : ReadsInt W2 .u8 (some ⟨w.heap.size, 0, none⟩) (Lib.nDigits u) ((Lib.decDigits u).map fun c => (c.toNat : Int)) := by
    refine ⟨by rw [List.length_map, Lib.decDigits_length], by omega, fun _ => ⟨_, rfl, fun j hj => ?_⟩⟩
    have hjl : j < (Lib.decDigits u).length := by rw [Lib.decDigits_length]; exact hj
    refine hcells j _ ?_
    simp [Lib.byteCells, hjl, List.getD]
  have hcv := fun c => string_of_reads (c := c) (src := 50) (dst := 9) Tryd.underlying50 Tryd.underlying5 Tryd.underlying9 hread
  have hst : strOfNums ((Lib.decDigits u).map fun c => (c.toNat : Int)) = ⟨(num_digs 10 u).toArray⟩ := by
    rw [← num_dec]
    unfold strOfNums
    rw [List.map_map]
    congr 2
    rw [List.map_congr_left (g := id)]
    · simp
    · intro c _; simp
  rw [hst] at hcv
  clear hread hst hcells
  go_wp2
  go_ret
  exact ⟨rfl, hnx2⟩
theorem num_small (u : Nat) (hu : u < 100) (w : World) :
    Calls Tryd.prog 27 #[.int .u64 u, .int .i64 10] w fun e w' => e = .returned (.string ⟨(num_digs 10 u).toArray⟩) ∧ Below w.heap.size w w' := by
  have iu : (u : Int) < 100 := by omega
  go_enter Tryd.func27, Tryd.ntmps27
  go_wp2_with (first | (go_at_call 29; refine (Tryd.internal_strconv_small u hu _).mono ?_; rintro e w' ⟨rfl, rfl⟩))
  go_ret
  exact ⟨by rw [← num_dec]; rfl, Below.refl _ _⟩
/-- The signs of the digits. -/
theorem num_sign : ∀ d : Fin 16, (bt (⟨#[48, 49, 50, 51, 52, 53, 54, 55, 56, 57, 97, 98, 99, 100, 101, 102, 103, 104, 105, 106, 107, 108, 109, 110, 111, 112, 113, 114, 115, 116, 117, 118, 119, 120, 121, 122]⟩ : ByteArray) (d.val : Int)) = ((num_dg d.val).toNat : Int) := by decide +kernel
theorem num_index (d : Nat) (h : d < 16) (W : World) : (Instr.index 9 (.string ⟨#[48, 49, 50, 51, 52, 53, 54, 55, 56, 57, 97, 98, 99, 100, 101, 102, 103, 104, 105, 106, 107, 108, 109, 110, 111, 112, 113, 114, 115, 116, 117, 118, 119, 120, 121, 122]⟩) (.int .u64 (d : Int))).run Tryd.prog W = .ok (.int .u8 ((num_dg d).toNat : Int)) W := by
  rw [run_index_string (w := W) (t := 9) (k := .u64) (i := (d : Int)) (h := Tryd.underlying9), dif_pos ⟨by omega, by show (d : Int) < 36; omega⟩, bt_at, num_sign ⟨d, h⟩]
/-- What the array holds, and where in it. -/
def NumH (w : World) (u0 : Nat) (x m : Nat) (out : List UInt8) (wr : World) : Prop := ∃ (arr : Array Value), x < 18446744073709551616 ∧ m + out.length = 65 ∧ num_digs 16 x ++ out = num_digs 16 u0 ∧ wr.heap[w.heap.size]? = some (.cells arr 57 (0, 0)) ∧ arr.size = 65 ∧
  arr.toList.drop m = Lib.byteCells out ∧ Below w.heap.size w wr
theorem NumH.len {w : World} {u0 x m : Nat} {out : List UInt8} {wr : World} (h : NumH w u0 x m out wr) (h0 : u0 < 18446744073709551616) : out.length + 1 ≤ 20 := by
  obtain ⟨arr, h1, h2, h3, _⟩ := h
  have := congrArg List.length h3
  have h64 := num_digs_64 (b := 16) (.inr rfl) h0
  have hp : 1 ≤ (num_digs 16 x).length := by
    have := num_digs_ne 16 x
    cases hh : num_digs 16 x with
    | nil => exact absurd hh this
    | cons _ _ => simp
  rw [List.length_append] at this
  omega
theorem NumH.cell {w : World} {u0 x q : Nat} {out : List UInt8} {wr : World} (h : NumH w u0 x (q + 1) out wr) : (∃ c, wr.cell? ⟨w.heap.size, q, none⟩ = some c) ∧ wr.frozen? ⟨w.heap.size, q, none⟩ = false := by
  obtain ⟨arr, h1, h2, h3, h4, h5, _⟩ := h
  have hq : q < arr.size := by omega
  refine ⟨⟨arr[q], ?_⟩, Lib.frozen_of_heap h4 q⟩
  rw [Lib.cell_of_heap h4]
  exact Array.getElem?_eq_getElem hq
/-- A digit is stored. -/
theorem NumH.put {w : World} {u0 x y q : Nat} {out : List UInt8} {c : UInt8} {wr : World} (h : NumH w u0 x (q + 1) out wr) (hy : y < 18446744073709551616) (hd : num_digs 16 y ++ (c :: out) = num_digs 16 u0 ∨ y = 0) (hd2 : num_digs 16 y ++ (c :: out) = num_digs 16 u0) :
    NumH w u0 y q (c :: out) (wr.setCell ⟨w.heap.size, q, none⟩ (.int .u8 (c.toNat : Int))) := by
  obtain ⟨arr, h1, h2, h3, h4, h5, h6, h7⟩ := h
  refine ⟨arr.setIfInBounds q (.int .u8 (c.toNat : Int)), hy, by simp; omega, hd2, ?_, by simp [h5], ?_, h7.setCell (p := ⟨w.heap.size, q, none⟩) (Nat.le_refl _) _⟩
  · simp [World.setCell, Array.getElem?_modify, h4]
  · have hq : q < arr.toList.length := by simp; omega
    rw [Array.toList_setIfInBounds, List.drop_eq_getElem_cons (by rw [List.length_set]; exact hq), List.getElem_set_self, List.drop_set_of_lt (by omega), h6]
    rfl
/-- The last digit is stored: the row is the numeral. -/
theorem NumH.last {w : World} {u0 x q : Nat} {out : List UInt8} {wr : World} (h : NumH w u0 x (q + 1) out wr) (hx : x < 16) :
    ReadsInt (wr.setCell ⟨w.heap.size, q, none⟩ (.int .u8 ((num_dg x).toNat : Int))) .u8 (some ⟨w.heap.size, q, none⟩) (65 - q) ((num_digs 16 u0).map fun c => (c.toNat : Int)) ∧ Below w.heap.size w (wr.setCell ⟨w.heap.size, q, none⟩ (.int .u8 ((num_dg x).toNat : Int))) := by
  obtain ⟨arr, h1, h2, h3, h4, h5, h6, h7⟩ := h
  rw [num_digs_less hx] at h3
  have hl : (num_digs 16 u0).length = 65 - q := by rw [← h3]; simp; omega
  refine ⟨⟨by rw [List.length_map, hl], by omega, fun _ => ⟨_, rfl, fun j hj => ?_⟩⟩, h7.setCell (p := ⟨w.heap.size, q, none⟩) (Nat.le_refl _) _⟩
  have hb : (wr.setCell ⟨w.heap.size, q, none⟩ (.int .u8 ((num_dg x).toNat : Int))).heap[w.heap.size]? = some (.cells (arr.setIfInBounds q (.int .u8 ((num_dg x).toNat : Int))) 57 (0, 0)) := by simp [World.setCell, Array.getElem?_modify, h4]
  have hq : q < arr.toList.length := by simp; omega
  have hd : (arr.setIfInBounds q (.int .u8 ((num_dg x).toNat : Int))).toList.drop q = Lib.byteCells (num_digs 16 u0) := by
    rw [Array.toList_setIfInBounds, List.drop_eq_getElem_cons (by rw [List.length_set]; exact hq), List.getElem_set_self, List.drop_set_of_lt (by omega), h6, ← h3]
    rfl
  have hc : (arr.setIfInBounds q (.int .u8 ((num_dg x).toNat : Int)))[q + j]? = some (.int .u8 (((num_digs 16 u0).map fun c => (c.toNat : Int)).getD j 0)) := by
    rw [← Array.getElem?_toList, ← List.getElem?_drop, hd]
    have hjl : j < (num_digs 16 u0).length := by omega
    simp [Lib.byteCells, hjl, List.getD]
  have e : (⟨w.heap.size, q, none⟩ : Addr).add j = ⟨w.heap.size, q + j, none⟩ := by simp [Addr.add]
  rw [e, Lib.cell_of_heap hb]
  exact hc
def num_zeros : Array Value := Array.replicate 65 (.int .u8 0)
theorem num_zero65 (W : World) : (zeroValue 57).run Tryd.prog W = .ok (.agg num_zeros) W := by kernel_rfl
set_option maxHeartbeats 12800000 in
set_option maxRecDepth 100000 in
theorem num_bits (u : Nat) (hu64 : u < 18446744073709551616) (w : World) (hTab : TabW w) :
    Calls Tryd.prog 32 #[.slice none 0 0, .int .u64 u, .int .i64 16, .bool false, .bool false] w fun e w' => e = .returned (.tuple #[.slice none 0 0, .string ⟨(num_digs 16 u).toArray⟩]) ∧ Below w.heap.size w w' := by
  have hz := num_zero65
  have hT2 := fun n => ((hTab.below (below_alloc (Below.refl _ _) (.cells num_zeros 57))).drewN n)
  have HT2 := Aside0.mk hT2
  clear hT2
  go_enter Tryd.func32, Tryd.ntmps32
  go_wp2_with (first | (go_at_call 36; refine (strconv_isPowerOfTwo.calls 16 true _ (by decide +kernel)).mono ?_; rintro e w' ⟨rfl, ⟨n2, rfl⟩⟩) | (go_at_call 37; refine (bits_TrailingZeros.calls 16 4 _ (by decide +kernel) (HT2.out _)).mono ?_; rintro e w' ⟨rfl, ⟨n3, rfl⟩⟩))
  go_loopw [1, 13] (fun v1 v13 wr => ∃ (x m : Nat) (out : List UInt8), v1 = .int .u64 x ∧ v13 = .int .i64 m ∧ NumH w u x m out wr) (fun v1 _ _ => (intOf v1).toNat)
  case atStart => exact ⟨u, 65, [], rfl, rfl, num_zeros, hu64, rfl, by simp, World.alloc_heap_new _ _, rfl, rfl, pw_below_drewN (below_alloc (Below.refl _ _) _) _⟩
  case round =>
    obtain ⟨x, m, out, rfl, rfl, hN⟩ := hrel
    have hlen := hN.len hu64
    have hx := hN.choose_spec.1
    have hm := hN.choose_spec.2.1
    obtain ⟨q, rfl⟩ : ∃ q, m = q + 1 := ⟨m - 1, by omega⟩
    obtain ⟨⟨c0, hc⟩, hf⟩ := hN.cell
    have hqb : q ≤ 64 := by omega
    by_cases hge : 16 ≤ x
    · have hst := num_digs_step (b := 16) (by decide) hge
      have hidx := num_index (x % 16) (Nat.mod_lt _ (by decide))
      have hand : Go.bits .and .u64 (x : Int) 15 = ((x % 16 : Nat) : Int) := by
        rw [u64_and _ _ (by omega) (by omega) (by omega) (by omega)]
        have := Nat.and_two_pow_sub_one_eq_mod x 4
        rw [show (15 : Int).toNat = 2 ^ 4 - 1 from rfl, Int.toNat_natCast, this]
      have e16 : ((x % 16 : Nat) : Int) = (x : Int) % 16 := by omega
      rw [e16] at hidx hand
      have ev : ((x / 16 : Nat) : Int) = (x : Int) / 16 := by omega
      have EV := Aside0.mk ev
      clear e16 ev
      have hP := hN.put (y := x / 16) (c := num_dg (x % 16)) (Nat.lt_of_le_of_lt (Nat.div_le_self _ _) hx) (.inl (by rw [← hN.choose_spec.2.2.1, hst]; simp)) (by rw [← hN.choose_spec.2.2.1, hst]; simp)
      have HP := Aside0.mk hP
      clear hP hst hN hm hlen
      go_wp2
      go_roundw
      case rel => exact ⟨x / 16, q, _, by rw [EV.out], rfl, HP.out⟩
      case measure => simp [intOf]; omega
    · have hidx := num_index x (by omega)
      obtain ⟨hread, hbel⟩ := hN.last (by omega)
      have hcv := fun c => string_of_reads (c := c) (src := 50) (dst := 9) Tryd.underlying50 Tryd.underlying5 Tryd.underlying9 hread
      have hst : strOfNums ((num_digs 16 u).map fun c => (c.toNat : Int)) = ⟨(num_digs 16 u).toArray⟩ := by
        unfold strOfNums
        rw [List.map_map]
        congr 2
        rw [List.map_congr_left (g := id)]
        · simp
        · intro c _; simp
      rw [hst] at hcv
      have hal : Tryd.prog.arrayLen 57 = 65 := by kernel_rfl
      have hsl : ∀ W, (Instr.sliceAt 57 (.pointer (some ⟨w.heap.size, 0, none⟩)) (some (.int .i64 (q : Int))) none none).run Tryd.prog W = .ok (.slice (some ⟨w.heap.size, q, none⟩) (65 - q) (65 - q)) W := fun W => by
        rw [run_sliceAt_array_l W 57 ⟨w.heap.size, 0, none⟩ (by kernel_rfl) .i64 (q : Int) (by omega) (by rw [hal]; omega), hal]
        go_simp
        omega
      have HBEL := Aside0.mk hbel
      have hlt16 : (x : Int) < 16 := by omega
      clear hread hst hbel hal hN hm hlen
      go_wp2
      go_ret2
      exact ⟨rfl, HBEL.out⟩
set_option maxHeartbeats 4000000 in
theorem num_fmt16 (u : Nat) (hu64 : u < 18446744073709551616) (w : World) (hTab : TabW w) :
    Calls Tryd.prog 27 #[.int .u64 u, .int .i64 16] w fun e w' => e = .returned (.string ⟨(num_digs 16 u).toArray⟩) ∧ Below w.heap.size w w' := by
  go_enter Tryd.func27, Tryd.ntmps27
  go_wp2_with (first | (go_at_call 32; refine (num_bits u hu64 _ hTab).mono ?_; rintro e w1 ⟨rfl, hb1⟩))
  go_ret
  exact ⟨rfl, hb1⟩
def strconv_FormatUint_24.f (a0 a1 : Int) : Option ByteArray := if (a1 = 10 ∨ a1 = 16) ∧ 0 ≤ a0 ∧ a0 < 18446744073709551616 then some ⟨(num_digs a1.toNat a0.toNat).toArray⟩ else none
theorem num_fmt_any (a0 a1 : Int) (r : ByteArray) (w : World) (h : strconv_FormatUint_24.f a0 a1 = some r) (hTab : TabW w) :
    Calls Tryd.prog 27 #[.int .u64 a0, .int .i64 a1] w fun e w' => e = .returned (.string r) ∧ Below w.heap.size w w' := by
  unfold strconv_FormatUint_24.f at h
  split at h
  · rename_i hh
    obtain ⟨hb, h0, h1⟩ := hh
    obtain rfl := Option.some.inj h
    obtain ⟨v, rfl⟩ := Int.eq_ofNat_of_zero_le h0
    rcases hb with rfl | rfl
    · by_cases hs : v < 100
      · exact num_small v hs w
      · exact num_fmt10_big v (by omega) (by omega) w hTab
    · exact num_fmt16 v (by omega) w hTab
  · cases h
theorem strconv_FormatUint_24.calls (a0 a1 : Int) (r : ByteArray) (w : World) (h : strconv_FormatUint_24.f a0 a1 = some r) (hTab : TabW w := by first | exact hTab | exact TabW.drew hTab | exact TabW.drewN hTab _ | exact TabW.below hTab (by repeat (first | (with_reducible first | exact HB.out | apply below_alloc | apply pw_below_drewN | apply below_drew1) | exact HB.out | exact Below.refl _ _))) :
    Calls Tryd.prog 24 #[.int .u64 a0, .int .i64 a1] w fun e w' => e = .returned (.string r) ∧ Below w.heap.size w w' := by
  have H := Aside0.mk h
  clear h
  go_enter Tryd.func24, Tryd.ntmps24
  go_wp2_with (first | (go_at_call 27; refine (num_fmt_any a0 a1 r _ H.out hTab).mono ?_; rintro e w1 ⟨rfl, hb1⟩))
  go_ret
  exact ⟨rfl, hb1⟩

/-! ### num_Text: function 17 -/
def num_Text.f (a0 : Int) : Option (ByteArray) := (strconv_FormatUint_24.f a0 10).bind fun t127 => (some t127)
set_option maxHeartbeats 8000000 in
set_option maxRecDepth 100000 in
theorem num_Text.calls (a0 : Int) (r : ByteArray) (w : World) (h : num_Text.f a0 = some r) (hTab : TabW w := by first | exact hTab | exact TabW.drew hTab | exact TabW.drewN hTab _ | exact TabW.below hTab (by repeat (first | (with_reducible first | exact HB.out | apply below_alloc | apply pw_below_drewN | apply below_drew1) | exact HB.out | exact Below.refl _ _))) :
    Calls Tryd.prog 17 #[.int .u64 a0] w fun e w' => e = .returned (.string r) ∧ Below w.heap.size w w' := by
  have HB := Aside0.mk (Below.refl w.heap.size w)
  have H : ((strconv_FormatUint_24.f a0 10).bind fun t127 => (some t127)) = some r := h
  clear h
  replace H := Option.bind_eq_some_iff.mp H
  obtain ⟨t127, A20, H⟩ := H
  replace H : (some t127) = some r := H
  have A2 := Aside0.mk A20
  clear A20
  obtain rfl := Option.some.inj H
  go_enter Tryd.func17, Tryd.ntmps17
  go_wp2_with (first | ((with_reducible refine gate_callee (f := 24) rfl ?_); refine goesL_ (some 4) rfl rfl Tryd.func24 (by kernel_rfl) rfl #[.int .u64 a0, .int .i64 10] rfl (by (try simp only [List.map_toArray, List.map_cons, List.map_nil]); first | done | rfl | (simp only [List.length_drop, List.length_take]; rfl)) ?_; (with_reducible refine (strconv_FormatUint_24.calls a0 10 t127 _ A2.out).mono ?_); rintro e w3 ⟨rfl, hb⟩; refine ⟨_, rfl, ?_⟩; have n0_ := Aside0.mk (below_step (by repeat (first | (with_reducible first | exact HB.out | apply below_alloc | apply pw_below_drewN | apply below_drew1) | exact HB.out)) hb); clear HB; have HB := n0_; clear n0_; (try clear hb); (try clear hb2); (try clear hk); (try clear hi)))
  go_ret
  exact ⟨by first | rfl | (simp [errW_none, errW_some] <;> rfl) | (simp [*, errW_none, errW_some] <;> rfl), by repeat (first | (with_reducible first | exact HB.out | apply below_alloc | apply pw_below_drewN | apply below_drew1) | exact HB.out)⟩

/-! ### num_Hex: function 19 -/
def num_Hex.f (a0 : Int) : Option (ByteArray) := (strconv_FormatUint_24.f a0 16).bind fun t128 => (if 2 + t128.size ≤ 9223372036854775807 then (some ((⟨#[48, 120]⟩ : ByteArray) ++ t128)) else (none))
set_option maxHeartbeats 8000000 in
set_option maxRecDepth 100000 in
theorem num_Hex.calls (a0 : Int) (r : ByteArray) (w : World) (h : num_Hex.f a0 = some r) (hTab : TabW w := by first | exact hTab | exact TabW.drew hTab | exact TabW.drewN hTab _ | exact TabW.below hTab (by repeat (first | (with_reducible first | exact HB.out | apply below_alloc | apply pw_below_drewN | apply below_drew1) | exact HB.out | exact Below.refl _ _))) :
    Calls Tryd.prog 19 #[.int .u64 a0] w fun e w' => e = .returned (.string r) ∧ Below w.heap.size w w' := by
  have HB := Aside0.mk (Below.refl w.heap.size w)
  have H : ((strconv_FormatUint_24.f a0 16).bind fun t128 => (if 2 + t128.size ≤ 9223372036854775807 then (some ((⟨#[48, 120]⟩ : ByteArray) ++ t128)) else (none))) = some r := h
  clear h
  replace H := Option.bind_eq_some_iff.mp H
  obtain ⟨t128, A20, H⟩ := H
  replace H : (if 2 + t128.size ≤ 9223372036854775807 then (some ((⟨#[48, 120]⟩ : ByteArray) ++ t128)) else (none)) = some r := H
  have A2 := Aside0.mk A20
  clear A20
  by_cases c3 : 2 + t128.size ≤ 9223372036854775807
  · rw [if_pos c3] at H
    have c3b0 := eq_true c3
    have c3b1 : decide (2 + t128.size ≤ 9223372036854775807) = true := decide_eq_true c3
    try have c3b2 : (9223372036854775807 < 2 + t128.size) = False := eq_false (Nat.not_lt.2 c3)
    obtain rfl := Option.some.inj H
    go_enter Tryd.func19, Tryd.ntmps19
    go_wp2_with (first | ((with_reducible refine gate_callee (f := 24) rfl ?_); refine goesL_ (some 4) rfl rfl Tryd.func24 (by kernel_rfl) rfl #[.int .u64 a0, .int .i64 16] rfl (by (try simp only [List.map_toArray, List.map_cons, List.map_nil]); first | done | rfl | (simp only [List.length_drop, List.length_take]; rfl)) ?_; (with_reducible refine (strconv_FormatUint_24.calls a0 16 t128 _ A2.out).mono ?_); rintro e w4 ⟨rfl, hb⟩; refine ⟨_, rfl, ?_⟩; have n0_ := Aside0.mk (below_step (by repeat (first | (with_reducible first | exact HB.out | apply below_alloc | apply pw_below_drewN | apply below_drew1) | exact HB.out)) hb); clear HB; have HB := n0_; clear n0_; (try clear hb); (try clear hb2); (try clear hk); (try clear hi)))
    go_ret
    exact ⟨by first | rfl | (simp [errW_none, errW_some] <;> rfl) | (simp [*, errW_none, errW_some] <;> rfl), by repeat (first | (with_reducible first | exact HB.out | apply below_alloc | apply pw_below_drewN | apply below_drew1) | exact HB.out)⟩
  · rw [if_neg c3] at H
    exact absurd H (by simp)

end Go.Proofs.YtfajpcinmpbhgaaDoor.P
