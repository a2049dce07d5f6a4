/- Written for this claim by a program of this session (drive.py, over the print of the kit): Lean functions with the answers of Go functions, and the proofs that the Go code comes to these answers, under no condition but the readings of the arguments that each theorem names. -/
import Derived.Test.YtclomjndhcpmfaaPx0
import Derived.Test.YtclomjndhcpmfaaPx4
import Derived.Test.YtclomjndhcpmfaaPx5
import Derived.Test.YtclomjndhcpmfaaPx8
import Derived.Test.YtclomjndhcpmfaaPx9
namespace Go.Proofs.Ytclomjndhcpmfaa.P
open Go.RowKit Go.Proofs.YtclomjndhcpmfaaW.PrintWords Go.Proofs.YtclomjndhcpmfaaW.PrintLast Go.Proofs.YtclomjndhcpmfaaW.PrintMore
attribute [local go_sem] max2_int min2_int max_two min_two max_three min_three max_four min_four   -- for this text's walks alone
set_option linter.unusedVariables false
set_option linter.unusedSimpArgs false

/-! ### cleatlaw03_FlagShift: function 13 -/
mutual
def cleatlaw03_FlagShift.j0 : Nat → Int → Int → Int → Int → Int → Int → Int → Int → Int → Int → Bool → Option (Bool)
  | 0, _, _, _, _, _, _, _, _, _, _, _ => none
  | k + 1, x0, x1, x5, x6, x7, x8, x9, x10, x11, x12, x49 => if x49 = true then ((cleatlaw03_flagged.f k).bind fun t428 => (if t428 = true then (if x6 = 1 then (if x8 = x6 then (if x10 = x6 then (if x12 = x6 then (some ((IntKind.u64.wrap ((IntKind.u64.wrap ((IntKind.u64.wrap (x5 + x7)) + x9)) + x11)) == 0)) else (none)) else (none)) else (none)) else (none)) else (none))) else ((flag_Shift.f k x5 1 x1).bind fun bt429 => ((flag_Shift.f k x7 0 x1).bind fun bt431 => ((bits_Rotate.f k x0 x1 64).bind fun bt433 => (if x6 = 0 then (if x8 = 0 then (if x10 = 0 then (if x12 = 0 then (if bt429.2 = 0 then (if bt431.2 = 0 then (cleatlaw03_FlagShift.j1 k x0 x1 x7 x9 x11 bt429.1 bt431.1 bt433.1 (bt433.2 != 0)) else (cleatlaw03_FlagShift.j1 k x0 x1 x7 x9 x11 bt429.1 bt431.1 bt433.1 true)) else (cleatlaw03_FlagShift.j1 k x0 x1 x7 x9 x11 bt429.1 bt431.1 bt433.1 true)) else (cleatlaw03_FlagShift.j1 k x0 x1 x7 x9 x11 bt429.1 bt431.1 bt433.1 true)) else (cleatlaw03_FlagShift.j1 k x0 x1 x7 x9 x11 bt429.1 bt431.1 bt433.1 true)) else (cleatlaw03_FlagShift.j1 k x0 x1 x7 x9 x11 bt429.1 bt431.1 bt433.1 true)) else (cleatlaw03_FlagShift.j1 k x0 x1 x7 x9 x11 bt429.1 bt431.1 bt433.1 true)))))
def cleatlaw03_FlagShift.j1 : Nat → Int → Int → Int → Int → Int → Int → Int → Int → Bool → Option (Bool)
  | 0, _, _, _, _, _, _, _, _, _ => none
  | k + 1, x0, x1, x7, x9, x11, x13, x15, x17, x123 => if x123 = true then (none) else (if (wrap64 (x9)) ≥ 0 then (cleatlaw03_FlagShift.j2 k x0 x1 x9 x11 x13 x15 x17 (x9 == x7)) else (cleatlaw03_FlagShift.j2 k x0 x1 x9 x11 x13 x15 x17 false))
def cleatlaw03_FlagShift.j2 : Nat → Int → Int → Int → Int → Int → Int → Int → Bool → Option (Bool)
  | 0, _, _, _, _, _, _, _, _ => none
  | k + 1, x0, x1, x9, x11, x13, x15, x17, x19 => if (wrap64 (x0)) < 0 then (if (wrap64 (x9)) < 0 then (if 0 ≤ x1 then (if (shl .u64 1 x1) = 0 then (none) else ((cleatlaw03_flagged.f k).bind fun t435 => (if t435 = true then ((bits_Low.f x0 (wrap64 (64 - x1))).bind fun t436 => (if x13 = t436 then ((bits_Low.f x0 x1).bind fun t437 => (if x15 = (IntKind.u64.wrap (x0 - t437)) then (if x11 = x17 then (some ((IntKind.u64.wrap (18446744073709551615 - x9)) == (IntKind.u64.wrap (Int.tdiv (IntKind.u64.wrap (18446744073709551615 - x0)) (shl .u64 1 x1))))) else (none)) else (none))) else (none))) else (none)))) else (none)) else (none)) else ((cleatlaw03_flagged.f k).bind fun t441 => (if t441 = true then ((bits_Low.f x0 (wrap64 (64 - x1))).bind fun t442 => (if x13 = t442 then ((bits_Low.f x0 x1).bind fun t443 => (if x15 = (IntKind.u64.wrap (x0 - t443)) then (if x11 = x17 then (some x19) else (none)) else (none))) else (none))) else (none)))
end
def cleatlaw03_FlagShift.f (k : Nat) (a0 : Int) (a1 : Int) : Option (Bool) := (flag_Shift.f k a0 0 a1).bind fun bt420 => ((flag_Shift.f k a0 1 a1).bind fun bt422 => ((flag_Shift.f k a0 2 a1).bind fun bt424 => ((flag_Shift.f k a0 3 a1).bind fun bt426 => (if a1 < 0 then (cleatlaw03_FlagShift.j0 k a0 a1 bt420.1 bt420.2 bt422.1 bt422.2 bt424.1 bt424.2 bt426.1 bt426.2 true) else (cleatlaw03_FlagShift.j0 k a0 a1 bt420.1 bt420.2 bt422.1 bt422.2 bt424.1 bt424.2 bt426.1 bt426.2 (decide (a1 > 63)))))))
theorem cleatlaw03_FlagShift.mono_l : ∀ k, (∀ y0 y1 y2 y3 y4 y5 y6 y7 y8 y9 y10, LeO (cleatlaw03_FlagShift.j0 k y0 y1 y2 y3 y4 y5 y6 y7 y8 y9 y10) (cleatlaw03_FlagShift.j0 (k + 1) y0 y1 y2 y3 y4 y5 y6 y7 y8 y9 y10)) ∧ (∀ y0 y1 y2 y3 y4 y5 y6 y7 y8, LeO (cleatlaw03_FlagShift.j1 k y0 y1 y2 y3 y4 y5 y6 y7 y8) (cleatlaw03_FlagShift.j1 (k + 1) y0 y1 y2 y3 y4 y5 y6 y7 y8)) ∧ (∀ y0 y1 y2 y3 y4 y5 y6 y7, LeO (cleatlaw03_FlagShift.j2 k y0 y1 y2 y3 y4 y5 y6 y7) (cleatlaw03_FlagShift.j2 (k + 1) y0 y1 y2 y3 y4 y5 y6 y7))
  | 0 => ⟨fun _ _ _ _ _ _ _ _ _ _ _ r h => by simp [cleatlaw03_FlagShift.j0] at h, fun _ _ _ _ _ _ _ _ _ r h => by simp [cleatlaw03_FlagShift.j1] at h, fun _ _ _ _ _ _ _ _ r h => by simp [cleatlaw03_FlagShift.j2] at h⟩
  | k + 1 => by
    obtain ⟨ih0, ih1, ih2⟩ := cleatlaw03_FlagShift.mono_l k
    refine ⟨?_, ?_, ?_⟩
    · intro y0 y1 y2 y3 y4 y5 y6 y7 y8 y9 y10
      unfold cleatlaw03_FlagShift.j0
      repeat' first
      | (with_reducible exact ih0 _ _ _ _ _ _ _ _ _ _ _)
      | (with_reducible exact ih1 _ _ _ _ _ _ _ _ _)
      | (with_reducible exact ih2 _ _ _ _ _ _ _ _)
      | (with_reducible exact bits_Rotate.mono _ _ _ _)
      | (with_reducible exact cleatlaw03_flagged.mono _)
      | (with_reducible exact flag_Shift.mono _ _ _ _)
      | (with_reducible exact LeO.refl _)
      | (with_reducible exact LeO.none _)
      | (with_reducible refine LeO.ite ?_ ?_)
      | (with_reducible refine LeO.bind ?_ (fun _ => ?_))
      | exact ih0 _ _ _ _ _ _ _ _ _ _ _
      | exact ih1 _ _ _ _ _ _ _ _ _
      | exact ih2 _ _ _ _ _ _ _ _
      | exact bits_Rotate.mono _ _ _ _
      | exact cleatlaw03_flagged.mono _
      | exact flag_Shift.mono _ _ _ _
      | exact LeO.none _
      | refine LeO.ite ?_ ?_
      | refine LeO.bind ?_ (fun _ => ?_)
    · intro y0 y1 y2 y3 y4 y5 y6 y7 y8
      unfold cleatlaw03_FlagShift.j1
      repeat' first
      | (with_reducible exact ih0 _ _ _ _ _ _ _ _ _ _ _)
      | (with_reducible exact ih1 _ _ _ _ _ _ _ _ _)
      | (with_reducible exact ih2 _ _ _ _ _ _ _ _)
      | (with_reducible exact bits_Rotate.mono _ _ _ _)
      | (with_reducible exact cleatlaw03_flagged.mono _)
      | (with_reducible exact flag_Shift.mono _ _ _ _)
      | (with_reducible exact LeO.refl _)
      | (with_reducible exact LeO.none _)
      | (with_reducible refine LeO.ite ?_ ?_)
      | (with_reducible refine LeO.bind ?_ (fun _ => ?_))
      | exact ih0 _ _ _ _ _ _ _ _ _ _ _
      | exact ih1 _ _ _ _ _ _ _ _ _
      | exact ih2 _ _ _ _ _ _ _ _
      | exact bits_Rotate.mono _ _ _ _
      | exact cleatlaw03_flagged.mono _
      | exact flag_Shift.mono _ _ _ _
      | exact LeO.none _
      | refine LeO.ite ?_ ?_
      | refine LeO.bind ?_ (fun _ => ?_)
    · intro y0 y1 y2 y3 y4 y5 y6 y7
      unfold cleatlaw03_FlagShift.j2
      repeat' first
      | (with_reducible exact ih0 _ _ _ _ _ _ _ _ _ _ _)
      | (with_reducible exact ih1 _ _ _ _ _ _ _ _ _)
      | (with_reducible exact ih2 _ _ _ _ _ _ _ _)
      | (with_reducible exact bits_Rotate.mono _ _ _ _)
      | (with_reducible exact cleatlaw03_flagged.mono _)
      | (with_reducible exact flag_Shift.mono _ _ _ _)
      | (with_reducible exact LeO.refl _)
      | (with_reducible exact LeO.none _)
      | (with_reducible refine LeO.ite ?_ ?_)
      | (with_reducible refine LeO.bind ?_ (fun _ => ?_))
      | exact ih0 _ _ _ _ _ _ _ _ _ _ _
      | exact ih1 _ _ _ _ _ _ _ _ _
      | exact ih2 _ _ _ _ _ _ _ _
      | exact bits_Rotate.mono _ _ _ _
      | exact cleatlaw03_flagged.mono _
      | exact flag_Shift.mono _ _ _ _
      | exact LeO.none _
      | refine LeO.ite ?_ ?_
      | refine LeO.bind ?_ (fun _ => ?_)
theorem cleatlaw03_FlagShift.mono : ∀ a0 a1 k, LeO (cleatlaw03_FlagShift.f k a0 a1) (cleatlaw03_FlagShift.f (k + 1) a0 a1) := by
  intro a0 a1 k
  obtain ⟨ih0, ih1, ih2⟩ := cleatlaw03_FlagShift.mono_l k
  unfold cleatlaw03_FlagShift.f
  repeat' first
      | (with_reducible exact ih0 _ _ _ _ _ _ _ _ _ _ _)
      | (with_reducible exact ih1 _ _ _ _ _ _ _ _ _)
      | (with_reducible exact ih2 _ _ _ _ _ _ _ _)
      | (with_reducible exact bits_Rotate.mono _ _ _ _)
      | (with_reducible exact cleatlaw03_flagged.mono _)
      | (with_reducible exact flag_Shift.mono _ _ _ _)
      | (with_reducible exact LeO.refl _)
      | (with_reducible exact LeO.none _)
      | (with_reducible refine LeO.ite ?_ ?_)
      | (with_reducible refine LeO.bind ?_ (fun _ => ?_))
      | exact ih0 _ _ _ _ _ _ _ _ _ _ _
      | exact ih1 _ _ _ _ _ _ _ _ _
      | exact ih2 _ _ _ _ _ _ _ _
      | exact bits_Rotate.mono _ _ _ _
      | exact cleatlaw03_flagged.mono _
      | exact flag_Shift.mono _ _ _ _
      | exact LeO.none _
      | refine LeO.ite ?_ ?_
      | refine LeO.bind ?_ (fun _ => ?_)
set_option maxHeartbeats 8000000 in
set_option maxRecDepth 100000 in
theorem cleatlaw03_FlagShift.calls (k : Nat) (a0 : Int) (a1 : Int) (r : Bool) (w : World) (h : cleatlaw03_FlagShift.f k a0 a1 = some r) :
    Calls Try.prog 13 #[.int .u64 a0, .int .i64 a1] w fun e w' => e = .returned (.bool r) ∧ Below w.heap.size w w' := by
  have HB := Aside0.mk (Below.refl w.heap.size w)
  have H : ((flag_Shift.f k a0 0 a1).bind fun bt420 => ((flag_Shift.f k a0 1 a1).bind fun bt422 => ((flag_Shift.f k a0 2 a1).bind fun bt424 => ((flag_Shift.f k a0 3 a1).bind fun bt426 => (if a1 < 0 then (cleatlaw03_FlagShift.j0 k a0 a1 bt420.1 bt420.2 bt422.1 bt422.2 bt424.1 bt424.2 bt426.1 bt426.2 true) else (cleatlaw03_FlagShift.j0 k a0 a1 bt420.1 bt420.2 bt422.1 bt422.2 bt424.1 bt424.2 bt426.1 bt426.2 (decide (a1 > 63)))))))) = some r := h
  clear h
  replace H := Option.bind_eq_some_iff.mp H
  obtain ⟨⟨t420, t421⟩, A30, H⟩ := H
  replace H : ((flag_Shift.f k a0 1 a1).bind fun bt422 => ((flag_Shift.f k a0 2 a1).bind fun bt424 => ((flag_Shift.f k a0 3 a1).bind fun bt426 => (if a1 < 0 then (cleatlaw03_FlagShift.j0 k a0 a1 t420 t421 bt422.1 bt422.2 bt424.1 bt424.2 bt426.1 bt426.2 true) else (cleatlaw03_FlagShift.j0 k a0 a1 t420 t421 bt422.1 bt422.2 bt424.1 bt424.2 bt426.1 bt426.2 (decide (a1 > 63))))))) = some r := H
  have A3 := Aside0.mk A30
  clear A30
  replace H := Option.bind_eq_some_iff.mp H
  obtain ⟨⟨t422, t423⟩, A40, H⟩ := H
  replace H : ((flag_Shift.f k a0 2 a1).bind fun bt424 => ((flag_Shift.f k a0 3 a1).bind fun bt426 => (if a1 < 0 then (cleatlaw03_FlagShift.j0 k a0 a1 t420 t421 t422 t423 bt424.1 bt424.2 bt426.1 bt426.2 true) else (cleatlaw03_FlagShift.j0 k a0 a1 t420 t421 t422 t423 bt424.1 bt424.2 bt426.1 bt426.2 (decide (a1 > 63)))))) = some r := H
  have A4 := Aside0.mk A40
  clear A40
  replace H := Option.bind_eq_some_iff.mp H
  obtain ⟨⟨t424, t425⟩, A50, H⟩ := H
  replace H : ((flag_Shift.f k a0 3 a1).bind fun bt426 => (if a1 < 0 then (cleatlaw03_FlagShift.j0 k a0 a1 t420 t421 t422 t423 t424 t425 bt426.1 bt426.2 true) else (cleatlaw03_FlagShift.j0 k a0 a1 t420 t421 t422 t423 t424 t425 bt426.1 bt426.2 (decide (a1 > 63))))) = some r := H
  have A5 := Aside0.mk A50
  clear A50
  replace H := Option.bind_eq_some_iff.mp H
  obtain ⟨⟨t426, t427⟩, A60, H⟩ := H
  replace H : (if a1 < 0 then (cleatlaw03_FlagShift.j0 k a0 a1 t420 t421 t422 t423 t424 t425 t426 t427 true) else (cleatlaw03_FlagShift.j0 k a0 a1 t420 t421 t422 t423 t424 t425 t426 t427 (decide (a1 > 63)))) = some r := H
  have A6 := Aside0.mk A60
  clear A60
  have HC7 := Aside0.mk H
  clear H
  go_enter Try.func13, Try.ntmps13
  go_upto_region 5 with (first | ((with_reducible refine gate_callee (f := 20) rfl ?_); refine goesL_ (some 23) rfl rfl Try.func20 (by kernel_rfl) rfl #[.int .u64 a0, .int .i64 0, .int .i64 a1] rfl (by (try simp only [List.map_toArray, List.map_cons, List.map_nil]); first | done | rfl | (simp only [List.length_drop, List.length_take]; rfl)) ?_; (with_reducible refine (flag_Shift.calls k a0 0 a1 t420 t421 _ A3.out).mono ?_); rintro e w' ⟨rfl, ⟨nd, rfl⟩⟩; refine ⟨_, rfl, ?_⟩) | ((with_reducible refine gate_callee (f := 20) rfl ?_); refine goesL_ (some 29) rfl rfl Try.func20 (by kernel_rfl) rfl #[.int .u64 a0, .int .i64 1, .int .i64 a1] rfl (by (try simp only [List.map_toArray, List.map_cons, List.map_nil]); first | done | rfl | (simp only [List.length_drop, List.length_take]; rfl)) ?_; (with_reducible refine (flag_Shift.calls k a0 1 a1 t422 t423 _ A4.out).mono ?_); rintro e w' ⟨rfl, ⟨nd, rfl⟩⟩; refine ⟨_, rfl, ?_⟩) | ((with_reducible refine gate_callee (f := 20) rfl ?_); refine goesL_ (some 35) rfl rfl Try.func20 (by kernel_rfl) rfl #[.int .u64 a0, .int .i64 2, .int .i64 a1] rfl (by (try simp only [List.map_toArray, List.map_cons, List.map_nil]); first | done | rfl | (simp only [List.length_drop, List.length_take]; rfl)) ?_; (with_reducible refine (flag_Shift.calls k a0 2 a1 t424 t425 _ A5.out).mono ?_); rintro e w' ⟨rfl, ⟨nd, rfl⟩⟩; refine ⟨_, rfl, ?_⟩) | ((with_reducible refine gate_callee (f := 20) rfl ?_); refine goesL_ (some 41) rfl rfl Try.func20 (by kernel_rfl) rfl #[.int .u64 a0, .int .i64 3, .int .i64 a1] rfl (by (try simp only [List.map_toArray, List.map_cons, List.map_nil]); first | done | rfl | (simp only [List.length_drop, List.length_take]; rfl)) ?_; (with_reducible refine (flag_Shift.calls k a0 3 a1 t426 t427 _ A6.out).mono ?_); rintro e w' ⟨rfl, ⟨nd, rfl⟩⟩; refine ⟨_, rfl, ?_⟩))
  (try simp only [Act.put, List.setIfInBounds_toArray, List.set_cons_zero, List.set_cons_succ])
  go_cut [49] (fun v49 wc => ∃ (kq : Nat) (x49_6 : Bool), v49 = .bool x49_6 ∧ Aside0 (cleatlaw03_FlagShift.j0 kq a0 a1 t420 t421 t422 t423 t424 t425 t426 t427 x49_6 = some r) ∧ Aside0 (kq ≤ k) ∧ Aside0 (Below w.heap.size w wc))
  case first =>
    have H := HC7.out
    clear HC7
    by_cases c8 : a1 < 0
    · rw [if_pos c8] at H
      have c8b0 : decide (a1 < 0) = true := decide_eq_true c8
      clear c8
      (first | rw [c8b0] | (simp only [i64_w, i32_w]; rw [c8b0]) | skip)
      have H' := Aside0.mk H
      clear H
      go_wp2
      go_meet
      case rel => exact ⟨_, (true), (by first | rfl | (simp; done) | (simp [*]; done)), H', ⟨by first | omega | exact Nat.le_refl _⟩, ⟨by repeat (first | (with_reducible first | exact HB.out | apply below_alloc | apply pw_below_drewN | apply below_drew1) | exact HB.out)⟩⟩
    · rw [if_neg c8] at H
      have c8b0 : decide (a1 < 0) = false := decide_eq_false c8
      clear c8
      (first | rw [c8b0] | (simp only [i64_w, i32_w]; rw [c8b0]) | skip)
      have H' := Aside0.mk H
      clear H
      go_wp2
      go_meet
      case rel => exact ⟨_, (decide (a1 > 63)), (by first | rfl | (simp; done) | (simp [*]; done)), H', ⟨by first | omega | exact Nat.le_refl _⟩, ⟨by repeat (first | (with_reducible first | exact HB.out | apply below_alloc | apply pw_below_drewN | apply below_drew1) | exact HB.out)⟩⟩
  case rest =>
    clear HC7
    try clear c1
    try clear c2
    try clear p2
    try clear c8
    try clear c8b0
    obtain ⟨kq, x49_6, rfl, HA, HJ6, HB⟩ := hcut
    cases kq with
    | zero => exact absurd HA.out (by simp [cleatlaw03_FlagShift.j0])
    | succ kj6 =>
      have H := HA.out
      clear HA
      simp only [cleatlaw03_FlagShift.j0] at H
      by_cases c9 : x49_6 = true
      · subst c9
        have H1 : ((cleatlaw03_flagged.f kj6).bind fun t428 => (if t428 = true then (if t421 = 1 then (if t423 = t421 then (if t425 = t421 then (if t427 = t421 then (some ((IntKind.u64.wrap ((IntKind.u64.wrap ((IntKind.u64.wrap (t420 + t422)) + t424)) + t426)) == 0)) else (none)) else (none)) else (none)) else (none)) else (none))) = some r := by rw [if_pos rfl] at H; exact H
        clear H
        have H := H1
        clear H1
        replace H := Option.bind_eq_some_iff.mp H
        obtain ⟨t428, A100, H⟩ := H
        replace H : (if t428 = true then (if t421 = 1 then (if t423 = t421 then (if t425 = t421 then (if t427 = t421 then (some ((IntKind.u64.wrap ((IntKind.u64.wrap ((IntKind.u64.wrap (t420 + t422)) + t424)) + t426)) == 0)) else (none)) else (none)) else (none)) else (none)) else (none)) = some r := H
        have A10 := Aside0.mk A100
        clear A100
        by_cases c11 : t428 = true
        · subst c11
          have H1 : (if t421 = 1 then (if t423 = t421 then (if t425 = t421 then (if t427 = t421 then (some ((IntKind.u64.wrap ((IntKind.u64.wrap ((IntKind.u64.wrap (t420 + t422)) + t424)) + t426)) == 0)) else (none)) else (none)) else (none)) else (none)) = some r := by rw [if_pos rfl] at H; exact H
          clear H
          have H := H1
          clear H1
          by_cases c12 : t421 = 1
          · rw [if_pos c12] at H
            have c12b0 : (t421 == 1) = true := beq_iff_eq.mpr c12
            have c12b1 : (t421 != 1) = false := bne_eq_false_iff_eq.mpr c12
            clear c12
            by_cases c13 : t423 = t421
            · rw [if_pos c13] at H
              have c13b0 : (t423 == t421) = true := beq_iff_eq.mpr c13
              have c13b1 : (t423 != t421) = false := bne_eq_false_iff_eq.mpr c13
              clear c13
              by_cases c14 : t425 = t421
              · rw [if_pos c14] at H
                have c14b0 : (t425 == t421) = true := beq_iff_eq.mpr c14
                have c14b1 : (t425 != t421) = false := bne_eq_false_iff_eq.mpr c14
                clear c14
                by_cases c15 : t427 = t421
                · rw [if_pos c15] at H
                  have c15b0 : (t427 == t421) = true := beq_iff_eq.mpr c15
                  have c15b1 : (t427 != t421) = false := bne_eq_false_iff_eq.mpr c15
                  clear c15
                  obtain rfl := Option.some.inj H
                  go_wp2_with (first | ((with_reducible refine gate_callee (f := 22) rfl ?_); refine goesL_ (some 50) rfl rfl Try.func22 (by kernel_rfl) rfl #[] rfl (by (try simp only [List.map_toArray, List.map_cons, List.map_nil]); first | done | rfl | (simp only [List.length_drop, List.length_take]; rfl)) ?_; (with_reducible refine (cleatlaw03_flagged.calls kj6  true _ A10.out).mono ?_); rintro e w16 ⟨rfl, hb⟩; refine ⟨_, rfl, ?_⟩; have n0_ := Aside0.mk (below_step (by repeat (first | (with_reducible first | exact HB.out | apply below_alloc | apply pw_below_drewN | apply below_drew1) | exact HB.out)) hb); clear HB; have HB := n0_; clear n0_; (try clear hb); (try clear hb2); (try clear hk); (try clear hi)))
                  go_ret
                  exact ⟨by first | rfl | (simp [errW_none, errW_some] <;> rfl) | (simp [*, errW_none, errW_some] <;> rfl), by repeat (first | (with_reducible first | exact HB.out | apply below_alloc | apply pw_below_drewN | apply below_drew1) | exact HB.out)⟩
                · rw [if_neg c15] at H
                  exact absurd H (by simp)
              · rw [if_neg c14] at H
                exact absurd H (by simp)
            · rw [if_neg c13] at H
              exact absurd H (by simp)
          · rw [if_neg c12] at H
            exact absurd H (by simp)
        · replace c11 := Bool.eq_false_iff.mpr c11
          subst c11
          have H1 : (none) = some r := by rw [if_neg (show ¬ (false = true) by decide)] at H; exact H
          clear H
          have H := H1
          clear H1
          exact absurd H (by simp)
      · replace c9 := Bool.eq_false_iff.mpr c9
        subst c9
        have H1 : ((flag_Shift.f kj6 t420 1 a1).bind fun bt429 => ((flag_Shift.f kj6 t422 0 a1).bind fun bt431 => ((bits_Rotate.f kj6 a0 a1 64).bind fun bt433 => (if t421 = 0 then (if t423 = 0 then (if t425 = 0 then (if t427 = 0 then (if bt429.2 = 0 then (if bt431.2 = 0 then (cleatlaw03_FlagShift.j1 kj6 a0 a1 t422 t424 t426 bt429.1 bt431.1 bt433.1 (bt433.2 != 0)) else (cleatlaw03_FlagShift.j1 kj6 a0 a1 t422 t424 t426 bt429.1 bt431.1 bt433.1 true)) else (cleatlaw03_FlagShift.j1 kj6 a0 a1 t422 t424 t426 bt429.1 bt431.1 bt433.1 true)) else (cleatlaw03_FlagShift.j1 kj6 a0 a1 t422 t424 t426 bt429.1 bt431.1 bt433.1 true)) else (cleatlaw03_FlagShift.j1 kj6 a0 a1 t422 t424 t426 bt429.1 bt431.1 bt433.1 true)) else (cleatlaw03_FlagShift.j1 kj6 a0 a1 t422 t424 t426 bt429.1 bt431.1 bt433.1 true)) else (cleatlaw03_FlagShift.j1 kj6 a0 a1 t422 t424 t426 bt429.1 bt431.1 bt433.1 true))))) = some r := by rw [if_neg (show ¬ (false = true) by decide)] at H; exact H
        clear H
        have H := H1
        clear H1
        replace H := Option.bind_eq_some_iff.mp H
        obtain ⟨⟨t429, t430⟩, A170, H⟩ := H
        replace H : ((flag_Shift.f kj6 t422 0 a1).bind fun bt431 => ((bits_Rotate.f kj6 a0 a1 64).bind fun bt433 => (if t421 = 0 then (if t423 = 0 then (if t425 = 0 then (if t427 = 0 then (if t430 = 0 then (if bt431.2 = 0 then (cleatlaw03_FlagShift.j1 kj6 a0 a1 t422 t424 t426 t429 bt431.1 bt433.1 (bt433.2 != 0)) else (cleatlaw03_FlagShift.j1 kj6 a0 a1 t422 t424 t426 t429 bt431.1 bt433.1 true)) else (cleatlaw03_FlagShift.j1 kj6 a0 a1 t422 t424 t426 t429 bt431.1 bt433.1 true)) else (cleatlaw03_FlagShift.j1 kj6 a0 a1 t422 t424 t426 t429 bt431.1 bt433.1 true)) else (cleatlaw03_FlagShift.j1 kj6 a0 a1 t422 t424 t426 t429 bt431.1 bt433.1 true)) else (cleatlaw03_FlagShift.j1 kj6 a0 a1 t422 t424 t426 t429 bt431.1 bt433.1 true)) else (cleatlaw03_FlagShift.j1 kj6 a0 a1 t422 t424 t426 t429 bt431.1 bt433.1 true)))) = some r := H
        have A17 := Aside0.mk A170
        clear A170
        replace H := Option.bind_eq_some_iff.mp H
        obtain ⟨⟨t431, t432⟩, A180, H⟩ := H
        replace H : ((bits_Rotate.f kj6 a0 a1 64).bind fun bt433 => (if t421 = 0 then (if t423 = 0 then (if t425 = 0 then (if t427 = 0 then (if t430 = 0 then (if t432 = 0 then (cleatlaw03_FlagShift.j1 kj6 a0 a1 t422 t424 t426 t429 t431 bt433.1 (bt433.2 != 0)) else (cleatlaw03_FlagShift.j1 kj6 a0 a1 t422 t424 t426 t429 t431 bt433.1 true)) else (cleatlaw03_FlagShift.j1 kj6 a0 a1 t422 t424 t426 t429 t431 bt433.1 true)) else (cleatlaw03_FlagShift.j1 kj6 a0 a1 t422 t424 t426 t429 t431 bt433.1 true)) else (cleatlaw03_FlagShift.j1 kj6 a0 a1 t422 t424 t426 t429 t431 bt433.1 true)) else (cleatlaw03_FlagShift.j1 kj6 a0 a1 t422 t424 t426 t429 t431 bt433.1 true)) else (cleatlaw03_FlagShift.j1 kj6 a0 a1 t422 t424 t426 t429 t431 bt433.1 true))) = some r := H
        have A18 := Aside0.mk A180
        clear A180
        replace H := Option.bind_eq_some_iff.mp H
        obtain ⟨⟨t433, t434⟩, A190, H⟩ := H
        replace H : (if t421 = 0 then (if t423 = 0 then (if t425 = 0 then (if t427 = 0 then (if t430 = 0 then (if t432 = 0 then (cleatlaw03_FlagShift.j1 kj6 a0 a1 t422 t424 t426 t429 t431 t433 (t434 != 0)) else (cleatlaw03_FlagShift.j1 kj6 a0 a1 t422 t424 t426 t429 t431 t433 true)) else (cleatlaw03_FlagShift.j1 kj6 a0 a1 t422 t424 t426 t429 t431 t433 true)) else (cleatlaw03_FlagShift.j1 kj6 a0 a1 t422 t424 t426 t429 t431 t433 true)) else (cleatlaw03_FlagShift.j1 kj6 a0 a1 t422 t424 t426 t429 t431 t433 true)) else (cleatlaw03_FlagShift.j1 kj6 a0 a1 t422 t424 t426 t429 t431 t433 true)) else (cleatlaw03_FlagShift.j1 kj6 a0 a1 t422 t424 t426 t429 t431 t433 true)) = some r := H
        have A19 := Aside0.mk A190
        clear A190
        have HC20 := Aside0.mk H
        clear H
        go_upto_region 10 with (first | ((with_reducible refine gate_callee (f := 20) rfl ?_); refine goesL_ (some 83) rfl rfl Try.func20 (by kernel_rfl) rfl #[.int .u64 t420, .int .i64 1, .int .i64 a1] rfl (by (try simp only [List.map_toArray, List.map_cons, List.map_nil]); first | done | rfl | (simp only [List.length_drop, List.length_take]; rfl)) ?_; (with_reducible refine (flag_Shift.calls kj6 t420 1 a1 t429 t430 _ A17.out).mono ?_); rintro e w' ⟨rfl, ⟨nd, rfl⟩⟩; refine ⟨_, rfl, ?_⟩) | ((with_reducible refine gate_callee (f := 20) rfl ?_); refine goesL_ (some 89) rfl rfl Try.func20 (by kernel_rfl) rfl #[.int .u64 t422, .int .i64 0, .int .i64 a1] rfl (by (try simp only [List.map_toArray, List.map_cons, List.map_nil]); first | done | rfl | (simp only [List.length_drop, List.length_take]; rfl)) ?_; (with_reducible refine (flag_Shift.calls kj6 t422 0 a1 t431 t432 _ A18.out).mono ?_); rintro e w' ⟨rfl, ⟨nd, rfl⟩⟩; refine ⟨_, rfl, ?_⟩) | ((with_reducible refine gate_callee (f := 31) rfl ?_); refine goesL_ (some 95) rfl rfl Try.func31 (by kernel_rfl) rfl #[.int .u64 a0, .int .i64 a1, .int .i64 64] rfl (by (try simp only [List.map_toArray, List.map_cons, List.map_nil]); first | done | rfl | (simp only [List.length_drop, List.length_take]; rfl)) ?_; (with_reducible refine (bits_Rotate.calls kj6 a0 a1 64 t433 t434 _ A19.out).mono ?_); rintro e w21 ⟨rfl, hb⟩; refine ⟨_, rfl, ?_⟩; have n0_ := Aside0.mk (below_step (by repeat (first | (with_reducible first | exact HB.out | apply below_alloc | apply pw_below_drewN | apply below_drew1) | exact HB.out)) hb); clear HB; have HB := n0_; clear n0_; (try clear hb); (try clear hb2); (try clear hk); (try clear hi)))
        (try simp only [Act.put, List.setIfInBounds_toArray, List.set_cons_zero, List.set_cons_succ])
        go_cut [123] (fun v123 wc => ∃ (kq : Nat) (x123_19 : Bool), v123 = .bool x123_19 ∧ Aside0 (cleatlaw03_FlagShift.j1 kq a0 a1 t422 t424 t426 t429 t431 t433 x123_19 = some r) ∧ Aside0 (kq ≤ kj6) ∧ Aside0 (Below w.heap.size w wc))
        case first =>
          have H := HC20.out
          clear HC20
          by_cases c22 : t421 = 0
          · rw [if_pos c22] at H
            have c22b0 : (t421 == 0) = true := beq_iff_eq.mpr c22
            have c22b1 : (t421 != 0) = false := bne_eq_false_iff_eq.mpr c22
            clear c22
            (first | rw [c22b0] | (simp only [i64_w, i32_w]; rw [c22b0]) | skip)
            by_cases c23 : t423 = 0
            · rw [if_pos c23] at H
              have c23b0 : (t423 == 0) = true := beq_iff_eq.mpr c23
              have c23b1 : (t423 != 0) = false := bne_eq_false_iff_eq.mpr c23
              clear c23
              by_cases c24 : t425 = 0
              · rw [if_pos c24] at H
                have c24b0 : (t425 == 0) = true := beq_iff_eq.mpr c24
                have c24b1 : (t425 != 0) = false := bne_eq_false_iff_eq.mpr c24
                clear c24
                by_cases c25 : t427 = 0
                · rw [if_pos c25] at H
                  have c25b0 : (t427 == 0) = true := beq_iff_eq.mpr c25
                  have c25b1 : (t427 != 0) = false := bne_eq_false_iff_eq.mpr c25
                  clear c25
                  by_cases c26 : t430 = 0
                  · rw [if_pos c26] at H
                    have c26b0 : (t430 == 0) = true := beq_iff_eq.mpr c26
                    have c26b1 : (t430 != 0) = false := bne_eq_false_iff_eq.mpr c26
                    clear c26
                    by_cases c27 : t432 = 0
                    · rw [if_pos c27] at H
                      have c27b0 : (t432 == 0) = true := beq_iff_eq.mpr c27
                      have c27b1 : (t432 != 0) = false := bne_eq_false_iff_eq.mpr c27
                      clear c27
                      have H' := Aside0.mk H
                      clear H
                      go_wp2
                      go_meet
                      case rel => exact ⟨_, ((t434 != 0)), (by first | rfl | (simp; done) | (simp [*]; done)), H', ⟨by have := HJ6.out; first | omega | exact Nat.le_refl _⟩, ⟨by repeat (first | (with_reducible first | exact HB.out | apply below_alloc | apply pw_below_drewN | apply below_drew1) | exact HB.out)⟩⟩
                    · rw [if_neg c27] at H
                      have c27b0 : (t432 == 0) = false := beq_eq_false_iff_ne.mpr c27
                      have c27b1 : (t432 != 0) = true := bne_iff_ne.mpr c27
                      have H' := Aside0.mk H
                      clear H
                      go_wp2
                      go_meet
                      case rel => exact ⟨_, (true), (by first | rfl | (simp; done) | (simp [*]; done)), H', ⟨by have := HJ6.out; first | omega | exact Nat.le_refl _⟩, ⟨by repeat (first | (with_reducible first | exact HB.out | apply below_alloc | apply pw_below_drewN | apply below_drew1) | exact HB.out)⟩⟩
                  · rw [if_neg c26] at H
                    have c26b0 : (t430 == 0) = false := beq_eq_false_iff_ne.mpr c26
                    have c26b1 : (t430 != 0) = true := bne_iff_ne.mpr c26
                    have H' := Aside0.mk H
                    clear H
                    go_wp2
                    go_meet
                    case rel => exact ⟨_, (true), (by first | rfl | (simp; done) | (simp [*]; done)), H', ⟨by have := HJ6.out; first | omega | exact Nat.le_refl _⟩, ⟨by repeat (first | (with_reducible first | exact HB.out | apply below_alloc | apply pw_below_drewN | apply below_drew1) | exact HB.out)⟩⟩
                · rw [if_neg c25] at H
                  have c25b0 : (t427 == 0) = false := beq_eq_false_iff_ne.mpr c25
                  have c25b1 : (t427 != 0) = true := bne_iff_ne.mpr c25
                  have H' := Aside0.mk H
                  clear H
                  go_wp2
                  go_meet
                  case rel => exact ⟨_, (true), (by first | rfl | (simp; done) | (simp [*]; done)), H', ⟨by have := HJ6.out; first | omega | exact Nat.le_refl _⟩, ⟨by repeat (first | (with_reducible first | exact HB.out | apply below_alloc | apply pw_below_drewN | apply below_drew1) | exact HB.out)⟩⟩
              · rw [if_neg c24] at H
                have c24b0 : (t425 == 0) = false := beq_eq_false_iff_ne.mpr c24
                have c24b1 : (t425 != 0) = true := bne_iff_ne.mpr c24
                have H' := Aside0.mk H
                clear H
                go_wp2
                go_meet
                case rel => exact ⟨_, (true), (by first | rfl | (simp; done) | (simp [*]; done)), H', ⟨by have := HJ6.out; first | omega | exact Nat.le_refl _⟩, ⟨by repeat (first | (with_reducible first | exact HB.out | apply below_alloc | apply pw_below_drewN | apply below_drew1) | exact HB.out)⟩⟩
            · rw [if_neg c23] at H
              have c23b0 : (t423 == 0) = false := beq_eq_false_iff_ne.mpr c23
              have c23b1 : (t423 != 0) = true := bne_iff_ne.mpr c23
              have H' := Aside0.mk H
              clear H
              go_wp2
              go_meet
              case rel => exact ⟨_, (true), (by first | rfl | (simp; done) | (simp [*]; done)), H', ⟨by have := HJ6.out; first | omega | exact Nat.le_refl _⟩, ⟨by repeat (first | (with_reducible first | exact HB.out | apply below_alloc | apply pw_below_drewN | apply below_drew1) | exact HB.out)⟩⟩
          · rw [if_neg c22] at H
            have c22b0 : (t421 == 0) = false := beq_eq_false_iff_ne.mpr c22
            have c22b1 : (t421 != 0) = true := bne_iff_ne.mpr c22
            (first | rw [c22b0] | (simp only [i64_w, i32_w]; rw [c22b0]) | skip)
            have H' := Aside0.mk H
            clear H
            go_wp2
            go_meet
            case rel => exact ⟨_, (true), (by first | rfl | (simp; done) | (simp [*]; done)), H', ⟨by have := HJ6.out; first | omega | exact Nat.le_refl _⟩, ⟨by repeat (first | (with_reducible first | exact HB.out | apply below_alloc | apply pw_below_drewN | apply below_drew1) | exact HB.out)⟩⟩
        case rest =>
          clear HC20
          try clear c1
          try clear c2
          try clear p2
          try clear c3
          try clear c8
          try clear c8b0
          try clear c9
          try clear c11
          try clear c12
          try clear c12b0
          try clear c12b1
          try clear c13
          try clear c13b0
          try clear c13b1
          try clear c14
          try clear c14b0
          try clear c14b1
          try clear c15
          try clear c15b0
          try clear c15b1
          try clear c20
          try clear c22
          try clear c22b0
          try clear c22b1
          try clear c23
          try clear c23b0
          try clear c23b1
          try clear c24
          try clear c24b0
          try clear c24b1
          try clear c25
          try clear c25b0
          try clear c25b1
          try clear c26
          try clear c26b0
          try clear c26b1
          try clear c27
          try clear c27b0
          try clear c27b1
          try clear p2
          obtain ⟨kq, x123_19, rfl, HA, HJ19, HB⟩ := hcut
          cases kq with
          | zero => exact absurd HA.out (by simp [cleatlaw03_FlagShift.j1])
          | succ kj19 =>
            have H := HA.out
            clear HA
            simp only [cleatlaw03_FlagShift.j1] at H
            by_cases c28 : x123_19 = true
            · subst c28
              have H1 : (none) = some r := by rw [if_pos rfl] at H; exact H
              clear H
              have H := H1
              clear H1
              exact absurd H (by simp)
            · replace c28 := Bool.eq_false_iff.mpr c28
              subst c28
              have H1 : (if (wrap64 (t424)) ≥ 0 then (cleatlaw03_FlagShift.j2 kj19 a0 a1 t424 t426 t429 t431 t433 (t424 == t422)) else (cleatlaw03_FlagShift.j2 kj19 a0 a1 t424 t426 t429 t431 t433 false)) = some r := by rw [if_neg (show ¬ (false = true) by decide)] at H; exact H
              clear H
              have H := H1
              clear H1
              have HC29 := Aside0.mk H
              clear H
              go_upto_region 12 with (fail)
              go_cut [19] (fun v19 wc => ∃ (kq : Nat) (x19_28 : Bool), v19 = .bool x19_28 ∧ Aside0 (cleatlaw03_FlagShift.j2 kq a0 a1 t424 t426 t429 t431 t433 x19_28 = some r) ∧ Aside0 (kq ≤ kj19) ∧ Aside0 (Below w.heap.size w wc))
              case first =>
                have H := HC29.out
                clear HC29
                by_cases c30 : (wrap64 (t424)) ≥ 0
                · rw [if_pos c30] at H
                  have c30b0 : decide (0 ≤ (wrap64 (t424))) = true := decide_eq_true c30
                  clear c30
                  (first | rw [c30b0] | (simp only [i64_w, i32_w]; rw [c30b0]) | skip)
                  have H' := Aside0.mk H
                  clear H
                  go_wp2
                  go_meet
                  case rel => exact ⟨_, ((t424 == t422)), (by first | rfl | (simp; done) | (simp [*]; done)), H', ⟨by have := HJ6.out; have := HJ19.out; first | omega | exact Nat.le_refl _⟩, ⟨by repeat (first | (with_reducible first | exact HB.out | apply below_alloc | apply pw_below_drewN | apply below_drew1) | exact HB.out)⟩⟩
                · rw [if_neg c30] at H
                  have c30b0 : decide (0 ≤ (wrap64 (t424))) = false := decide_eq_false c30
                  clear c30
                  (first | rw [c30b0] | (simp only [i64_w, i32_w]; rw [c30b0]) | skip)
                  have H' := Aside0.mk H
                  clear H
                  go_wp2
                  go_meet
                  case rel => exact ⟨_, (false), (by first | rfl | (simp; done) | (simp [*]; done)), H', ⟨by have := HJ6.out; have := HJ19.out; first | omega | exact Nat.le_refl _⟩, ⟨by repeat (first | (with_reducible first | exact HB.out | apply below_alloc | apply pw_below_drewN | apply below_drew1) | exact HB.out)⟩⟩
              case rest =>
                clear HC29
                try clear c1
                try clear c2
                try clear p2
                try clear c3
                try clear p6
                try clear c8
                try clear c8b0
                try clear c9
                try clear c11
                try clear c12
                try clear c12b0
                try clear c12b1
                try clear c13
                try clear c13b0
                try clear c13b1
                try clear c14
                try clear c14b0
                try clear c14b1
                try clear c15
                try clear c15b0
                try clear c15b1
                try clear c20
                try clear c22
                try clear c22b0
                try clear c22b1
                try clear c23
                try clear c23b0
                try clear c23b1
                try clear c24
                try clear c24b0
                try clear c24b1
                try clear c25
                try clear c25b0
                try clear c25b1
                try clear c26
                try clear c26b0
                try clear c26b1
                try clear c27
                try clear c27b0
                try clear c27b1
                try clear c28
                try clear c30
                try clear c30b0
                try clear p2
                obtain ⟨kq, x19_28, rfl, HA, HJ28, HB⟩ := hcut
                cases kq with
                | zero => exact absurd HA.out (by simp [cleatlaw03_FlagShift.j2])
                | succ kj28 =>
                  have H := HA.out
                  clear HA
                  simp only [cleatlaw03_FlagShift.j2] at H
                  by_cases c31 : (wrap64 (a0)) < 0
                  · rw [if_pos c31] at H
                    have c31b0 : decide ((wrap64 (a0)) < 0) = true := decide_eq_true c31
                    clear c31
                    by_cases c32 : (wrap64 (t424)) < 0
                    · rw [if_pos c32] at H
                      have c32b0 : decide ((wrap64 (t424)) < 0) = true := decide_eq_true c32
                      clear c32
                      by_cases c33 : 0 ≤ a1
                      · rw [if_pos c33] at H
                        have c33b0 := eq_true c33
                        have c33b1 : decide (0 ≤ a1) = true := decide_eq_true c33
                        clear c33
                        obtain ⟨ji34, hji34⟩ : ∃ j_ : Int, (shl .u64 1 a1) = j_ := ⟨_, rfl⟩
                        replace H : (if (ji34) = 0 then (none) else ((cleatlaw03_flagged.f kj28).bind fun t435 => (if t435 = true then ((bits_Low.f a0 (wrap64 (64 - a1))).bind fun t436 => (if t429 = t436 then ((bits_Low.f a0 a1).bind fun t437 => (if t431 = (IntKind.u64.wrap (a0 - t437)) then (if t426 = t433 then (some ((IntKind.u64.wrap (18446744073709551615 - t424)) == (IntKind.u64.wrap (Int.tdiv (IntKind.u64.wrap (18446744073709551615 - a0)) (ji34))))) else (none)) else (none))) else (none))) else (none)))) = some r := by first | (rw [hji34] at H; exact H) | (simp only [hji34] at H ⊢; exact H)
                        have hji34_ : (IntKind.u64.wrap (1 * 2 ^ min a1.toNat 64)) = ji34 := hji34
                        have hji34z : a1 ≤ 64 → (IntKind.u64.wrap (1 * 2 ^ a1.toNat)) = ji34 := shl_small hji34
                        have hji34u : (IntKind.u64.wrap (2 ^ min a1.toNat 64)) = ji34 := by have h_ := hji34_; rw [Int.one_mul] at h_; exact h_
                        have hji34v : a1 ≤ 64 → (IntKind.u64.wrap (2 ^ a1.toNat)) = ji34 := fun hle_ => by have h_ := hji34z hle_; rw [Int.one_mul] at h_; exact h_
                        by_cases c35 : (ji34) = 0
                        · rw [if_pos c35] at H
                          exact absurd H (by simp)
                        · rw [if_neg c35] at H
                          have c35b0 : ((ji34) == 0) = false := beq_eq_false_iff_ne.mpr c35
                          have c35b1 : ((ji34) != 0) = true := bne_iff_ne.mpr c35
                          replace H := Option.bind_eq_some_iff.mp H
                          obtain ⟨t435, A360, H⟩ := H
                          replace H : (if t435 = true then ((bits_Low.f a0 (wrap64 (64 - a1))).bind fun t436 => (if t429 = t436 then ((bits_Low.f a0 a1).bind fun t437 => (if t431 = (IntKind.u64.wrap (a0 - t437)) then (if t426 = t433 then (some ((IntKind.u64.wrap (18446744073709551615 - t424)) == (IntKind.u64.wrap (Int.tdiv (IntKind.u64.wrap (18446744073709551615 - a0)) (ji34))))) else (none)) else (none))) else (none))) else (none)) = some r := H
                          have A36 := Aside0.mk A360
                          clear A360
                          by_cases c37 : t435 = true
                          · subst c37
                            have H1 : ((bits_Low.f a0 (wrap64 (64 - a1))).bind fun t436 => (if t429 = t436 then ((bits_Low.f a0 a1).bind fun t437 => (if t431 = (IntKind.u64.wrap (a0 - t437)) then (if t426 = t433 then (some ((IntKind.u64.wrap (18446744073709551615 - t424)) == (IntKind.u64.wrap (Int.tdiv (IntKind.u64.wrap (18446744073709551615 - a0)) (ji34))))) else (none)) else (none))) else (none))) = some r := by rw [if_pos rfl] at H; exact H
                            clear H
                            have H := H1
                            clear H1
                            replace H := Option.bind_eq_some_iff.mp H
                            obtain ⟨t436, A380, H⟩ := H
                            replace H : (if t429 = t436 then ((bits_Low.f a0 a1).bind fun t437 => (if t431 = (IntKind.u64.wrap (a0 - t437)) then (if t426 = t433 then (some ((IntKind.u64.wrap (18446744073709551615 - t424)) == (IntKind.u64.wrap (Int.tdiv (IntKind.u64.wrap (18446744073709551615 - a0)) (ji34))))) else (none)) else (none))) else (none)) = some r := H
                            have A38 := Aside0.mk A380
                            clear A380
                            by_cases c39 : t429 = t436
                            · rw [if_pos c39] at H
                              have c39b0 : (t429 == t436) = true := beq_iff_eq.mpr c39
                              have c39b1 : (t429 != t436) = false := bne_eq_false_iff_eq.mpr c39
                              clear c39
                              replace H := Option.bind_eq_some_iff.mp H
                              obtain ⟨t437, A400, H⟩ := H
                              replace H : (if t431 = (IntKind.u64.wrap (a0 - t437)) then (if t426 = t433 then (some ((IntKind.u64.wrap (18446744073709551615 - t424)) == (IntKind.u64.wrap (Int.tdiv (IntKind.u64.wrap (18446744073709551615 - a0)) (ji34))))) else (none)) else (none)) = some r := H
                              have A40 := Aside0.mk A400
                              clear A400
                              by_cases c41 : t431 = (IntKind.u64.wrap (a0 - t437))
                              · rw [if_pos c41] at H
                                have c41b0 : (t431 == (IntKind.u64.wrap (a0 - t437))) = true := beq_iff_eq.mpr c41
                                have c41b1 : (t431 != (IntKind.u64.wrap (a0 - t437))) = false := bne_eq_false_iff_eq.mpr c41
                                clear c41
                                by_cases c42 : t426 = t433
                                · rw [if_pos c42] at H
                                  have c42b0 : (t426 == t433) = true := beq_iff_eq.mpr c42
                                  have c42b1 : (t426 != t433) = false := bne_eq_false_iff_eq.mpr c42
                                  clear c42
                                  obtain rfl := Option.some.inj H
                                  go_wp2_with (first | ((with_reducible refine gate_callee (f := 22) rfl ?_); refine goesL_ (some 148) rfl rfl Try.func22 (by kernel_rfl) rfl #[] rfl (by (try simp only [List.map_toArray, List.map_cons, List.map_nil]); first | done | rfl | (simp only [List.length_drop, List.length_take]; rfl)) ?_; (with_reducible refine (cleatlaw03_flagged.calls kj28  true _ A36.out).mono ?_); rintro e w43 ⟨rfl, hb⟩; refine ⟨_, rfl, ?_⟩; have n0_ := Aside0.mk (below_step (by repeat (first | (with_reducible first | exact HB.out | apply below_alloc | apply pw_below_drewN | apply below_drew1) | exact HB.out)) hb); clear HB; have HB := n0_; clear n0_; (try clear hb); (try clear hb2); (try clear hk); (try clear hi)) | (go_at_call 33; (with_reducible refine (bits_Low.calls a0 (wrap64 (64 - a1)) t436 _ A38.out).mono ?_); rintro e w44 ⟨rfl, hb⟩; have n0_ := Aside0.mk (below_step (by repeat (first | (with_reducible first | exact HB.out | apply below_alloc | apply pw_below_drewN | apply below_drew1) | exact HB.out)) hb); clear HB; have HB := n0_; clear n0_; (try clear hb); (try clear hb2); (try clear hk); (try clear hi)) | (go_at_call 33; (with_reducible refine (bits_Low.calls a0 a1 t437 _ A40.out).mono ?_); rintro e w45 ⟨rfl, hb⟩; have n0_ := Aside0.mk (below_step (by repeat (first | (with_reducible first | exact HB.out | apply below_alloc | apply pw_below_drewN | apply below_drew1) | exact HB.out)) hb); clear HB; have HB := n0_; clear n0_; (try clear hb); (try clear hb2); (try clear hk); (try clear hi)))
                                  go_ret
                                  exact ⟨by first | rfl | (simp [errW_none, errW_some] <;> rfl) | (simp only [← hji34]; first | rfl | (simp [errW_none, errW_some] <;> rfl)) | (simp [*, errW_none, errW_some] <;> rfl), by repeat (first | (with_reducible first | exact HB.out | apply below_alloc | apply pw_below_drewN | apply below_drew1) | exact HB.out)⟩
                                · rw [if_neg c42] at H
                                  exact absurd H (by simp)
                              · rw [if_neg c41] at H
                                exact absurd H (by simp)
                            · rw [if_neg c39] at H
                              exact absurd H (by simp)
                          · replace c37 := Bool.eq_false_iff.mpr c37
                            subst c37
                            have H1 : (none) = some r := by rw [if_neg (show ¬ (false = true) by decide)] at H; exact H
                            clear H
                            have H := H1
                            clear H1
                            exact absurd H (by simp)
                      · rw [if_neg c33] at H
                        exact absurd H (by simp)
                    · rw [if_neg c32] at H
                      exact absurd H (by simp)
                  · rw [if_neg c31] at H
                    have c31b0 : decide ((wrap64 (a0)) < 0) = false := decide_eq_false c31
                    clear c31
                    replace H := Option.bind_eq_some_iff.mp H
                    obtain ⟨t441, A460, H⟩ := H
                    replace H : (if t441 = true then ((bits_Low.f a0 (wrap64 (64 - a1))).bind fun t442 => (if t429 = t442 then ((bits_Low.f a0 a1).bind fun t443 => (if t431 = (IntKind.u64.wrap (a0 - t443)) then (if t426 = t433 then (some x19_28) else (none)) else (none))) else (none))) else (none)) = some r := H
                    have A46 := Aside0.mk A460
                    clear A460
                    by_cases c47 : t441 = true
                    · subst c47
                      have H1 : ((bits_Low.f a0 (wrap64 (64 - a1))).bind fun t442 => (if t429 = t442 then ((bits_Low.f a0 a1).bind fun t443 => (if t431 = (IntKind.u64.wrap (a0 - t443)) then (if t426 = t433 then (some x19_28) else (none)) else (none))) else (none))) = some r := by rw [if_pos rfl] at H; exact H
                      clear H
                      have H := H1
                      clear H1
                      replace H := Option.bind_eq_some_iff.mp H
                      obtain ⟨t442, A480, H⟩ := H
                      replace H : (if t429 = t442 then ((bits_Low.f a0 a1).bind fun t443 => (if t431 = (IntKind.u64.wrap (a0 - t443)) then (if t426 = t433 then (some x19_28) else (none)) else (none))) else (none)) = some r := H
                      have A48 := Aside0.mk A480
                      clear A480
                      by_cases c49 : t429 = t442
                      · rw [if_pos c49] at H
                        have c49b0 : (t429 == t442) = true := beq_iff_eq.mpr c49
                        have c49b1 : (t429 != t442) = false := bne_eq_false_iff_eq.mpr c49
                        clear c49
                        replace H := Option.bind_eq_some_iff.mp H
                        obtain ⟨t443, A500, H⟩ := H
                        replace H : (if t431 = (IntKind.u64.wrap (a0 - t443)) then (if t426 = t433 then (some x19_28) else (none)) else (none)) = some r := H
                        have A50 := Aside0.mk A500
                        clear A500
                        by_cases c51 : t431 = (IntKind.u64.wrap (a0 - t443))
                        · rw [if_pos c51] at H
                          have c51b0 : (t431 == (IntKind.u64.wrap (a0 - t443))) = true := beq_iff_eq.mpr c51
                          have c51b1 : (t431 != (IntKind.u64.wrap (a0 - t443))) = false := bne_eq_false_iff_eq.mpr c51
                          clear c51
                          by_cases c52 : t426 = t433
                          · rw [if_pos c52] at H
                            have c52b0 : (t426 == t433) = true := beq_iff_eq.mpr c52
                            have c52b1 : (t426 != t433) = false := bne_eq_false_iff_eq.mpr c52
                            clear c52
                            obtain rfl := Option.some.inj H
                            go_wp2_with (first | ((with_reducible refine gate_callee (f := 22) rfl ?_); refine goesL_ (some 148) rfl rfl Try.func22 (by kernel_rfl) rfl #[] rfl (by (try simp only [List.map_toArray, List.map_cons, List.map_nil]); first | done | rfl | (simp only [List.length_drop, List.length_take]; rfl)) ?_; (with_reducible refine (cleatlaw03_flagged.calls kj28  true _ A46.out).mono ?_); rintro e w53 ⟨rfl, hb⟩; refine ⟨_, rfl, ?_⟩; have n0_ := Aside0.mk (below_step (by repeat (first | (with_reducible first | exact HB.out | apply below_alloc | apply pw_below_drewN | apply below_drew1) | exact HB.out)) hb); clear HB; have HB := n0_; clear n0_; (try clear hb); (try clear hb2); (try clear hk); (try clear hi)) | (go_at_call 33; (with_reducible refine (bits_Low.calls a0 (wrap64 (64 - a1)) t442 _ A48.out).mono ?_); rintro e w54 ⟨rfl, hb⟩; have n0_ := Aside0.mk (below_step (by repeat (first | (with_reducible first | exact HB.out | apply below_alloc | apply pw_below_drewN | apply below_drew1) | exact HB.out)) hb); clear HB; have HB := n0_; clear n0_; (try clear hb); (try clear hb2); (try clear hk); (try clear hi)) | (go_at_call 33; (with_reducible refine (bits_Low.calls a0 a1 t443 _ A50.out).mono ?_); rintro e w55 ⟨rfl, hb⟩; have n0_ := Aside0.mk (below_step (by repeat (first | (with_reducible first | exact HB.out | apply below_alloc | apply pw_below_drewN | apply below_drew1) | exact HB.out)) hb); clear HB; have HB := n0_; clear n0_; (try clear hb); (try clear hb2); (try clear hk); (try clear hi)))
                            go_ret
                            exact ⟨by first | rfl | (simp [errW_none, errW_some] <;> rfl) | (simp [*, errW_none, errW_some] <;> rfl), by repeat (first | (with_reducible first | exact HB.out | apply below_alloc | apply pw_below_drewN | apply below_drew1) | exact HB.out)⟩
                          · rw [if_neg c52] at H
                            exact absurd H (by simp)
                        · rw [if_neg c51] at H
                          exact absurd H (by simp)
                      · rw [if_neg c49] at H
                        exact absurd H (by simp)
                    · replace c47 := Bool.eq_false_iff.mpr c47
                      subst c47
                      have H1 : (none) = some r := by rw [if_neg (show ¬ (false = true) by decide)] at H; exact H
                      clear H
                      have H := H1
                      clear H1
                      exact absurd H (by simp)

/-- THE ONE PURE STATEMENT of cleatlaw03_FlagShift: yours. -/
def cleatlaw03_FlagShift.Pure : Prop := ∀ (a0 : Int) (a1 : Int), (Lit.int .u64 a0).wf = true → (Lit.int .i64 a1).wf = true → ∃ k, cleatlaw03_FlagShift.f k a0 a1 = some true
theorem cleatlaw03_FlagShift.walk (P : cleatlaw03_FlagShift.Pure) (a0 : Int) (a1 : Int) (w : World) (w0 : (Lit.int .u64 a0).wf = true) (w1 : (Lit.int .i64 a1).wf = true) :
    Calls Try.prog 13 #[.int .u64 a0, .int .i64 a1] w fun e w' => e = .returned (.bool true) ∧ Below w.heap.size w w' := by
  obtain ⟨k, h⟩ := P a0 a1 w0 w1
  refine (cleatlaw03_FlagShift.calls k a0 a1 true w h).mono ?_
  rintro e w' ⟨rfl, hd⟩
  exact ⟨rfl, hd⟩

end Go.Proofs.Ytclomjndhcpmfaa.P
