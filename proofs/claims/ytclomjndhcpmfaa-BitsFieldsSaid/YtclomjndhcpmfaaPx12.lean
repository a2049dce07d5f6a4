/- Written for this claim by a program of this session (drive.py, over the print of the kit): Lean functions with the answers of Go functions, and the proofs that the Go code comes to these answers, under no condition but the readings of the arguments that each theorem names. -/
import Derived.Test.YtclomjndhcpmfaaPx0
import Derived.Test.YtclomjndhcpmfaaPx3
import Derived.Test.YtclomjndhcpmfaaPx8
import Derived.Test.YtclomjndhcpmfaaPx9
import Derived.Test.YtclomjndhcpmfaaPx10
namespace Go.Proofs.Ytclomjndhcpmfaa.P
open Go.RowKit Go.Proofs.YtclomjndhcpmfaaW.PrintWords Go.Proofs.YtclomjndhcpmfaaW.PrintLast Go.Proofs.YtclomjndhcpmfaaW.PrintMore
attribute [local go_sem] max2_int min2_int max_two min_two max_three min_three max_four min_four   -- for this text's walks alone
set_option linter.unusedVariables false
set_option linter.unusedSimpArgs false

/-! ### cleatlaw01_BitsRound: function 10 -/
mutual
def cleatlaw01_BitsRound.j0 : Nat → Int → Int → Int → Int → Int → Bool → Option (Bool)
  | 0, _, _, _, _, _, _ => none
  | k + 1, x0, x1, x2, x3, x9, x45 => if x45 = true then (none) else (if x3 = 0 then (none) else ((bits_Rotate.f k x9 (Int.tmod (wrap64 (x3 - x1)) x3) x3).bind fun bt351 => (if bt351.2 = 0 then (if bt351.1 = x0 then ((bits_Low.f x9 x3).bind fun t353 => (cleatlaw01_BitsRound.j1 k x0 x1 x2 x3 x9 (t353 != x9))) else (cleatlaw01_BitsRound.j1 k x0 x1 x2 x3 x9 true)) else (cleatlaw01_BitsRound.j1 k x0 x1 x2 x3 x9 true))))
def cleatlaw01_BitsRound.j1 : Nat → Int → Int → Int → Int → Int → Bool → Option (Bool)
  | 0, _, _, _, _, _, _ => none
  | k + 1, x0, x1, x2, x3, x9, x70 => if x70 = true then (none) else (if x2 < 0 then (cleatlaw01_BitsRound.j2 k x0 x1 x2 x3 x9 true) else (cleatlaw01_BitsRound.j2 k x0 x1 x2 x3 x9 (decide (x2 ≥ x3))))
def cleatlaw01_BitsRound.j2 : Nat → Int → Int → Int → Int → Int → Bool → Option (Bool)
  | 0, _, _, _, _, _, _ => none
  | k + 1, x0, x1, x2, x3, x9, x77 => if x77 = true then ((cleatlaw01_told.f k).bind fun t354 => (some t354)) else ((bits_Rotate.f k x9 x2 x3).bind fun bt355 => (if x3 = 0 then (none) else ((bits_Rotate.f k x0 (Int.tmod (wrap64 (x1 + x2)) x3) x3).bind fun bt357 => ((cleatlaw01_told.f k).bind fun t359 => (if t359 = true then (if bt355.2 = 0 then (if bt357.2 = 0 then (some (bt355.1 == bt357.1)) else (none)) else (none)) else (none))))))
end
def cleatlaw01_BitsRound.f (k : Nat) (a0 : Int) (a1 : Int) (a2 : Int) (a3 : Int) : Option (Bool) := (bits_Rotate.f k a0 a1 a3).bind fun bt348 => (if bt348.2 = 0 then (if a3 < 2 then (cleatlaw01_BitsRound.j0 k a0 a1 a2 a3 bt348.1 true) else (if a3 > 64 then (cleatlaw01_BitsRound.j0 k a0 a1 a2 a3 bt348.1 true) else (if a1 < 0 then (cleatlaw01_BitsRound.j0 k a0 a1 a2 a3 bt348.1 true) else (cleatlaw01_BitsRound.j0 k a0 a1 a2 a3 bt348.1 (decide (a1 ≥ a3)))))) else ((cleatlaw01_told.f k).bind fun t350 => (if t350 = true then (some (bt348.1 == 0)) else (none))))
theorem cleatlaw01_BitsRound.mono_l : ∀ k, (∀ y0 y1 y2 y3 y4 y5, LeO (cleatlaw01_BitsRound.j0 k y0 y1 y2 y3 y4 y5) (cleatlaw01_BitsRound.j0 (k + 1) y0 y1 y2 y3 y4 y5)) ∧ (∀ y0 y1 y2 y3 y4 y5, LeO (cleatlaw01_BitsRound.j1 k y0 y1 y2 y3 y4 y5) (cleatlaw01_BitsRound.j1 (k + 1) y0 y1 y2 y3 y4 y5)) ∧ (∀ y0 y1 y2 y3 y4 y5, LeO (cleatlaw01_BitsRound.j2 k y0 y1 y2 y3 y4 y5) (cleatlaw01_BitsRound.j2 (k + 1) y0 y1 y2 y3 y4 y5))
  | 0 => ⟨fun _ _ _ _ _ _ r h => by simp [cleatlaw01_BitsRound.j0] at h, fun _ _ _ _ _ _ r h => by simp [cleatlaw01_BitsRound.j1] at h, fun _ _ _ _ _ _ r h => by simp [cleatlaw01_BitsRound.j2] at h⟩
  | k + 1 => by
    obtain ⟨ih0, ih1, ih2⟩ := cleatlaw01_BitsRound.mono_l k
    refine ⟨?_, ?_, ?_⟩
    · intro y0 y1 y2 y3 y4 y5
      unfold cleatlaw01_BitsRound.j0
      repeat' first
      | (with_reducible exact ih0 _ _ _ _ _ _)
      | (with_reducible exact ih1 _ _ _ _ _ _)
      | (with_reducible exact ih2 _ _ _ _ _ _)
      | (with_reducible exact bits_Rotate.mono _ _ _ _)
      | (with_reducible exact cleatlaw01_told.mono _)
      | (with_reducible exact LeO.refl _)
      | (with_reducible exact LeO.none _)
      | (with_reducible refine LeO.ite ?_ ?_)
      | (with_reducible refine LeO.bind ?_ (fun _ => ?_))
      | exact ih0 _ _ _ _ _ _
      | exact ih1 _ _ _ _ _ _
      | exact ih2 _ _ _ _ _ _
      | exact bits_Rotate.mono _ _ _ _
      | exact cleatlaw01_told.mono _
      | exact LeO.none _
      | refine LeO.ite ?_ ?_
      | refine LeO.bind ?_ (fun _ => ?_)
    · intro y0 y1 y2 y3 y4 y5
      unfold cleatlaw01_BitsRound.j1
      repeat' first
      | (with_reducible exact ih0 _ _ _ _ _ _)
      | (with_reducible exact ih1 _ _ _ _ _ _)
      | (with_reducible exact ih2 _ _ _ _ _ _)
      | (with_reducible exact bits_Rotate.mono _ _ _ _)
      | (with_reducible exact cleatlaw01_told.mono _)
      | (with_reducible exact LeO.refl _)
      | (with_reducible exact LeO.none _)
      | (with_reducible refine LeO.ite ?_ ?_)
      | (with_reducible refine LeO.bind ?_ (fun _ => ?_))
      | exact ih0 _ _ _ _ _ _
      | exact ih1 _ _ _ _ _ _
      | exact ih2 _ _ _ _ _ _
      | exact bits_Rotate.mono _ _ _ _
      | exact cleatlaw01_told.mono _
      | exact LeO.none _
      | refine LeO.ite ?_ ?_
      | refine LeO.bind ?_ (fun _ => ?_)
    · intro y0 y1 y2 y3 y4 y5
      unfold cleatlaw01_BitsRound.j2
      repeat' first
      | (with_reducible exact ih0 _ _ _ _ _ _)
      | (with_reducible exact ih1 _ _ _ _ _ _)
      | (with_reducible exact ih2 _ _ _ _ _ _)
      | (with_reducible exact bits_Rotate.mono _ _ _ _)
      | (with_reducible exact cleatlaw01_told.mono _)
      | (with_reducible exact LeO.refl _)
      | (with_reducible exact LeO.none _)
      | (with_reducible refine LeO.ite ?_ ?_)
      | (with_reducible refine LeO.bind ?_ (fun _ => ?_))
      | exact ih0 _ _ _ _ _ _
      | exact ih1 _ _ _ _ _ _
      | exact ih2 _ _ _ _ _ _
      | exact bits_Rotate.mono _ _ _ _
      | exact cleatlaw01_told.mono _
      | exact LeO.none _
      | refine LeO.ite ?_ ?_
      | refine LeO.bind ?_ (fun _ => ?_)
theorem cleatlaw01_BitsRound.mono : ∀ a0 a1 a2 a3 k, LeO (cleatlaw01_BitsRound.f k a0 a1 a2 a3) (cleatlaw01_BitsRound.f (k + 1) a0 a1 a2 a3) := by
  intro a0 a1 a2 a3 k
  obtain ⟨ih0, ih1, ih2⟩ := cleatlaw01_BitsRound.mono_l k
  unfold cleatlaw01_BitsRound.f
  repeat' first
      | (with_reducible exact ih0 _ _ _ _ _ _)
      | (with_reducible exact ih1 _ _ _ _ _ _)
      | (with_reducible exact ih2 _ _ _ _ _ _)
      | (with_reducible exact bits_Rotate.mono _ _ _ _)
      | (with_reducible exact cleatlaw01_told.mono _)
      | (with_reducible exact LeO.refl _)
      | (with_reducible exact LeO.none _)
      | (with_reducible refine LeO.ite ?_ ?_)
      | (with_reducible refine LeO.bind ?_ (fun _ => ?_))
      | exact ih0 _ _ _ _ _ _
      | exact ih1 _ _ _ _ _ _
      | exact ih2 _ _ _ _ _ _
      | exact bits_Rotate.mono _ _ _ _
      | exact cleatlaw01_told.mono _
      | exact LeO.none _
      | refine LeO.ite ?_ ?_
      | refine LeO.bind ?_ (fun _ => ?_)
set_option maxHeartbeats 8000000 in
set_option maxRecDepth 100000 in
theorem cleatlaw01_BitsRound.calls (k : Nat) (a0 : Int) (a1 : Int) (a2 : Int) (a3 : Int) (r : Bool) (w : World) (h : cleatlaw01_BitsRound.f k a0 a1 a2 a3 = some r) :
    Calls Try.prog 10 #[.int .u64 a0, .int .i64 a1, .int .i64 a2, .int .i64 a3] w fun e w' => e = .returned (.bool r) ∧ Below w.heap.size w w' := by
  have HB := Aside0.mk (Below.refl w.heap.size w)
  have H : ((bits_Rotate.f k a0 a1 a3).bind fun bt348 => (if bt348.2 = 0 then (if a3 < 2 then (cleatlaw01_BitsRound.j0 k a0 a1 a2 a3 bt348.1 true) else (if a3 > 64 then (cleatlaw01_BitsRound.j0 k a0 a1 a2 a3 bt348.1 true) else (if a1 < 0 then (cleatlaw01_BitsRound.j0 k a0 a1 a2 a3 bt348.1 true) else (cleatlaw01_BitsRound.j0 k a0 a1 a2 a3 bt348.1 (decide (a1 ≥ a3)))))) else ((cleatlaw01_told.f k).bind fun t350 => (if t350 = true then (some (bt348.1 == 0)) else (none))))) = some r := h
  clear h
  replace H := Option.bind_eq_some_iff.mp H
  obtain ⟨⟨t348, t349⟩, A50, H⟩ := H
  replace H : (if t349 = 0 then (if a3 < 2 then (cleatlaw01_BitsRound.j0 k a0 a1 a2 a3 t348 true) else (if a3 > 64 then (cleatlaw01_BitsRound.j0 k a0 a1 a2 a3 t348 true) else (if a1 < 0 then (cleatlaw01_BitsRound.j0 k a0 a1 a2 a3 t348 true) else (cleatlaw01_BitsRound.j0 k a0 a1 a2 a3 t348 (decide (a1 ≥ a3)))))) else ((cleatlaw01_told.f k).bind fun t350 => (if t350 = true then (some (t348 == 0)) else (none)))) = some r := H
  have A5 := Aside0.mk A50
  clear A50
  by_cases c6 : t349 = 0
  · rw [if_pos c6] at H
    have c6b0 : (t349 == 0) = true := beq_iff_eq.mpr c6
    have c6b1 : (t349 != 0) = false := bne_eq_false_iff_eq.mpr c6
    clear c6
    have HC7 := Aside0.mk H
    clear H
    go_enter Try.func10, Try.ntmps10
    go_upto_region 4 with (first | ((with_reducible refine gate_callee (f := 31) rfl ?_); refine goesL_ (some 21) rfl rfl Try.func31 (by kernel_rfl) rfl #[.int .u64 a0, .int .i64 a1, .int .i64 a3] rfl (by (try simp only [List.map_toArray, List.map_cons, List.map_nil]); first | done | rfl | (simp only [List.length_drop, List.length_take]; rfl)) ?_; (with_reducible refine (bits_Rotate.calls k a0 a1 a3 t348 t349 _ A5.out).mono ?_); rintro e w8 ⟨rfl, hb⟩; refine ⟨_, rfl, ?_⟩; have n0_ := Aside0.mk (below_step (by repeat (first | (with_reducible first | exact HB.out | apply below_alloc | apply pw_below_drewN | apply below_drew1) | exact HB.out)) hb); clear HB; have HB := n0_; clear n0_; (try clear hb); (try clear hb2); (try clear hk); (try clear hi)))
    (try simp only [Act.put, List.setIfInBounds_toArray, List.set_cons_zero, List.set_cons_succ])
    go_cut [45] (fun v45 wc => ∃ (kq : Nat) (x45_6 : Bool), v45 = .bool x45_6 ∧ Aside0 (cleatlaw01_BitsRound.j0 kq a0 a1 a2 a3 t348 x45_6 = some r) ∧ Aside0 (kq ≤ k) ∧ Aside0 (Below w.heap.size w wc))
    case first =>
      have H := HC7.out
      clear HC7
      by_cases c9 : a3 < 2
      · rw [if_pos c9] at H
        have c9b0 : decide (a3 < 2) = true := decide_eq_true c9
        clear c9
        (first | rw [c9b0] | (simp only [i64_w, i32_w]; rw [c9b0]) | skip)
        have H' := Aside0.mk H
        clear H
        go_wp2
        go_meet
        case rel => exact ⟨_, (true), (by first | rfl | (simp; done) | (simp [*]; done)), H', ⟨by first | omega | exact Nat.le_refl _⟩, ⟨by repeat (first | (with_reducible first | exact HB.out | apply below_alloc | apply pw_below_drewN | apply below_drew1) | exact HB.out)⟩⟩
      · rw [if_neg c9] at H
        have c9b0 : decide (a3 < 2) = false := decide_eq_false c9
        clear c9
        (first | rw [c9b0] | (simp only [i64_w, i32_w]; rw [c9b0]) | skip)
        by_cases c10 : a3 > 64
        · rw [if_pos c10] at H
          have c10b0 : decide (64 < a3) = true := decide_eq_true c10
          clear c10
          have H' := Aside0.mk H
          clear H
          go_wp2
          go_meet
          case rel => exact ⟨_, (true), (by first | rfl | (simp; done) | (simp [*]; done)), H', ⟨by first | omega | exact Nat.le_refl _⟩, ⟨by repeat (first | (with_reducible first | exact HB.out | apply below_alloc | apply pw_below_drewN | apply below_drew1) | exact HB.out)⟩⟩
        · rw [if_neg c10] at H
          have c10b0 : decide (64 < a3) = false := decide_eq_false c10
          clear c10
          by_cases c11 : a1 < 0
          · rw [if_pos c11] at H
            have c11b0 : decide (a1 < 0) = true := decide_eq_true c11
            clear c11
            have H' := Aside0.mk H
            clear H
            go_wp2
            go_meet
            case rel => exact ⟨_, (true), (by first | rfl | (simp; done) | (simp [*]; done)), H', ⟨by first | omega | exact Nat.le_refl _⟩, ⟨by repeat (first | (with_reducible first | exact HB.out | apply below_alloc | apply pw_below_drewN | apply below_drew1) | exact HB.out)⟩⟩
          · rw [if_neg c11] at H
            have c11b0 : decide (a1 < 0) = false := decide_eq_false c11
            clear c11
            have H' := Aside0.mk H
            clear H
            go_wp2
            go_meet
            case rel => exact ⟨_, (decide (a1 ≥ a3)), (by first | rfl | (simp; done) | (simp [*]; done)), H', ⟨by first | omega | exact Nat.le_refl _⟩, ⟨by repeat (first | (with_reducible first | exact HB.out | apply below_alloc | apply pw_below_drewN | apply below_drew1) | exact HB.out)⟩⟩
    case rest =>
      clear HC7
      try clear c1
      try clear p2
      try clear c3
      try clear c6
      try clear c6b0
      try clear c6b1
      try clear c9
      try clear c9b0
      try clear c10
      try clear c10b0
      try clear c11
      try clear c11b0
      obtain ⟨kq, x45_6, rfl, HA, HJ6, HB⟩ := hcut
      cases kq with
      | zero => exact absurd HA.out (by simp [cleatlaw01_BitsRound.j0])
      | succ kj6 =>
        have H := HA.out
        clear HA
        simp only [cleatlaw01_BitsRound.j0] at H
        by_cases c12 : x45_6 = true
        · subst c12
          have H1 : (none) = some r := by rw [if_pos rfl] at H; exact H
          clear H
          have H := H1
          clear H1
          exact absurd H (by simp)
        · replace c12 := Bool.eq_false_iff.mpr c12
          subst c12
          have H1 : (if a3 = 0 then (none) else ((bits_Rotate.f kj6 t348 (Int.tmod (wrap64 (a3 - a1)) a3) a3).bind fun bt351 => (if bt351.2 = 0 then (if bt351.1 = a0 then ((bits_Low.f t348 a3).bind fun t353 => (cleatlaw01_BitsRound.j1 kj6 a0 a1 a2 a3 t348 (t353 != t348))) else (cleatlaw01_BitsRound.j1 kj6 a0 a1 a2 a3 t348 true)) else (cleatlaw01_BitsRound.j1 kj6 a0 a1 a2 a3 t348 true)))) = some r := by rw [if_neg (show ¬ (false = true) by decide)] at H; exact H
          clear H
          have H := H1
          clear H1
          by_cases c13 : a3 = 0
          · rw [if_pos c13] at H
            exact absurd H (by simp)
          · rw [if_neg c13] at H
            have c13b0 : (a3 == 0) = false := beq_eq_false_iff_ne.mpr c13
            have c13b1 : (a3 != 0) = true := bne_iff_ne.mpr c13
            replace H := Option.bind_eq_some_iff.mp H
            obtain ⟨⟨t351, t352⟩, A140, H⟩ := H
            replace H : (if t352 = 0 then (if t351 = a0 then ((bits_Low.f t348 a3).bind fun t353 => (cleatlaw01_BitsRound.j1 kj6 a0 a1 a2 a3 t348 (t353 != t348))) else (cleatlaw01_BitsRound.j1 kj6 a0 a1 a2 a3 t348 true)) else (cleatlaw01_BitsRound.j1 kj6 a0 a1 a2 a3 t348 true)) = some r := H
            have A14 := Aside0.mk A140
            clear A140
            have HC15 := Aside0.mk H
            clear H
            go_upto_region 7 with (first | ((with_reducible refine gate_callee (f := 31) rfl ?_); refine goesL_ (some 54) rfl rfl Try.func31 (by kernel_rfl) rfl #[.int .u64 t348, .int .i64 (Int.tmod (wrap64 (a3 - a1)) a3), .int .i64 a3] rfl (by (try simp only [List.map_toArray, List.map_cons, List.map_nil]); first | done | rfl | (simp only [List.length_drop, List.length_take]; rfl)) ?_; (with_reducible refine (bits_Rotate.calls kj6 t348 (Int.tmod (wrap64 (a3 - a1)) a3) a3 t351 t352 _ A14.out).mono ?_); rintro e w16 ⟨rfl, hb⟩; refine ⟨_, rfl, ?_⟩; have n0_ := Aside0.mk (below_step (by repeat (first | (with_reducible first | exact HB.out | apply below_alloc | apply pw_below_drewN | apply below_drew1) | exact HB.out)) hb); clear HB; have HB := n0_; clear n0_; (try clear hb); (try clear hb2); (try clear hk); (try clear hi)))
            (try simp only [Act.put, List.setIfInBounds_toArray, List.set_cons_zero, List.set_cons_succ])
            go_cut [70] (fun v70 wc => ∃ (kq : Nat) (x70_14 : Bool), v70 = .bool x70_14 ∧ Aside0 (cleatlaw01_BitsRound.j1 kq a0 a1 a2 a3 t348 x70_14 = some r) ∧ Aside0 (kq ≤ kj6) ∧ Aside0 (Below w.heap.size w wc))
            case first =>
              have H := HC15.out
              clear HC15
              by_cases c17 : t352 = 0
              · rw [if_pos c17] at H
                have c17b0 : (t352 == 0) = true := beq_iff_eq.mpr c17
                have c17b1 : (t352 != 0) = false := bne_eq_false_iff_eq.mpr c17
                clear c17
                (first | rw [c17b0] | (simp only [i64_w, i32_w]; rw [c17b0]) | skip)
                by_cases c18 : t351 = a0
                · rw [if_pos c18] at H
                  have c18b0 : (t351 == a0) = true := beq_iff_eq.mpr c18
                  have c18b1 : (t351 != a0) = false := bne_eq_false_iff_eq.mpr c18
                  clear c18
                  replace H := Option.bind_eq_some_iff.mp H
                  obtain ⟨t353, A190, H⟩ := H
                  replace H : (cleatlaw01_BitsRound.j1 kj6 a0 a1 a2 a3 t348 (t353 != t348)) = some r := H
                  have A19 := Aside0.mk A190
                  clear A190
                  have H' := Aside0.mk H
                  clear H
                  go_wp2_with (first | (go_at_call 33; (with_reducible refine (bits_Low.calls t348 a3 t353 _ A19.out).mono ?_); rintro e w20 ⟨rfl, hb⟩; have n0_ := Aside0.mk (below_step (by repeat (first | (with_reducible first | exact HB.out | apply below_alloc | apply pw_below_drewN | apply below_drew1) | exact HB.out)) hb); clear HB; have HB := n0_; clear n0_; (try clear hb); (try clear hb2); (try clear hk); (try clear hi)))
                  go_meet
                  case rel => exact ⟨_, ((t353 != t348)), (by first | rfl | (simp; done) | (simp [*]; done)), H', ⟨by have := HJ6.out; first | omega | exact Nat.le_refl _⟩, ⟨by repeat (first | (with_reducible first | exact HB.out | apply below_alloc | apply pw_below_drewN | apply below_drew1) | exact HB.out)⟩⟩
                · rw [if_neg c18] at H
                  have c18b0 : (t351 == a0) = false := beq_eq_false_iff_ne.mpr c18
                  have c18b1 : (t351 != a0) = true := bne_iff_ne.mpr c18
                  have H' := Aside0.mk H
                  clear H
                  go_wp2
                  go_meet
                  case rel => exact ⟨_, (true), (by first | rfl | (simp; done) | (simp [*]; done)), H', ⟨by have := HJ6.out; first | omega | exact Nat.le_refl _⟩, ⟨by repeat (first | (with_reducible first | exact HB.out | apply below_alloc | apply pw_below_drewN | apply below_drew1) | exact HB.out)⟩⟩
              · rw [if_neg c17] at H
                have c17b0 : (t352 == 0) = false := beq_eq_false_iff_ne.mpr c17
                have c17b1 : (t352 != 0) = true := bne_iff_ne.mpr c17
                (first | rw [c17b0] | (simp only [i64_w, i32_w]; rw [c17b0]) | skip)
                have H' := Aside0.mk H
                clear H
                go_wp2
                go_meet
                case rel => exact ⟨_, (true), (by first | rfl | (simp; done) | (simp [*]; done)), H', ⟨by have := HJ6.out; first | omega | exact Nat.le_refl _⟩, ⟨by repeat (first | (with_reducible first | exact HB.out | apply below_alloc | apply pw_below_drewN | apply below_drew1) | exact HB.out)⟩⟩
            case rest =>
              clear HC15
              try clear c1
              try clear p2
              try clear c3
              try clear c6
              try clear c6b0
              try clear c6b1
              try clear p6
              try clear c9
              try clear c9b0
              try clear c10
              try clear c10b0
              try clear c11
              try clear c11b0
              try clear c12
              try clear c13
              try clear c13b0
              try clear c13b1
              try clear c17
              try clear c17b0
              try clear c17b1
              try clear c18
              try clear c18b0
              try clear c18b1
              try clear p2
              obtain ⟨kq, x70_14, rfl, HA, HJ14, HB⟩ := hcut
              cases kq with
              | zero => exact absurd HA.out (by simp [cleatlaw01_BitsRound.j1])
              | succ kj14 =>
                have H := HA.out
                clear HA
                simp only [cleatlaw01_BitsRound.j1] at H
                by_cases c21 : x70_14 = true
                · subst c21
                  have H1 : (none) = some r := by rw [if_pos rfl] at H; exact H
                  clear H
                  have H := H1
                  clear H1
                  exact absurd H (by simp)
                · replace c21 := Bool.eq_false_iff.mpr c21
                  subst c21
                  have H1 : (if a2 < 0 then (cleatlaw01_BitsRound.j2 kj14 a0 a1 a2 a3 t348 true) else (cleatlaw01_BitsRound.j2 kj14 a0 a1 a2 a3 t348 (decide (a2 ≥ a3)))) = some r := by rw [if_neg (show ¬ (false = true) by decide)] at H; exact H
                  clear H
                  have H := H1
                  clear H1
                  have HC22 := Aside0.mk H
                  clear H
                  go_upto_region 9 with (fail)
                  go_cut [77] (fun v77 wc => ∃ (kq : Nat) (x77_21 : Bool), v77 = .bool x77_21 ∧ Aside0 (cleatlaw01_BitsRound.j2 kq a0 a1 a2 a3 t348 x77_21 = some r) ∧ Aside0 (kq ≤ kj14) ∧ Aside0 (Below w.heap.size w wc))
                  case first =>
                    have H := HC22.out
                    clear HC22
                    by_cases c23 : a2 < 0
                    · rw [if_pos c23] at H
                      have c23b0 : decide (a2 < 0) = true := decide_eq_true c23
                      clear c23
                      (first | rw [c23b0] | (simp only [i64_w, i32_w]; rw [c23b0]) | skip)
                      have H' := Aside0.mk H
                      clear H
                      go_wp2
                      go_meet
                      case rel => exact ⟨_, (true), (by first | rfl | (simp; done) | (simp [*]; done)), H', ⟨by have := HJ6.out; have := HJ14.out; first | omega | exact Nat.le_refl _⟩, ⟨by repeat (first | (with_reducible first | exact HB.out | apply below_alloc | apply pw_below_drewN | apply below_drew1) | exact HB.out)⟩⟩
                    · rw [if_neg c23] at H
                      have c23b0 : decide (a2 < 0) = false := decide_eq_false c23
                      clear c23
                      (first | rw [c23b0] | (simp only [i64_w, i32_w]; rw [c23b0]) | skip)
                      have H' := Aside0.mk H
                      clear H
                      go_wp2
                      go_meet
                      case rel => exact ⟨_, (decide (a2 ≥ a3)), (by first | rfl | (simp; done) | (simp [*]; done)), H', ⟨by have := HJ6.out; have := HJ14.out; first | omega | exact Nat.le_refl _⟩, ⟨by repeat (first | (with_reducible first | exact HB.out | apply below_alloc | apply pw_below_drewN | apply below_drew1) | exact HB.out)⟩⟩
                  case rest =>
                    clear HC22
                    try clear c1
                    try clear c2
                    try clear p2
                    try clear c3
                    try clear c6
                    try clear c6b0
                    try clear c6b1
                    try clear p6
                    try clear c9
                    try clear c9b0
                    try clear c10
                    try clear c10b0
                    try clear c11
                    try clear c11b0
                    try clear c12
                    try clear c13
                    try clear c13b0
                    try clear c13b1
                    try clear c17
                    try clear c17b0
                    try clear c17b1
                    try clear c18
                    try clear c18b0
                    try clear c18b1
                    try clear c21
                    try clear c23
                    try clear c23b0
                    try clear p2
                    try clear p6
                    obtain ⟨kq, x77_21, rfl, HA, HJ21, HB⟩ := hcut
                    cases kq with
                    | zero => exact absurd HA.out (by simp [cleatlaw01_BitsRound.j2])
                    | succ kj21 =>
                      have H := HA.out
                      clear HA
                      simp only [cleatlaw01_BitsRound.j2] at H
                      by_cases c24 : x77_21 = true
                      · subst c24
                        have H1 : ((cleatlaw01_told.f kj21).bind fun t354 => (some t354)) = some r := by rw [if_pos rfl] at H; exact H
                        clear H
                        have H := H1
                        clear H1
                        replace H := Option.bind_eq_some_iff.mp H
                        obtain ⟨t354, A250, H⟩ := H
                        replace H : (some t354) = some r := H
                        have A25 := Aside0.mk A250
                        clear A250
                        obtain rfl := Option.some.inj H
                        go_wp2_with (first | ((with_reducible refine gate_callee (f := 30) rfl ?_); refine goesL_ (some 78) rfl rfl Try.func30 (by kernel_rfl) rfl #[] rfl (by (try simp only [List.map_toArray, List.map_cons, List.map_nil]); first | done | rfl | (simp only [List.length_drop, List.length_take]; rfl)) ?_; (with_reducible refine (cleatlaw01_told.calls kj21  t354 _ A25.out).mono ?_); rintro e w26 ⟨rfl, hb⟩; refine ⟨_, rfl, ?_⟩; have n0_ := Aside0.mk (below_step (by repeat (first | (with_reducible first | exact HB.out | apply below_alloc | apply pw_below_drewN | apply below_drew1) | exact HB.out)) hb); clear HB; have HB := n0_; clear n0_; (try clear hb); (try clear hb2); (try clear hk); (try clear hi)))
                        go_ret
                        exact ⟨by first | rfl | (simp [errW_none, errW_some] <;> rfl) | (simp [*, errW_none, errW_some] <;> rfl), by repeat (first | (with_reducible first | exact HB.out | apply below_alloc | apply pw_below_drewN | apply below_drew1) | exact HB.out)⟩
                      · replace c24 := Bool.eq_false_iff.mpr c24
                        subst c24
                        have H1 : ((bits_Rotate.f kj21 t348 a2 a3).bind fun bt355 => (if a3 = 0 then (none) else ((bits_Rotate.f kj21 a0 (Int.tmod (wrap64 (a1 + a2)) a3) a3).bind fun bt357 => ((cleatlaw01_told.f kj21).bind fun t359 => (if t359 = true then (if bt355.2 = 0 then (if bt357.2 = 0 then (some (bt355.1 == bt357.1)) else (none)) else (none)) else (none)))))) = some r := by rw [if_neg (show ¬ (false = true) by decide)] at H; exact H
                        clear H
                        have H := H1
                        clear H1
                        replace H := Option.bind_eq_some_iff.mp H
                        obtain ⟨⟨t355, t356⟩, A270, H⟩ := H
                        replace H : (if a3 = 0 then (none) else ((bits_Rotate.f kj21 a0 (Int.tmod (wrap64 (a1 + a2)) a3) a3).bind fun bt357 => ((cleatlaw01_told.f kj21).bind fun t359 => (if t359 = true then (if t356 = 0 then (if bt357.2 = 0 then (some (t355 == bt357.1)) else (none)) else (none)) else (none))))) = some r := H
                        have A27 := Aside0.mk A270
                        clear A270
                        by_cases c28 : a3 = 0
                        · rw [if_pos c28] at H
                          exact absurd H (by simp)
                        · rw [if_neg c28] at H
                          have c28b0 : (a3 == 0) = false := beq_eq_false_iff_ne.mpr c28
                          have c28b1 : (a3 != 0) = true := bne_iff_ne.mpr c28
                          replace H := Option.bind_eq_some_iff.mp H
                          obtain ⟨⟨t357, t358⟩, A290, H⟩ := H
                          replace H : ((cleatlaw01_told.f kj21).bind fun t359 => (if t359 = true then (if t356 = 0 then (if t358 = 0 then (some (t355 == t357)) else (none)) else (none)) else (none))) = some r := H
                          have A29 := Aside0.mk A290
                          clear A290
                          replace H := Option.bind_eq_some_iff.mp H
                          obtain ⟨t359, A300, H⟩ := H
                          replace H : (if t359 = true then (if t356 = 0 then (if t358 = 0 then (some (t355 == t357)) else (none)) else (none)) else (none)) = some r := H
                          have A30 := Aside0.mk A300
                          clear A300
                          by_cases c31 : t359 = true
                          · subst c31
                            have H1 : (if t356 = 0 then (if t358 = 0 then (some (t355 == t357)) else (none)) else (none)) = some r := by rw [if_pos rfl] at H; exact H
                            clear H
                            have H := H1
                            clear H1
                            by_cases c32 : t356 = 0
                            · rw [if_pos c32] at H
                              have c32b0 : (t356 == 0) = true := beq_iff_eq.mpr c32
                              have c32b1 : (t356 != 0) = false := bne_eq_false_iff_eq.mpr c32
                              clear c32
                              by_cases c33 : t358 = 0
                              · rw [if_pos c33] at H
                                have c33b0 : (t358 == 0) = true := beq_iff_eq.mpr c33
                                have c33b1 : (t358 != 0) = false := bne_eq_false_iff_eq.mpr c33
                                clear c33
                                obtain rfl := Option.some.inj H
                                go_wp2_with (first | ((with_reducible refine gate_callee (f := 31) rfl ?_); refine goesL_ (some 83) rfl rfl Try.func31 (by kernel_rfl) rfl #[.int .u64 t348, .int .i64 a2, .int .i64 a3] rfl (by (try simp only [List.map_toArray, List.map_cons, List.map_nil]); first | done | rfl | (simp only [List.length_drop, List.length_take]; rfl)) ?_; (with_reducible refine (bits_Rotate.calls kj21 t348 a2 a3 t355 t356 _ A27.out).mono ?_); rintro e w34 ⟨rfl, hb⟩; refine ⟨_, rfl, ?_⟩; have n0_ := Aside0.mk (below_step (by repeat (first | (with_reducible first | exact HB.out | apply below_alloc | apply pw_below_drewN | apply below_drew1) | exact HB.out)) hb); clear HB; have HB := n0_; clear n0_; (try clear hb); (try clear hb2); (try clear hk); (try clear hi)) | ((with_reducible refine gate_callee (f := 31) rfl ?_); refine goesL_ (some 94) rfl rfl Try.func31 (by kernel_rfl) rfl #[.int .u64 a0, .int .i64 (Int.tmod (wrap64 (a1 + a2)) a3), .int .i64 a3] rfl (by (try simp only [List.map_toArray, List.map_cons, List.map_nil]); first | done | rfl | (simp only [List.length_drop, List.length_take]; rfl)) ?_; (with_reducible refine (bits_Rotate.calls kj21 a0 (Int.tmod (wrap64 (a1 + a2)) a3) a3 t357 t358 _ A29.out).mono ?_); rintro e w35 ⟨rfl, hb⟩; refine ⟨_, rfl, ?_⟩; have n0_ := Aside0.mk (below_step (by repeat (first | (with_reducible first | exact HB.out | apply below_alloc | apply pw_below_drewN | apply below_drew1) | exact HB.out)) hb); clear HB; have HB := n0_; clear n0_; (try clear hb); (try clear hb2); (try clear hk); (try clear hi)) | ((with_reducible refine gate_callee (f := 30) rfl ?_); refine goesL_ (some 97) rfl rfl Try.func30 (by kernel_rfl) rfl #[] rfl (by (try simp only [List.map_toArray, List.map_cons, List.map_nil]); first | done | rfl | (simp only [List.length_drop, List.length_take]; rfl)) ?_; (with_reducible refine (cleatlaw01_told.calls kj21  true _ A30.out).mono ?_); rintro e w36 ⟨rfl, hb⟩; refine ⟨_, rfl, ?_⟩; have n0_ := Aside0.mk (below_step (by repeat (first | (with_reducible first | exact HB.out | apply below_alloc | apply pw_below_drewN | apply below_drew1) | exact HB.out)) hb); clear HB; have HB := n0_; clear n0_; (try clear hb); (try clear hb2); (try clear hk); (try clear hi)))
                                go_ret
                                exact ⟨by first | rfl | (simp [errW_none, errW_some] <;> rfl) | (simp [*, errW_none, errW_some] <;> rfl), by repeat (first | (with_reducible first | exact HB.out | apply below_alloc | apply pw_below_drewN | apply below_drew1) | exact HB.out)⟩
                              · rw [if_neg c33] at H
                                exact absurd H (by simp)
                            · rw [if_neg c32] at H
                              exact absurd H (by simp)
                          · replace c31 := Bool.eq_false_iff.mpr c31
                            subst c31
                            have H1 : (none) = some r := by rw [if_neg (show ¬ (false = true) by decide)] at H; exact H
                            clear H
                            have H := H1
                            clear H1
                            exact absurd H (by simp)
  · rw [if_neg c6] at H
    have c6b0 : (t349 == 0) = false := beq_eq_false_iff_ne.mpr c6
    have c6b1 : (t349 != 0) = true := bne_iff_ne.mpr c6
    replace H := Option.bind_eq_some_iff.mp H
    obtain ⟨t350, A370, H⟩ := H
    replace H : (if t350 = true then (some (t348 == 0)) else (none)) = some r := H
    have A37 := Aside0.mk A370
    clear A370
    by_cases c38 : t350 = true
    · subst c38
      have H1 : (some (t348 == 0)) = some r := by rw [if_pos rfl] at H; exact H
      clear H
      have H := H1
      clear H1
      obtain rfl := Option.some.inj H
      go_enter Try.func10, Try.ntmps10
      go_wp2_with (first | ((with_reducible refine gate_callee (f := 31) rfl ?_); refine goesL_ (some 21) rfl rfl Try.func31 (by kernel_rfl) rfl #[.int .u64 a0, .int .i64 a1, .int .i64 a3] rfl (by (try simp only [List.map_toArray, List.map_cons, List.map_nil]); first | done | rfl | (simp only [List.length_drop, List.length_take]; rfl)) ?_; (with_reducible refine (bits_Rotate.calls k a0 a1 a3 t348 t349 _ A5.out).mono ?_); rintro e w39 ⟨rfl, hb⟩; refine ⟨_, rfl, ?_⟩; have n0_ := Aside0.mk (below_step (by repeat (first | (with_reducible first | exact HB.out | apply below_alloc | apply pw_below_drewN | apply below_drew1) | exact HB.out)) hb); clear HB; have HB := n0_; clear n0_; (try clear hb); (try clear hb2); (try clear hk); (try clear hi)) | ((with_reducible refine gate_callee (f := 30) rfl ?_); refine goesL_ (some 26) rfl rfl Try.func30 (by kernel_rfl) rfl #[] rfl (by (try simp only [List.map_toArray, List.map_cons, List.map_nil]); first | done | rfl | (simp only [List.length_drop, List.length_take]; rfl)) ?_; (with_reducible refine (cleatlaw01_told.calls k  true _ A37.out).mono ?_); rintro e w40 ⟨rfl, hb⟩; refine ⟨_, rfl, ?_⟩; have n0_ := Aside0.mk (below_step (by repeat (first | (with_reducible first | exact HB.out | apply below_alloc | apply pw_below_drewN | apply below_drew1) | exact HB.out)) hb); clear HB; have HB := n0_; clear n0_; (try clear hb); (try clear hb2); (try clear hk); (try clear hi)))
      go_ret
      exact ⟨by first | rfl | (simp [errW_none, errW_some] <;> rfl) | (simp [*, errW_none, errW_some] <;> rfl), by repeat (first | (with_reducible first | exact HB.out | apply below_alloc | apply pw_below_drewN | apply below_drew1) | exact HB.out)⟩
    · replace c38 := Bool.eq_false_iff.mpr c38
      subst c38
      have H1 : (none) = some r := by rw [if_neg (show ¬ (false = true) by decide)] at H; exact H
      clear H
      have H := H1
      clear H1
      exact absurd H (by simp)

/-- THE ONE PURE STATEMENT of cleatlaw01_BitsRound: yours. -/
def cleatlaw01_BitsRound.Pure : Prop := ∀ (a0 : Int) (a1 : Int) (a2 : Int) (a3 : Int), (Lit.int .u64 a0).wf = true → (Lit.int .i64 a1).wf = true → (Lit.int .i64 a2).wf = true → (Lit.int .i64 a3).wf = true → ∃ k, cleatlaw01_BitsRound.f k a0 a1 a2 a3 = some true
theorem cleatlaw01_BitsRound.walk (P : cleatlaw01_BitsRound.Pure) (a0 : Int) (a1 : Int) (a2 : Int) (a3 : Int) (w : World) (w0 : (Lit.int .u64 a0).wf = true) (w1 : (Lit.int .i64 a1).wf = true) (w2 : (Lit.int .i64 a2).wf = true) (w3 : (Lit.int .i64 a3).wf = true) :
    Calls Try.prog 10 #[.int .u64 a0, .int .i64 a1, .int .i64 a2, .int .i64 a3] w fun e w' => e = .returned (.bool true) ∧ Below w.heap.size w w' := by
  obtain ⟨k, h⟩ := P a0 a1 a2 a3 w0 w1 w2 w3
  refine (cleatlaw01_BitsRound.calls k a0 a1 a2 a3 true w h).mono ?_
  rintro e w' ⟨rfl, hd⟩
  exact ⟨rfl, hd⟩

/-! ### cleatref01_Own: function 35 -/
def cleatref01_Own.f (l0 : List (S56)) : Option ((List (S56))) := if ([] : List (S56)).length + l0.length < 5864062014805 then (some (([] : List (S56)) ++ l0)) else (none)
set_option maxHeartbeats 8000000 in
set_option maxRecDepth 100000 in
theorem cleatref01_Own.calls (A0 : Option Addr) (c0 : Nat) (l0 : List (S56)) (r : List (S56)) (w : World) (hr0 : Kd.C k56 w A0 l0.length l0) (hc0 : l0.length ≤ c0) (h : cleatref01_Own.f l0 = some r) :
    Calls Try.prog 35 #[.slice A0 l0.length c0] w fun e w' => ∃ v0_ : Value, e = .returned (v0_) ∧ Kd.R k56 56 w' w.heap.size (fun _ => True) v0_ r ∧ Below w.heap.size w w' := by
  have HR0 := Aside0.mk hr0
  have HC0 := Aside0.mk hc0
  clear hr0 hc0
  have HB := Aside0.mk (Below.refl w.heap.size w)
  have H : (if ([] : List (S56)).length + l0.length < 5864062014805 then (some (([] : List (S56)) ++ l0)) else (none)) = some r := h
  clear h
  by_cases c2 : ([] : List (S56)).length + l0.length < 5864062014805
  · rw [if_pos c2] at H
    have LMc2 := Aside0.mk c2
    clear c2
    obtain ⟨y360, hy360⟩ : ∃ y_ : List (S56), y_ = (([] : List (S56)) ++ l0) := ⟨_, rfl⟩
    replace H : (some y360) = some r := by first | (rw [hy360]; with_reducible exact H) | (have H2_ := (Option.bind_some _ _).symm.trans H; rw [hy360]; with_reducible exact H2_) | (have H2_ := (Option.bind_some _ _).symm.trans H; with_reducible exact H2_) | with_reducible exact H | (rw [hy360]; exact H) | exact H
    have Ny360 := Aside0.mk hy360
    clear hy360
    obtain rfl := Option.some.inj H
    go_enter Try.func35, Try.ntmps35
    go_wp2_with (first | ((with_reducible refine gate_builtin (b := .append) (xs := #[.tmp 4, .tmp 5]) rfl ?_); at_builtin; refine Kd.R_append_rows k56 (w0 := w) w.heap.size rfl (.tmp 4) (.tmp 5) 48 56 (.agg #[(.int .i64 0), (.int .i64 0), (.int .u32 0)]) 24 rfl Try.underlying48 info56 rfl (by decide) (by omega) (.slice none 0 0) ([] : List (S56)) l0 _ _ _ (fun _ => True) (fun _ => False) rfl rfl ?aO ?aR (fun _ _ h => h) (fun _ h => h.elim) ?aF ?aB ?aS ?aL ?_; (case aR => repeat (first | exact HR0.out | (with_reducible refine Kd.C_alloc ?_ _) | (with_reducible refine Kd.C_drewN ?_ _) | (with_reducible refine Kd.C_drew ?_))); (case aB => exact (by repeat (first | (with_reducible first | exact HB.out | apply below_alloc | apply pw_below_drewN | apply below_drew1) | exact HB.out))); (case aF => exact (fun _ _ => trivial)); (case aO => exact ((Kd.R_nil _ _ _ _ (fun _ => True)))); (case aS => exact (below_size (by repeat (first | (with_reducible first | exact HB.out | apply below_alloc | apply pw_below_drewN | apply below_drew1) | exact HB.out)))); (case aL => have := LMc2.out; omega); intro v361 w3 ho hb hg hat; rw [← Ny360.out] at ho; have n0_ := Aside0.mk (hb); have n1_ := Aside0.mk (ho); clear HB; have HB := n0_; have HO362 := n1_; clear n0_ n1_; clear ho hb hg hat))
    go_ret
    exact ⟨_, by first | rfl | (simp [errW_none, errW_some] <;> rfl) | (simp [*, errW_none, errW_some] <;> rfl), by (with_reducible repeat (first | apply Kd.R_alloc | apply Kd.R_drewN | apply Kd.R_drew)); exact HO362.out, by repeat (first | (with_reducible first | exact HB.out | apply below_alloc | apply pw_below_drewN | apply below_drew1) | exact HB.out)⟩
  · rw [if_neg c2] at H
    exact absurd H (by simp)

/-! ### bits_Field: function 36 -/
def bits_Field.f (a0 : Int) (a1 : Int) (a2 : Int) : Option (Int × Int) := (bits_right.f a1 a2).bind fun t363 => (if t363 = true then (if 0 ≤ a1 then ((bits_ones.f a2).bind fun t364 => (some (Go.bits .and .u32 (shr .u32 a0 a1) ((t364) % 4294967296), 0))) else (none)) else (some (0, 1)))
set_option maxHeartbeats 8000000 in
set_option maxRecDepth 100000 in
theorem bits_Field.calls (a0 : Int) (a1 : Int) (a2 : Int) (r1 : Int) (r2 : Int) (w : World) (h : bits_Field.f a0 a1 a2 = some (r1, r2)) :
    Calls Try.prog 36 #[.int .u32 a0, .int .i64 a1, .int .i64 a2] w fun e w' => e = .returned (.tuple #[.int .u32 r1, .int .i64 r2]) ∧ Drawn0 w w' := by
  have H : ((bits_right.f a1 a2).bind fun t363 => (if t363 = true then (if 0 ≤ a1 then ((bits_ones.f a2).bind fun t364 => (some (Go.bits .and .u32 (shr .u32 a0 a1) ((t364) % 4294967296), 0))) else (none)) else (some (0, 1)))) = some (r1, r2) := h
  clear h
  replace H := Option.bind_eq_some_iff.mp H
  obtain ⟨t363, A40, H⟩ := H
  replace H : (if t363 = true then (if 0 ≤ a1 then ((bits_ones.f a2).bind fun t364 => (some (Go.bits .and .u32 (shr .u32 a0 a1) ((t364) % 4294967296), 0))) else (none)) else (some (0, 1))) = some (r1, r2) := H
  have A4 := Aside0.mk A40
  clear A40
  by_cases c5 : t363 = true
  · subst c5
    have H1 : (if 0 ≤ a1 then ((bits_ones.f a2).bind fun t364 => (some (Go.bits .and .u32 (shr .u32 a0 a1) ((t364) % 4294967296), 0))) else (none)) = some (r1, r2) := by rw [if_pos rfl] at H; exact H
    clear H
    have H := H1
    clear H1
    by_cases c6 : 0 ≤ a1
    · rw [if_pos c6] at H
      have c6b0 := eq_true c6
      have c6b1 : decide (0 ≤ a1) = true := decide_eq_true c6
      clear c6
      obtain ⟨ji7, hji7⟩ : ∃ j_ : Int, (shr .u32 a0 a1) = j_ := ⟨_, rfl⟩
      replace H : ((bits_ones.f a2).bind fun t364 => (some (Go.bits .and .u32 (ji7) ((t364) % 4294967296), 0))) = some (r1, r2) := by first | (rw [hji7] at H; exact H) | (simp only [hji7] at H ⊢; exact H)
      (try rw [hji7] at A4)
      have hji7_ : (a0 / 2 ^ min a1.toNat 32) = ji7 := hji7
      have hji7z : a1 ≤ 32 → (a0 / 2 ^ a1.toNat) = ji7 := shr_small hji7
      replace H := Option.bind_eq_some_iff.mp H
      obtain ⟨t364, A80, H⟩ := H
      replace H : (some (Go.bits .and .u32 (ji7) ((t364) % 4294967296), 0)) = some (r1, r2) := H
      have A8 := Aside0.mk A80
      clear A80
      simp only [Option.some.injEq, Prod.mk.injEq] at H
      obtain ⟨rfl, rfl⟩ := H
      go_enter Try.func36, Try.ntmps36
      go_wp2_with (first | (go_at_call 54; (with_reducible refine (bits_right.calls a1 a2 true _ A4.out).mono ?_); rintro e w' ⟨rfl, ⟨nd, rfl⟩⟩; (try first | exact ⟨rfl, _, World.drewN_drewN _ _ _⟩ | exact ⟨rfl, _, Eq.trans (World.drewN_drewN _ _ _) (congrArg (World.drewN _) (Nat.add_assoc _ _ _))⟩)) | (go_at_call 52; (with_reducible refine (bits_ones.calls a2 t364 _ A8.out).mono ?_); rintro e w' ⟨rfl, ⟨nd, rfl⟩⟩; (try first | exact ⟨rfl, _, World.drewN_drewN _ _ _⟩ | exact ⟨rfl, _, Eq.trans (World.drewN_drewN _ _ _) (congrArg (World.drewN _) (Nat.add_assoc _ _ _))⟩)))
      repeat (go_quiet (first | (go_at_call 54; (with_reducible refine (bits_right.calls a1 a2 true _ A4.out).mono ?_); rintro e w' ⟨rfl, ⟨nd, rfl⟩⟩; (try first | exact ⟨rfl, _, World.drewN_drewN _ _ _⟩ | exact ⟨rfl, _, Eq.trans (World.drewN_drewN _ _ _) (congrArg (World.drewN _) (Nat.add_assoc _ _ _))⟩)) | (go_at_call 52; (with_reducible refine (bits_ones.calls a2 t364 _ A8.out).mono ?_); rintro e w' ⟨rfl, ⟨nd, rfl⟩⟩; (try first | exact ⟨rfl, _, World.drewN_drewN _ _ _⟩ | exact ⟨rfl, _, Eq.trans (World.drewN_drewN _ _ _) (congrArg (World.drewN _) (Nat.add_assoc _ _ _))⟩))); try go_wp2_with (first | (go_at_call 54; (with_reducible refine (bits_right.calls a1 a2 true _ A4.out).mono ?_); rintro e w' ⟨rfl, ⟨nd, rfl⟩⟩; (try first | exact ⟨rfl, _, World.drewN_drewN _ _ _⟩ | exact ⟨rfl, _, Eq.trans (World.drewN_drewN _ _ _) (congrArg (World.drewN _) (Nat.add_assoc _ _ _))⟩)) | (go_at_call 52; (with_reducible refine (bits_ones.calls a2 t364 _ A8.out).mono ?_); rintro e w' ⟨rfl, ⟨nd, rfl⟩⟩; (try first | exact ⟨rfl, _, World.drewN_drewN _ _ _⟩ | exact ⟨rfl, _, Eq.trans (World.drewN_drewN _ _ _) (congrArg (World.drewN _) (Nat.add_assoc _ _ _))⟩))))
      go_ret2
      exact ⟨by first | rfl | (simp; done) | (simp only [← hji7] <;> (first | rfl | simp)) | (simp [*]; done), by repeat (first | exact Drawn0.refl _ | apply Drawn0.step)⟩
    · rw [if_neg c6] at H
      exact absurd H (by simp)
  · replace c5 := Bool.eq_false_iff.mpr c5
    subst c5
    have H1 : (some (0, 1)) = some (r1, r2) := by rw [if_neg (show ¬ (false = true) by decide)] at H; exact H
    clear H
    have H := H1
    clear H1
    simp only [Option.some.injEq, Prod.mk.injEq] at H
    obtain ⟨rfl, rfl⟩ := H
    go_enter Try.func36, Try.ntmps36
    go_wp2_with (first | (go_at_call 54; (with_reducible refine (bits_right.calls a1 a2 false _ A4.out).mono ?_); rintro e w' ⟨rfl, ⟨nd, rfl⟩⟩; (try first | exact ⟨rfl, _, World.drewN_drewN _ _ _⟩ | exact ⟨rfl, _, Eq.trans (World.drewN_drewN _ _ _) (congrArg (World.drewN _) (Nat.add_assoc _ _ _))⟩)))
    repeat (go_quiet (first | (go_at_call 54; (with_reducible refine (bits_right.calls a1 a2 false _ A4.out).mono ?_); rintro e w' ⟨rfl, ⟨nd, rfl⟩⟩; (try first | exact ⟨rfl, _, World.drewN_drewN _ _ _⟩ | exact ⟨rfl, _, Eq.trans (World.drewN_drewN _ _ _) (congrArg (World.drewN _) (Nat.add_assoc _ _ _))⟩))); try go_wp2_with (first | (go_at_call 54; (with_reducible refine (bits_right.calls a1 a2 false _ A4.out).mono ?_); rintro e w' ⟨rfl, ⟨nd, rfl⟩⟩; (try first | exact ⟨rfl, _, World.drewN_drewN _ _ _⟩ | exact ⟨rfl, _, Eq.trans (World.drewN_drewN _ _ _) (congrArg (World.drewN _) (Nat.add_assoc _ _ _))⟩))))
    go_ret2
    exact ⟨by first | rfl | (simp; done) | (simp [*]; done), by repeat (first | exact Drawn0.refl _ | apply Drawn0.step)⟩

/-! ### cleatref01_Right: function 55 -/
def cleatref01_Right.f (a0 : Int) (a1 : Int) : Option (Bool) := if a0 ≥ 0 then (if a0 ≤ 31 then (if a1 ≥ 1 then (some (decide (a1 ≤ (wrap64 (32 - a0))))) else (some false)) else (some false)) else (some false)
set_option maxHeartbeats 8000000 in
set_option maxRecDepth 100000 in
theorem cleatref01_Right.calls (a0 : Int) (a1 : Int) (r : Bool) (w : World) (h : cleatref01_Right.f a0 a1 = some r) :
    Calls Try.prog 55 #[.int .i64 a0, .int .i64 a1] w fun e w' => e = .returned (.bool r) ∧ Drawn0 w w' := by
  have H : (if a0 ≥ 0 then (if a0 ≤ 31 then (if a1 ≥ 1 then (some (decide (a1 ≤ (wrap64 (32 - a0))))) else (some false)) else (some false)) else (some false)) = some r := h
  clear h
  by_cases c3 : a0 ≥ 0
  · rw [if_pos c3] at H
    have c3b0 : decide (0 ≤ a0) = true := decide_eq_true c3
    clear c3
    by_cases c4 : a0 ≤ 31
    · rw [if_pos c4] at H
      have c4b0 : decide (a0 ≤ 31) = true := decide_eq_true c4
      clear c4
      by_cases c5 : a1 ≥ 1
      · rw [if_pos c5] at H
        have c5b0 : decide (1 ≤ a1) = true := decide_eq_true c5
        clear c5
        obtain rfl := Option.some.inj H
        go_enter Try.func55, Try.ntmps55
        go_wp2
        go_ret
        exact ⟨by first | rfl | (simp; done) | (simp [*]; done), by repeat (first | exact Drawn0.refl _ | apply Drawn0.step)⟩
      · rw [if_neg c5] at H
        have c5b0 : decide (1 ≤ a1) = false := decide_eq_false c5
        clear c5
        obtain rfl := Option.some.inj H
        go_enter Try.func55, Try.ntmps55
        go_wp2
        go_ret
        exact ⟨by first | rfl | (simp; done) | (simp [*]; done), by repeat (first | exact Drawn0.refl _ | apply Drawn0.step)⟩
    · rw [if_neg c4] at H
      have c4b0 : decide (a0 ≤ 31) = false := decide_eq_false c4
      clear c4
      obtain rfl := Option.some.inj H
      go_enter Try.func55, Try.ntmps55
      go_wp2
      go_ret
      exact ⟨by first | rfl | (simp; done) | (simp [*]; done), by repeat (first | exact Drawn0.refl _ | apply Drawn0.step)⟩
  · rw [if_neg c3] at H
    have c3b0 : decide (0 ≤ a0) = false := decide_eq_false c3
    clear c3
    obtain rfl := Option.some.inj H
    go_enter Try.func55, Try.ntmps55
    go_wp2
    go_ret
    exact ⟨by first | rfl | (simp; done) | (simp [*]; done), by repeat (first | exact Drawn0.refl _ | apply Drawn0.step)⟩

/-! ### cleatref01_Field: function 37 -/
def cleatref01_Field.f (k : Nat) (a0 : Int) (a1 : Int) (a2 : Int) : Option (Int × Int) := (cleatref01_Right.f a1 a2).bind fun t365 => (if t365 = true then ((cleatref01_Power.f k a1).bind fun t366 => (if t366 = 0 then (none) else ((cleatref01_Power.f k a2).bind fun t367 => (if t367 = 0 then (none) else (some ((Int.tmod (IntKind.u64.wrap (Int.tdiv (IntKind.u64.wrap (a0)) t366)) t367) % 4294967296, 0)))))) else (some (0, 1)))
theorem cleatref01_Field.mono : ∀ a0 a1 a2 k, LeO (cleatref01_Field.f k a0 a1 a2) (cleatref01_Field.f (k + 1) a0 a1 a2) := by
  intro a0 a1 a2 k
  unfold cleatref01_Field.f
  repeat' first
      | (with_reducible exact cleatref01_Power.mono _ _)
      | (with_reducible exact LeO.refl _)
      | (with_reducible exact LeO.none _)
      | (with_reducible refine LeO.ite ?_ ?_)
      | (with_reducible refine LeO.bind ?_ (fun _ => ?_))
      | exact cleatref01_Power.mono _ _
      | exact LeO.none _
      | refine LeO.ite ?_ ?_
      | refine LeO.bind ?_ (fun _ => ?_)
set_option maxHeartbeats 8000000 in
set_option maxRecDepth 100000 in
theorem cleatref01_Field.calls (k : Nat) (a0 : Int) (a1 : Int) (a2 : Int) (r1 : Int) (r2 : Int) (w : World) (h : cleatref01_Field.f k a0 a1 a2 = some (r1, r2)) :
    Calls Try.prog 37 #[.int .u32 a0, .int .i64 a1, .int .i64 a2] w fun e w' => e = .returned (.tuple #[.int .u32 r1, .int .i64 r2]) ∧ Drawn0 w w' := by
  have H : ((cleatref01_Right.f a1 a2).bind fun t365 => (if t365 = true then ((cleatref01_Power.f k a1).bind fun t366 => (if t366 = 0 then (none) else ((cleatref01_Power.f k a2).bind fun t367 => (if t367 = 0 then (none) else (some ((Int.tmod (IntKind.u64.wrap (Int.tdiv (IntKind.u64.wrap (a0)) t366)) t367) % 4294967296, 0)))))) else (some (0, 1)))) = some (r1, r2) := h
  clear h
  replace H := Option.bind_eq_some_iff.mp H
  obtain ⟨t365, A40, H⟩ := H
  replace H : (if t365 = true then ((cleatref01_Power.f k a1).bind fun t366 => (if t366 = 0 then (none) else ((cleatref01_Power.f k a2).bind fun t367 => (if t367 = 0 then (none) else (some ((Int.tmod (IntKind.u64.wrap (Int.tdiv (IntKind.u64.wrap (a0)) t366)) t367) % 4294967296, 0)))))) else (some (0, 1))) = some (r1, r2) := H
  have A4 := Aside0.mk A40
  clear A40
  by_cases c5 : t365 = true
  · subst c5
    have H1 : ((cleatref01_Power.f k a1).bind fun t366 => (if t366 = 0 then (none) else ((cleatref01_Power.f k a2).bind fun t367 => (if t367 = 0 then (none) else (some ((Int.tmod (IntKind.u64.wrap (Int.tdiv (IntKind.u64.wrap (a0)) t366)) t367) % 4294967296, 0)))))) = some (r1, r2) := by rw [if_pos rfl] at H; exact H
    clear H
    have H := H1
    clear H1
    replace H := Option.bind_eq_some_iff.mp H
    obtain ⟨t366, A60, H⟩ := H
    replace H : (if t366 = 0 then (none) else ((cleatref01_Power.f k a2).bind fun t367 => (if t367 = 0 then (none) else (some ((Int.tmod (IntKind.u64.wrap (Int.tdiv (IntKind.u64.wrap (a0)) t366)) t367) % 4294967296, 0))))) = some (r1, r2) := H
    have A6 := Aside0.mk A60
    clear A60
    by_cases c7 : t366 = 0
    · rw [if_pos c7] at H
      exact absurd H (by simp)
    · rw [if_neg c7] at H
      have c7b0 : (t366 == 0) = false := beq_eq_false_iff_ne.mpr c7
      have c7b1 : (t366 != 0) = true := bne_iff_ne.mpr c7
      replace H := Option.bind_eq_some_iff.mp H
      obtain ⟨t367, A80, H⟩ := H
      replace H : (if t367 = 0 then (none) else (some ((Int.tmod (IntKind.u64.wrap (Int.tdiv (IntKind.u64.wrap (a0)) t366)) t367) % 4294967296, 0))) = some (r1, r2) := H
      have A8 := Aside0.mk A80
      clear A80
      by_cases c9 : t367 = 0
      · rw [if_pos c9] at H
        exact absurd H (by simp)
      · rw [if_neg c9] at H
        have c9b0 : (t367 == 0) = false := beq_eq_false_iff_ne.mpr c9
        have c9b1 : (t367 != 0) = true := bne_iff_ne.mpr c9
        simp only [Option.some.injEq, Prod.mk.injEq] at H
        obtain ⟨rfl, rfl⟩ := H
        go_enter Try.func37, Try.ntmps37
        go_wp2_with (first | (go_at_call 55; (with_reducible refine (cleatref01_Right.calls a1 a2 true _ A4.out).mono ?_); rintro e w' ⟨rfl, ⟨nd, rfl⟩⟩; (try first | exact ⟨rfl, _, World.drewN_drewN _ _ _⟩ | exact ⟨rfl, _, Eq.trans (World.drewN_drewN _ _ _) (congrArg (World.drewN _) (Nat.add_assoc _ _ _))⟩)) | (go_at_call 43; (with_reducible refine (cleatref01_Power.calls k a1 t366 _ A6.out).mono ?_); rintro e w' ⟨rfl, ⟨nd, rfl⟩⟩; (try first | exact ⟨rfl, _, World.drewN_drewN _ _ _⟩ | exact ⟨rfl, _, Eq.trans (World.drewN_drewN _ _ _) (congrArg (World.drewN _) (Nat.add_assoc _ _ _))⟩)) | (go_at_call 43; (with_reducible refine (cleatref01_Power.calls k a2 t367 _ A8.out).mono ?_); rintro e w' ⟨rfl, ⟨nd, rfl⟩⟩; (try first | exact ⟨rfl, _, World.drewN_drewN _ _ _⟩ | exact ⟨rfl, _, Eq.trans (World.drewN_drewN _ _ _) (congrArg (World.drewN _) (Nat.add_assoc _ _ _))⟩)))
        repeat (go_quiet (first | (go_at_call 55; (with_reducible refine (cleatref01_Right.calls a1 a2 true _ A4.out).mono ?_); rintro e w' ⟨rfl, ⟨nd, rfl⟩⟩; (try first | exact ⟨rfl, _, World.drewN_drewN _ _ _⟩ | exact ⟨rfl, _, Eq.trans (World.drewN_drewN _ _ _) (congrArg (World.drewN _) (Nat.add_assoc _ _ _))⟩)) | (go_at_call 43; (with_reducible refine (cleatref01_Power.calls k a1 t366 _ A6.out).mono ?_); rintro e w' ⟨rfl, ⟨nd, rfl⟩⟩; (try first | exact ⟨rfl, _, World.drewN_drewN _ _ _⟩ | exact ⟨rfl, _, Eq.trans (World.drewN_drewN _ _ _) (congrArg (World.drewN _) (Nat.add_assoc _ _ _))⟩)) | (go_at_call 43; (with_reducible refine (cleatref01_Power.calls k a2 t367 _ A8.out).mono ?_); rintro e w' ⟨rfl, ⟨nd, rfl⟩⟩; (try first | exact ⟨rfl, _, World.drewN_drewN _ _ _⟩ | exact ⟨rfl, _, Eq.trans (World.drewN_drewN _ _ _) (congrArg (World.drewN _) (Nat.add_assoc _ _ _))⟩))); try go_wp2_with (first | (go_at_call 55; (with_reducible refine (cleatref01_Right.calls a1 a2 true _ A4.out).mono ?_); rintro e w' ⟨rfl, ⟨nd, rfl⟩⟩; (try first | exact ⟨rfl, _, World.drewN_drewN _ _ _⟩ | exact ⟨rfl, _, Eq.trans (World.drewN_drewN _ _ _) (congrArg (World.drewN _) (Nat.add_assoc _ _ _))⟩)) | (go_at_call 43; (with_reducible refine (cleatref01_Power.calls k a1 t366 _ A6.out).mono ?_); rintro e w' ⟨rfl, ⟨nd, rfl⟩⟩; (try first | exact ⟨rfl, _, World.drewN_drewN _ _ _⟩ | exact ⟨rfl, _, Eq.trans (World.drewN_drewN _ _ _) (congrArg (World.drewN _) (Nat.add_assoc _ _ _))⟩)) | (go_at_call 43; (with_reducible refine (cleatref01_Power.calls k a2 t367 _ A8.out).mono ?_); rintro e w' ⟨rfl, ⟨nd, rfl⟩⟩; (try first | exact ⟨rfl, _, World.drewN_drewN _ _ _⟩ | exact ⟨rfl, _, Eq.trans (World.drewN_drewN _ _ _) (congrArg (World.drewN _) (Nat.add_assoc _ _ _))⟩))))
        go_ret2
        exact ⟨by first | rfl | (simp; done) | (simp [*]; done), by repeat (first | exact Drawn0.refl _ | apply Drawn0.step)⟩
  · replace c5 := Bool.eq_false_iff.mpr c5
    subst c5
    have H1 : (some (0, 1)) = some (r1, r2) := by rw [if_neg (show ¬ (false = true) by decide)] at H; exact H
    clear H
    have H := H1
    clear H1
    simp only [Option.some.injEq, Prod.mk.injEq] at H
    obtain ⟨rfl, rfl⟩ := H
    go_enter Try.func37, Try.ntmps37
    go_wp2_with (first | (go_at_call 55; (with_reducible refine (cleatref01_Right.calls a1 a2 false _ A4.out).mono ?_); rintro e w' ⟨rfl, ⟨nd, rfl⟩⟩; (try first | exact ⟨rfl, _, World.drewN_drewN _ _ _⟩ | exact ⟨rfl, _, Eq.trans (World.drewN_drewN _ _ _) (congrArg (World.drewN _) (Nat.add_assoc _ _ _))⟩)))
    repeat (go_quiet (first | (go_at_call 55; (with_reducible refine (cleatref01_Right.calls a1 a2 false _ A4.out).mono ?_); rintro e w' ⟨rfl, ⟨nd, rfl⟩⟩; (try first | exact ⟨rfl, _, World.drewN_drewN _ _ _⟩ | exact ⟨rfl, _, Eq.trans (World.drewN_drewN _ _ _) (congrArg (World.drewN _) (Nat.add_assoc _ _ _))⟩))); try go_wp2_with (first | (go_at_call 55; (with_reducible refine (cleatref01_Right.calls a1 a2 false _ A4.out).mono ?_); rintro e w' ⟨rfl, ⟨nd, rfl⟩⟩; (try first | exact ⟨rfl, _, World.drewN_drewN _ _ _⟩ | exact ⟨rfl, _, Eq.trans (World.drewN_drewN _ _ _) (congrArg (World.drewN _) (Nat.add_assoc _ _ _))⟩))))
    go_ret2
    exact ⟨by first | rfl | (simp; done) | (simp [*]; done), by repeat (first | exact Drawn0.refl _ | apply Drawn0.step)⟩

end Go.Proofs.Ytclomjndhcpmfaa.P
