/- Written for this claim by a program of this session (drive.py, over the print of the kit): Lean functions with the answers of Go functions, and the proofs that the Go code comes to these answers, under no condition but the readings of the arguments that each theorem names. -/
import Derived.Test.YtfajpcinmpbhgaaDoorPx0
import Derived.Test.YtfajpcinmpbhgaaDoorPx3
import Derived.Test.YtfajpcinmpbhgaaDoorPx4
namespace Go.Proofs.YtfajpcinmpbhgaaDoor.P
open Go.RowKit Go.Proofs.YtfajpcinmpbhgaaDoorW.PrintWords Go.Proofs.YtfajpcinmpbhgaaDoorW.PrintLast Go.Proofs.YtfajpcinmpbhgaaDoorW.PrintMore
attribute [local go_sem] max2_int min2_int max_two min_two max_three min_three max_four min_four   -- for this text's walks alone
set_option linter.unusedVariables false
set_option linter.unusedSimpArgs false

/-! ### cleatlaw10_NumSums: function 7 -/
def cleatlaw10_NumSums.f (k : Nat) (a0 : Int) (a1 : Int) (a2 : Int) : Option (Bool) := (num_Sum.f a0 a1).bind fun bt199 => ((num_Sum.f a0 a2).bind fun bt201 => (if bt199.2 = 0 then (if a1 = (-9223372036854775808) then ((cleatlaw10_counted.f k).bind fun t204 => (if t204 = true then (if ((decide (a1 ≥ 0)) == (decide (bt199.1 ≥ a0))) = true then (if bt201.2 = 0 then (some ((decide (a1 ≤ a2)) == (decide (bt199.1 ≤ bt201.1)))) else (some true)) else (none)) else (none))) else ((num_Sum.f bt199.1 (wrap64 (-a1))).bind fun bt205 => (if bt205.2 = 0 then (if bt205.1 = a0 then ((cleatlaw10_counted.f k).bind fun t207 => (if t207 = true then (if ((decide (a1 ≥ 0)) == (decide (bt199.1 ≥ a0))) = true then (if bt201.2 = 0 then (some ((decide (a1 ≤ a2)) == (decide (bt199.1 ≤ bt201.1)))) else (some true)) else (none)) else (none))) else (none)) else (none)))) else ((cleatlaw10_counted.f k).bind fun t203 => (if t203 = true then (if bt199.1 = 0 then (some (a1 != 0)) else (none)) else (none)))))
theorem cleatlaw10_NumSums.mono : ∀ a0 a1 a2 k, LeO (cleatlaw10_NumSums.f k a0 a1 a2) (cleatlaw10_NumSums.f (k + 1) a0 a1 a2) := by
  intro a0 a1 a2 k
  unfold cleatlaw10_NumSums.f
  repeat' first
      | (with_reducible exact cleatlaw10_counted.mono _)
      | (with_reducible exact LeO.refl _)
      | (with_reducible exact LeO.none _)
      | (with_reducible refine LeO.ite ?_ ?_)
      | (with_reducible refine LeO.bind ?_ (fun _ => ?_))
      | exact cleatlaw10_counted.mono _
      | exact LeO.none _
      | refine LeO.ite ?_ ?_
      | refine LeO.bind ?_ (fun _ => ?_)
set_option maxHeartbeats 8000000 in
set_option maxRecDepth 100000 in
theorem cleatlaw10_NumSums.calls (k : Nat) (a0 : Int) (a1 : Int) (a2 : Int) (r : Bool) (w : World) (h : cleatlaw10_NumSums.f k a0 a1 a2 = some r) (hTab : TabW w := by first | exact hTab | exact TabW.drew hTab | exact TabW.drewN hTab _ | exact TabW.below hTab (by repeat (first | (with_reducible first | exact HB.out | apply below_alloc | apply pw_below_drewN | apply below_drew1) | exact HB.out | exact Below.refl _ _))) :
    Calls Tryd.prog 7 #[.int .u64 a0, .int .i64 a1, .int .i64 a2] w fun e w' => e = .returned (.bool r) ∧ Below w.heap.size w w' := by
  have HB := Aside0.mk (Below.refl w.heap.size w)
  have H : ((num_Sum.f a0 a1).bind fun bt199 => ((num_Sum.f a0 a2).bind fun bt201 => (if bt199.2 = 0 then (if a1 = (-9223372036854775808) then ((cleatlaw10_counted.f k).bind fun t204 => (if t204 = true then (if ((decide (a1 ≥ 0)) == (decide (bt199.1 ≥ a0))) = true then (if bt201.2 = 0 then (some ((decide (a1 ≤ a2)) == (decide (bt199.1 ≤ bt201.1)))) else (some true)) else (none)) else (none))) else ((num_Sum.f bt199.1 (wrap64 (-a1))).bind fun bt205 => (if bt205.2 = 0 then (if bt205.1 = a0 then ((cleatlaw10_counted.f k).bind fun t207 => (if t207 = true then (if ((decide (a1 ≥ 0)) == (decide (bt199.1 ≥ a0))) = true then (if bt201.2 = 0 then (some ((decide (a1 ≤ a2)) == (decide (bt199.1 ≤ bt201.1)))) else (some true)) else (none)) else (none))) else (none)) else (none)))) else ((cleatlaw10_counted.f k).bind fun t203 => (if t203 = true then (if bt199.1 = 0 then (some (a1 != 0)) else (none)) else (none)))))) = some r := h
  clear h
  replace H := Option.bind_eq_some_iff.mp H
  obtain ⟨⟨t199, t200⟩, A40, H⟩ := H
  replace H : ((num_Sum.f a0 a2).bind fun bt201 => (if t200 = 0 then (if a1 = (-9223372036854775808) then ((cleatlaw10_counted.f k).bind fun t204 => (if t204 = true then (if ((decide (a1 ≥ 0)) == (decide (t199 ≥ a0))) = true then (if bt201.2 = 0 then (some ((decide (a1 ≤ a2)) == (decide (t199 ≤ bt201.1)))) else (some true)) else (none)) else (none))) else ((num_Sum.f t199 (wrap64 (-a1))).bind fun bt205 => (if bt205.2 = 0 then (if bt205.1 = a0 then ((cleatlaw10_counted.f k).bind fun t207 => (if t207 = true then (if ((decide (a1 ≥ 0)) == (decide (t199 ≥ a0))) = true then (if bt201.2 = 0 then (some ((decide (a1 ≤ a2)) == (decide (t199 ≤ bt201.1)))) else (some true)) else (none)) else (none))) else (none)) else (none)))) else ((cleatlaw10_counted.f k).bind fun t203 => (if t203 = true then (if t199 = 0 then (some (a1 != 0)) else (none)) else (none))))) = some r := H
  have A4 := Aside0.mk A40
  clear A40
  replace H := Option.bind_eq_some_iff.mp H
  obtain ⟨⟨t201, t202⟩, A50, H⟩ := H
  replace H : (if t200 = 0 then (if a1 = (-9223372036854775808) then ((cleatlaw10_counted.f k).bind fun t204 => (if t204 = true then (if ((decide (a1 ≥ 0)) == (decide (t199 ≥ a0))) = true then (if t202 = 0 then (some ((decide (a1 ≤ a2)) == (decide (t199 ≤ t201)))) else (some true)) else (none)) else (none))) else ((num_Sum.f t199 (wrap64 (-a1))).bind fun bt205 => (if bt205.2 = 0 then (if bt205.1 = a0 then ((cleatlaw10_counted.f k).bind fun t207 => (if t207 = true then (if ((decide (a1 ≥ 0)) == (decide (t199 ≥ a0))) = true then (if t202 = 0 then (some ((decide (a1 ≤ a2)) == (decide (t199 ≤ t201)))) else (some true)) else (none)) else (none))) else (none)) else (none)))) else ((cleatlaw10_counted.f k).bind fun t203 => (if t203 = true then (if t199 = 0 then (some (a1 != 0)) else (none)) else (none)))) = some r := H
  have A5 := Aside0.mk A50
  clear A50
  by_cases c6 : t200 = 0
  · rw [if_pos c6] at H
    have c6b0 : (t200 == 0) = true := beq_iff_eq.mpr c6
    have c6b1 : (t200 != 0) = false := bne_eq_false_iff_eq.mpr c6
    clear c6
    by_cases c7 : a1 = (-9223372036854775808)
    · rw [if_pos c7] at H
      have c7b0 : (a1 == (-9223372036854775808)) = true := beq_iff_eq.mpr c7
      have c7b1 : (a1 != (-9223372036854775808)) = false := bne_eq_false_iff_eq.mpr c7
      clear c7
      replace H := Option.bind_eq_some_iff.mp H
      obtain ⟨t204, A80, H⟩ := H
      replace H : (if t204 = true then (if ((decide (a1 ≥ 0)) == (decide (t199 ≥ a0))) = true then (if t202 = 0 then (some ((decide (a1 ≤ a2)) == (decide (t199 ≤ t201)))) else (some true)) else (none)) else (none)) = some r := H
      have A8 := Aside0.mk A80
      clear A80
      by_cases c9 : t204 = true
      · subst c9
        have H1 : (if ((decide (a1 ≥ 0)) == (decide (t199 ≥ a0))) = true then (if t202 = 0 then (some ((decide (a1 ≤ a2)) == (decide (t199 ≤ t201)))) else (some true)) else (none)) = some r := by rw [if_pos rfl] at H; exact H
        clear H
        have H := H1
        clear H1
        by_cases c10 : ((decide (a1 ≥ 0)) == (decide (t199 ≥ a0))) = true
        · rw [if_pos c10] at H
          have c10b0 : ((decide (a1 ≥ 0)) == (decide (t199 ≥ a0))) = true := c10
          (try (have c10b1 : decide ((decide (a1 ≥ 0)) = (decide (t199 ≥ a0))) = true := by simpa using c10))
          (try (have c10b2 : ((decide (a1 ≥ 0)) == (decide (t199 ≥ a0))) = true := by simpa using c10))
          clear c10
          by_cases c11 : t202 = 0
          · rw [if_pos c11] at H
            have c11b0 : (t202 == 0) = true := beq_iff_eq.mpr c11
            have c11b1 : (t202 != 0) = false := bne_eq_false_iff_eq.mpr c11
            clear c11
            obtain rfl := Option.some.inj H
            go_enter Tryd.func7, Tryd.ntmps7
            go_wp2_with (first | ((with_reducible refine gate_callee (f := 14) rfl ?_); refine goesL_ (some 16) rfl rfl Tryd.func14 (by kernel_rfl) rfl #[.int .u64 a0, .int .i64 a1] rfl (by (try simp only [List.map_toArray, List.map_cons, List.map_nil]); first | done | rfl | (simp only [List.length_drop, List.length_take]; rfl)) ?_; (with_reducible refine (num_Sum.calls a0 a1 t199 t200 _ A4.out).mono ?_); rintro e w' ⟨rfl, ⟨nd, rfl⟩⟩; refine ⟨_, rfl, ?_⟩) | ((with_reducible refine gate_callee (f := 14) rfl ?_); refine goesL_ (some 22) rfl rfl Tryd.func14 (by kernel_rfl) rfl #[.int .u64 a0, .int .i64 a2] rfl (by (try simp only [List.map_toArray, List.map_cons, List.map_nil]); first | done | rfl | (simp only [List.length_drop, List.length_take]; rfl)) ?_; (with_reducible refine (num_Sum.calls a0 a2 t201 t202 _ A5.out).mono ?_); rintro e w' ⟨rfl, ⟨nd, rfl⟩⟩; refine ⟨_, rfl, ?_⟩) | ((with_reducible refine gate_callee (f := 16) rfl ?_); refine goesL_ (some 52) rfl rfl Tryd.func16 (by kernel_rfl) rfl #[] rfl (by (try simp only [List.map_toArray, List.map_cons, List.map_nil]); first | done | rfl | (simp only [List.length_drop, List.length_take]; rfl)) ?_; (with_reducible refine (cleatlaw10_counted.calls k  true _ A8.out).mono ?_); rintro e w12 ⟨rfl, hb⟩; refine ⟨_, rfl, ?_⟩; have n0_ := Aside0.mk (below_step (by repeat (first | (with_reducible first | exact HB.out | apply below_alloc | apply pw_below_drewN | apply below_drew1) | exact HB.out)) hb); clear HB; have HB := n0_; clear n0_; (try clear hb); (try clear hb2); (try clear hk); (try clear hi)))
            go_ret
            exact ⟨by first | rfl | (simp [errW_none, errW_some] <;> rfl) | (simp [*, errW_none, errW_some] <;> rfl), by repeat (first | (with_reducible first | exact HB.out | apply below_alloc | apply pw_below_drewN | apply below_drew1) | exact HB.out)⟩
          · rw [if_neg c11] at H
            have c11b0 : (t202 == 0) = false := beq_eq_false_iff_ne.mpr c11
            have c11b1 : (t202 != 0) = true := bne_iff_ne.mpr c11
            obtain rfl := Option.some.inj H
            go_enter Tryd.func7, Tryd.ntmps7
            go_wp2_with (first | ((with_reducible refine gate_callee (f := 14) rfl ?_); refine goesL_ (some 16) rfl rfl Tryd.func14 (by kernel_rfl) rfl #[.int .u64 a0, .int .i64 a1] rfl (by (try simp only [List.map_toArray, List.map_cons, List.map_nil]); first | done | rfl | (simp only [List.length_drop, List.length_take]; rfl)) ?_; (with_reducible refine (num_Sum.calls a0 a1 t199 t200 _ A4.out).mono ?_); rintro e w' ⟨rfl, ⟨nd, rfl⟩⟩; refine ⟨_, rfl, ?_⟩) | ((with_reducible refine gate_callee (f := 14) rfl ?_); refine goesL_ (some 22) rfl rfl Tryd.func14 (by kernel_rfl) rfl #[.int .u64 a0, .int .i64 a2] rfl (by (try simp only [List.map_toArray, List.map_cons, List.map_nil]); first | done | rfl | (simp only [List.length_drop, List.length_take]; rfl)) ?_; (with_reducible refine (num_Sum.calls a0 a2 t201 t202 _ A5.out).mono ?_); rintro e w' ⟨rfl, ⟨nd, rfl⟩⟩; refine ⟨_, rfl, ?_⟩) | ((with_reducible refine gate_callee (f := 16) rfl ?_); refine goesL_ (some 52) rfl rfl Tryd.func16 (by kernel_rfl) rfl #[] rfl (by (try simp only [List.map_toArray, List.map_cons, List.map_nil]); first | done | rfl | (simp only [List.length_drop, List.length_take]; rfl)) ?_; (with_reducible refine (cleatlaw10_counted.calls k  true _ A8.out).mono ?_); rintro e w13 ⟨rfl, hb⟩; refine ⟨_, rfl, ?_⟩; have n0_ := Aside0.mk (below_step (by repeat (first | (with_reducible first | exact HB.out | apply below_alloc | apply pw_below_drewN | apply below_drew1) | exact HB.out)) hb); clear HB; have HB := n0_; clear n0_; (try clear hb); (try clear hb2); (try clear hk); (try clear hi)))
            go_ret
            exact ⟨by first | rfl | (simp [errW_none, errW_some] <;> rfl) | (simp [*, errW_none, errW_some] <;> rfl), by repeat (first | (with_reducible first | exact HB.out | apply below_alloc | apply pw_below_drewN | apply below_drew1) | exact HB.out)⟩
        · rw [if_neg c10] at H
          exact absurd H (by simp)
      · replace c9 := Bool.eq_false_iff.mpr c9
        subst c9
        have H1 : (none) = some r := by rw [if_neg (show ¬ (false = true) by decide)] at H; exact H
        clear H
        have H := H1
        clear H1
        exact absurd H (by simp)
    · rw [if_neg c7] at H
      have c7b0 : (a1 == (-9223372036854775808)) = false := beq_eq_false_iff_ne.mpr c7
      have c7b1 : (a1 != (-9223372036854775808)) = true := bne_iff_ne.mpr c7
      replace H := Option.bind_eq_some_iff.mp H
      obtain ⟨⟨t205, t206⟩, A140, H⟩ := H
      replace H : (if t206 = 0 then (if t205 = a0 then ((cleatlaw10_counted.f k).bind fun t207 => (if t207 = true then (if ((decide (a1 ≥ 0)) == (decide (t199 ≥ a0))) = true then (if t202 = 0 then (some ((decide (a1 ≤ a2)) == (decide (t199 ≤ t201)))) else (some true)) else (none)) else (none))) else (none)) else (none)) = some r := H
      have A14 := Aside0.mk A140
      clear A140
      by_cases c15 : t206 = 0
      · rw [if_pos c15] at H
        have c15b0 : (t206 == 0) = true := beq_iff_eq.mpr c15
        have c15b1 : (t206 != 0) = false := bne_eq_false_iff_eq.mpr c15
        clear c15
        by_cases c16 : t205 = a0
        · rw [if_pos c16] at H
          have c16b0 : (t205 == a0) = true := beq_iff_eq.mpr c16
          have c16b1 : (t205 != a0) = false := bne_eq_false_iff_eq.mpr c16
          clear c16
          replace H := Option.bind_eq_some_iff.mp H
          obtain ⟨t207, A170, H⟩ := H
          replace H : (if t207 = true then (if ((decide (a1 ≥ 0)) == (decide (t199 ≥ a0))) = true then (if t202 = 0 then (some ((decide (a1 ≤ a2)) == (decide (t199 ≤ t201)))) else (some true)) else (none)) else (none)) = some r := H
          have A17 := Aside0.mk A170
          clear A170
          by_cases c18 : t207 = true
          · subst c18
            have H1 : (if ((decide (a1 ≥ 0)) == (decide (t199 ≥ a0))) = true then (if t202 = 0 then (some ((decide (a1 ≤ a2)) == (decide (t199 ≤ t201)))) else (some true)) else (none)) = some r := by rw [if_pos rfl] at H; exact H
            clear H
            have H := H1
            clear H1
            by_cases c19 : ((decide (a1 ≥ 0)) == (decide (t199 ≥ a0))) = true
            · rw [if_pos c19] at H
              have c19b0 : ((decide (a1 ≥ 0)) == (decide (t199 ≥ a0))) = true := c19
              (try (have c19b1 : decide ((decide (a1 ≥ 0)) = (decide (t199 ≥ a0))) = true := by simpa using c19))
              (try (have c19b2 : ((decide (a1 ≥ 0)) == (decide (t199 ≥ a0))) = true := by simpa using c19))
              clear c19
              by_cases c20 : t202 = 0
              · rw [if_pos c20] at H
                have c20b0 : (t202 == 0) = true := beq_iff_eq.mpr c20
                have c20b1 : (t202 != 0) = false := bne_eq_false_iff_eq.mpr c20
                clear c20
                obtain rfl := Option.some.inj H
                go_enter Tryd.func7, Tryd.ntmps7
                go_wp2_with (first | ((with_reducible refine gate_callee (f := 14) rfl ?_); refine goesL_ (some 16) rfl rfl Tryd.func14 (by kernel_rfl) rfl #[.int .u64 a0, .int .i64 a1] rfl (by (try simp only [List.map_toArray, List.map_cons, List.map_nil]); first | done | rfl | (simp only [List.length_drop, List.length_take]; rfl)) ?_; (with_reducible refine (num_Sum.calls a0 a1 t199 t200 _ A4.out).mono ?_); rintro e w' ⟨rfl, ⟨nd, rfl⟩⟩; refine ⟨_, rfl, ?_⟩) | ((with_reducible refine gate_callee (f := 14) rfl ?_); refine goesL_ (some 22) rfl rfl Tryd.func14 (by kernel_rfl) rfl #[.int .u64 a0, .int .i64 a2] rfl (by (try simp only [List.map_toArray, List.map_cons, List.map_nil]); first | done | rfl | (simp only [List.length_drop, List.length_take]; rfl)) ?_; (with_reducible refine (num_Sum.calls a0 a2 t201 t202 _ A5.out).mono ?_); rintro e w' ⟨rfl, ⟨nd, rfl⟩⟩; refine ⟨_, rfl, ?_⟩) | ((with_reducible refine gate_callee (f := 14) rfl ?_); refine goesL_ (some 42) rfl rfl Tryd.func14 (by kernel_rfl) rfl #[.int .u64 t199, .int .i64 (wrap64 (-a1))] rfl (by (try simp only [List.map_toArray, List.map_cons, List.map_nil]); first | done | rfl | (simp only [List.length_drop, List.length_take]; rfl)) ?_; (with_reducible refine (num_Sum.calls t199 (wrap64 (-a1)) t205 t206 _ A14.out).mono ?_); rintro e w' ⟨rfl, ⟨nd, rfl⟩⟩; refine ⟨_, rfl, ?_⟩) | ((with_reducible refine gate_callee (f := 16) rfl ?_); refine goesL_ (some 52) rfl rfl Tryd.func16 (by kernel_rfl) rfl #[] rfl (by (try simp only [List.map_toArray, List.map_cons, List.map_nil]); first | done | rfl | (simp only [List.length_drop, List.length_take]; rfl)) ?_; (with_reducible refine (cleatlaw10_counted.calls k  true _ A17.out).mono ?_); rintro e w21 ⟨rfl, hb⟩; refine ⟨_, rfl, ?_⟩; have n0_ := Aside0.mk (below_step (by repeat (first | (with_reducible first | exact HB.out | apply below_alloc | apply pw_below_drewN | apply below_drew1) | exact HB.out)) hb); clear HB; have HB := n0_; clear n0_; (try clear hb); (try clear hb2); (try clear hk); (try clear hi)))
                go_ret
                exact ⟨by first | rfl | (simp [errW_none, errW_some] <;> rfl) | (simp [*, errW_none, errW_some] <;> rfl), by repeat (first | (with_reducible first | exact HB.out | apply below_alloc | apply pw_below_drewN | apply below_drew1) | exact HB.out)⟩
              · rw [if_neg c20] at H
                have c20b0 : (t202 == 0) = false := beq_eq_false_iff_ne.mpr c20
                have c20b1 : (t202 != 0) = true := bne_iff_ne.mpr c20
                obtain rfl := Option.some.inj H
                go_enter Tryd.func7, Tryd.ntmps7
                go_wp2_with (first | ((with_reducible refine gate_callee (f := 14) rfl ?_); refine goesL_ (some 16) rfl rfl Tryd.func14 (by kernel_rfl) rfl #[.int .u64 a0, .int .i64 a1] rfl (by (try simp only [List.map_toArray, List.map_cons, List.map_nil]); first | done | rfl | (simp only [List.length_drop, List.length_take]; rfl)) ?_; (with_reducible refine (num_Sum.calls a0 a1 t199 t200 _ A4.out).mono ?_); rintro e w' ⟨rfl, ⟨nd, rfl⟩⟩; refine ⟨_, rfl, ?_⟩) | ((with_reducible refine gate_callee (f := 14) rfl ?_); refine goesL_ (some 22) rfl rfl Tryd.func14 (by kernel_rfl) rfl #[.int .u64 a0, .int .i64 a2] rfl (by (try simp only [List.map_toArray, List.map_cons, List.map_nil]); first | done | rfl | (simp only [List.length_drop, List.length_take]; rfl)) ?_; (with_reducible refine (num_Sum.calls a0 a2 t201 t202 _ A5.out).mono ?_); rintro e w' ⟨rfl, ⟨nd, rfl⟩⟩; refine ⟨_, rfl, ?_⟩) | ((with_reducible refine gate_callee (f := 14) rfl ?_); refine goesL_ (some 42) rfl rfl Tryd.func14 (by kernel_rfl) rfl #[.int .u64 t199, .int .i64 (wrap64 (-a1))] rfl (by (try simp only [List.map_toArray, List.map_cons, List.map_nil]); first | done | rfl | (simp only [List.length_drop, List.length_take]; rfl)) ?_; (with_reducible refine (num_Sum.calls t199 (wrap64 (-a1)) t205 t206 _ A14.out).mono ?_); rintro e w' ⟨rfl, ⟨nd, rfl⟩⟩; refine ⟨_, rfl, ?_⟩) | ((with_reducible refine gate_callee (f := 16) rfl ?_); refine goesL_ (some 52) rfl rfl Tryd.func16 (by kernel_rfl) rfl #[] rfl (by (try simp only [List.map_toArray, List.map_cons, List.map_nil]); first | done | rfl | (simp only [List.length_drop, List.length_take]; rfl)) ?_; (with_reducible refine (cleatlaw10_counted.calls k  true _ A17.out).mono ?_); rintro e w22 ⟨rfl, hb⟩; refine ⟨_, rfl, ?_⟩; have n0_ := Aside0.mk (below_step (by repeat (first | (with_reducible first | exact HB.out | apply below_alloc | apply pw_below_drewN | apply below_drew1) | exact HB.out)) hb); clear HB; have HB := n0_; clear n0_; (try clear hb); (try clear hb2); (try clear hk); (try clear hi)))
                go_ret
                exact ⟨by first | rfl | (simp [errW_none, errW_some] <;> rfl) | (simp [*, errW_none, errW_some] <;> rfl), by repeat (first | (with_reducible first | exact HB.out | apply below_alloc | apply pw_below_drewN | apply below_drew1) | exact HB.out)⟩
            · rw [if_neg c19] at H
              exact absurd H (by simp)
          · replace c18 := Bool.eq_false_iff.mpr c18
            subst c18
            have H1 : (none) = some r := by rw [if_neg (show ¬ (false = true) by decide)] at H; exact H
            clear H
            have H := H1
            clear H1
            exact absurd H (by simp)
        · rw [if_neg c16] at H
          exact absurd H (by simp)
      · rw [if_neg c15] at H
        exact absurd H (by simp)
  · rw [if_neg c6] at H
    have c6b0 : (t200 == 0) = false := beq_eq_false_iff_ne.mpr c6
    have c6b1 : (t200 != 0) = true := bne_iff_ne.mpr c6
    replace H := Option.bind_eq_some_iff.mp H
    obtain ⟨t203, A230, H⟩ := H
    replace H : (if t203 = true then (if t199 = 0 then (some (a1 != 0)) else (none)) else (none)) = some r := H
    have A23 := Aside0.mk A230
    clear A230
    by_cases c24 : t203 = true
    · subst c24
      have H1 : (if t199 = 0 then (some (a1 != 0)) else (none)) = some r := by rw [if_pos rfl] at H; exact H
      clear H
      have H := H1
      clear H1
      by_cases c25 : t199 = 0
      · rw [if_pos c25] at H
        have c25b0 : (t199 == 0) = true := beq_iff_eq.mpr c25
        have c25b1 : (t199 != 0) = false := bne_eq_false_iff_eq.mpr c25
        clear c25
        obtain rfl := Option.some.inj H
        go_enter Tryd.func7, Tryd.ntmps7
        go_wp2_with (first | ((with_reducible refine gate_callee (f := 14) rfl ?_); refine goesL_ (some 16) rfl rfl Tryd.func14 (by kernel_rfl) rfl #[.int .u64 a0, .int .i64 a1] rfl (by (try simp only [List.map_toArray, List.map_cons, List.map_nil]); first | done | rfl | (simp only [List.length_drop, List.length_take]; rfl)) ?_; (with_reducible refine (num_Sum.calls a0 a1 t199 t200 _ A4.out).mono ?_); rintro e w' ⟨rfl, ⟨nd, rfl⟩⟩; refine ⟨_, rfl, ?_⟩) | ((with_reducible refine gate_callee (f := 14) rfl ?_); refine goesL_ (some 22) rfl rfl Tryd.func14 (by kernel_rfl) rfl #[.int .u64 a0, .int .i64 a2] rfl (by (try simp only [List.map_toArray, List.map_cons, List.map_nil]); first | done | rfl | (simp only [List.length_drop, List.length_take]; rfl)) ?_; (with_reducible refine (num_Sum.calls a0 a2 t201 t202 _ A5.out).mono ?_); rintro e w' ⟨rfl, ⟨nd, rfl⟩⟩; refine ⟨_, rfl, ?_⟩) | ((with_reducible refine gate_callee (f := 16) rfl ?_); refine goesL_ (some 27) rfl rfl Tryd.func16 (by kernel_rfl) rfl #[] rfl (by (try simp only [List.map_toArray, List.map_cons, List.map_nil]); first | done | rfl | (simp only [List.length_drop, List.length_take]; rfl)) ?_; (with_reducible refine (cleatlaw10_counted.calls k  true _ A23.out).mono ?_); rintro e w26 ⟨rfl, hb⟩; refine ⟨_, rfl, ?_⟩; have n0_ := Aside0.mk (below_step (by repeat (first | (with_reducible first | exact HB.out | apply below_alloc | apply pw_below_drewN | apply below_drew1) | exact HB.out)) hb); clear HB; have HB := n0_; clear n0_; (try clear hb); (try clear hb2); (try clear hk); (try clear hi)))
        go_ret
        exact ⟨by first | rfl | (simp [errW_none, errW_some] <;> rfl) | (simp [*, errW_none, errW_some] <;> rfl), by repeat (first | (with_reducible first | exact HB.out | apply below_alloc | apply pw_below_drewN | apply below_drew1) | exact HB.out)⟩
      · rw [if_neg c25] at H
        exact absurd H (by simp)
    · replace c24 := Bool.eq_false_iff.mpr c24
      subst c24
      have H1 : (none) = some r := by rw [if_neg (show ¬ (false = true) by decide)] at H; exact H
      clear H
      have H := H1
      clear H1
      exact absurd H (by simp)

/-- THE ONE PURE STATEMENT of cleatlaw10_NumSums: yours. -/
def cleatlaw10_NumSums.Pure : Prop := ∀ (a0 : Int) (a1 : Int) (a2 : Int), (Lit.int .u64 a0).wf = true → (Lit.int .i64 a1).wf = true → (Lit.int .i64 a2).wf = true → ∃ k, cleatlaw10_NumSums.f k a0 a1 a2 = some true
theorem cleatlaw10_NumSums.walk (P : cleatlaw10_NumSums.Pure) (a0 : Int) (a1 : Int) (a2 : Int) (w : World) (w0 : (Lit.int .u64 a0).wf = true) (w1 : (Lit.int .i64 a1).wf = true) (w2 : (Lit.int .i64 a2).wf = true) (hTab : TabW w) :
    Calls Tryd.prog 7 #[.int .u64 a0, .int .i64 a1, .int .i64 a2] w fun e w' => e = .returned (.bool true) ∧ Below w.heap.size w w' := by
  obtain ⟨k, h⟩ := P a0 a1 a2 w0 w1 w2
  refine (cleatlaw10_NumSums.calls k a0 a1 a2 true w h).mono ?_
  rintro e w' ⟨rfl, hd⟩
  exact ⟨rfl, hd⟩

end Go.Proofs.YtfajpcinmpbhgaaDoor.P
