/- Written for this claim by a program of this session (drive.py, over the print of the kit): Lean functions with the answers of Go functions, and the proofs that the Go code comes to these answers, under no condition but the readings of the arguments that each theorem names. -/
import Derived.Test.YtfajpcinmpbhgaaDoorPx0
import Derived.Test.YtfajpcinmpbhgaaDoorPx1
import Derived.Test.YtfajpcinmpbhgaaDoorPx2
import Derived.Test.YtfajpcinmpbhgaaDoorPx3
namespace Go.Proofs.YtfajpcinmpbhgaaDoor.P
open Go.RowKit Go.Proofs.YtfajpcinmpbhgaaDoorW.PrintWords Go.Proofs.YtfajpcinmpbhgaaDoorW.PrintLast Go.Proofs.YtfajpcinmpbhgaaDoorW.PrintMore
attribute [local go_sem] max2_int min2_int max_two min_two max_three min_three max_four min_four   -- for this text's walks alone
set_option linter.unusedVariables false
set_option linter.unusedSimpArgs false

/-! ### cleatlaw10_counted: function 16 -/
def cleatlaw10_counted.f (k : Nat)  : Option (Bool) := (num_Value.f (⟨#[48, 120, 70, 102]⟩ : ByteArray)).bind fun bt129 => ((num_Value.f (⟨#[48, 49, 56]⟩ : ByteArray)).bind fun bt131 => ((num_Value.f (⟨#[49, 56, 52, 52, 54, 55, 52, 52, 48, 55, 51, 55, 48, 57, 53, 53, 49, 54, 49, 54]⟩ : ByteArray)).bind fun bt133 => ((num_Value.f (⟨#[48, 120]⟩ : ByteArray)).bind fun bt135 => ((num_Signed.f k true 9223372036854775808).bind fun bt137 => ((num_Of.f (-5)).bind fun bt139 => ((num_Sum.f 7 (-7)).bind fun bt141 => ((num_Sum.f 7 (-8)).bind fun bt143 => (if bt129.2 = 0 then (if bt129.1 = 255 then (if bt131.2 = bt129.2 then (if bt131.1 = 18 then (if bt133.2 = 4 then (if bt135.2 = 3 then (if bt137.2 = bt129.2 then (if bt137.1 = (-9223372036854775808) then (if bt139.1 = true then (if bt139.2 = 5 then (if bt141.2 = bt129.2 then (if bt141.1 = 0 then (if bt143.2 = bt133.2 then ((num_Hex.f 255).bind fun t145 => (if t145.toList = ([48, 120, 102, 102] : List UInt8) then ((num_Text.f 0).bind fun t146 => (some (t146.toList == ([48] : List UInt8)))) else (none))) else (none)) else (none)) else (none)) else (none)) else (none)) else (none)) else (none)) else (none)) else (none)) else (none)) else (none)) else (none)) else (none)))))))))
theorem cleatlaw10_counted.mono : ∀ k, LeO (cleatlaw10_counted.f k ) (cleatlaw10_counted.f (k + 1) ) := by
  intro  k
  unfold cleatlaw10_counted.f
  repeat' first
      | (with_reducible exact num_Signed.mono _ _ _)
      | (with_reducible exact LeO.refl _)
      | (with_reducible exact LeO.none _)
      | (with_reducible refine LeO.ite ?_ ?_)
      | (with_reducible refine LeO.bind ?_ (fun _ => ?_))
      | exact num_Signed.mono _ _ _
      | exact LeO.none _
      | refine LeO.ite ?_ ?_
      | refine LeO.bind ?_ (fun _ => ?_)
set_option maxHeartbeats 8000000 in
set_option maxRecDepth 100000 in
theorem cleatlaw10_counted.calls (k : Nat)  (r : Bool) (w : World) (h : cleatlaw10_counted.f k  = some r) (hTab : TabW w := by first | exact hTab | exact TabW.drew hTab | exact TabW.drewN hTab _ | exact TabW.below hTab (by repeat (first | (with_reducible first | exact HB.out | apply below_alloc | apply pw_below_drewN | apply below_drew1) | exact HB.out | exact Below.refl _ _))) :
    Calls Tryd.prog 16 #[] w fun e w' => e = .returned (.bool r) ∧ Below w.heap.size w w' := by
  have HB := Aside0.mk (Below.refl w.heap.size w)
  have H : ((num_Value.f (⟨#[48, 120, 70, 102]⟩ : ByteArray)).bind fun bt129 => ((num_Value.f (⟨#[48, 49, 56]⟩ : ByteArray)).bind fun bt131 => ((num_Value.f (⟨#[49, 56, 52, 52, 54, 55, 52, 52, 48, 55, 51, 55, 48, 57, 53, 53, 49, 54, 49, 54]⟩ : ByteArray)).bind fun bt133 => ((num_Value.f (⟨#[48, 120]⟩ : ByteArray)).bind fun bt135 => ((num_Signed.f k true 9223372036854775808).bind fun bt137 => ((num_Of.f (-5)).bind fun bt139 => ((num_Sum.f 7 (-7)).bind fun bt141 => ((num_Sum.f 7 (-8)).bind fun bt143 => (if bt129.2 = 0 then (if bt129.1 = 255 then (if bt131.2 = bt129.2 then (if bt131.1 = 18 then (if bt133.2 = 4 then (if bt135.2 = 3 then (if bt137.2 = bt129.2 then (if bt137.1 = (-9223372036854775808) then (if bt139.1 = true then (if bt139.2 = 5 then (if bt141.2 = bt129.2 then (if bt141.1 = 0 then (if bt143.2 = bt133.2 then ((num_Hex.f 255).bind fun t145 => (if t145.toList = ([48, 120, 102, 102] : List UInt8) then ((num_Text.f 0).bind fun t146 => (some (t146.toList == ([48] : List UInt8)))) else (none))) else (none)) else (none)) else (none)) else (none)) else (none)) else (none)) else (none)) else (none)) else (none)) else (none)) else (none)) else (none)) else (none)))))))))) = some r := h
  clear h
  replace H := Option.bind_eq_some_iff.mp H
  obtain ⟨⟨t129, t130⟩, A10, H⟩ := H
  replace H : ((num_Value.f (⟨#[48, 49, 56]⟩ : ByteArray)).bind fun bt131 => ((num_Value.f (⟨#[49, 56, 52, 52, 54, 55, 52, 52, 48, 55, 51, 55, 48, 57, 53, 53, 49, 54, 49, 54]⟩ : ByteArray)).bind fun bt133 => ((num_Value.f (⟨#[48, 120]⟩ : ByteArray)).bind fun bt135 => ((num_Signed.f k true 9223372036854775808).bind fun bt137 => ((num_Of.f (-5)).bind fun bt139 => ((num_Sum.f 7 (-7)).bind fun bt141 => ((num_Sum.f 7 (-8)).bind fun bt143 => (if t130 = 0 then (if t129 = 255 then (if bt131.2 = t130 then (if bt131.1 = 18 then (if bt133.2 = 4 then (if bt135.2 = 3 then (if bt137.2 = t130 then (if bt137.1 = (-9223372036854775808) then (if bt139.1 = true then (if bt139.2 = 5 then (if bt141.2 = t130 then (if bt141.1 = 0 then (if bt143.2 = bt133.2 then ((num_Hex.f 255).bind fun t145 => (if t145.toList = ([48, 120, 102, 102] : List UInt8) then ((num_Text.f 0).bind fun t146 => (some (t146.toList == ([48] : List UInt8)))) else (none))) else (none)) else (none)) else (none)) else (none)) else (none)) else (none)) else (none)) else (none)) else (none)) else (none)) else (none)) else (none)) else (none))))))))) = some r := H
  have A1 := Aside0.mk A10
  clear A10
  replace H := Option.bind_eq_some_iff.mp H
  obtain ⟨⟨t131, t132⟩, A20, H⟩ := H
  replace H : ((num_Value.f (⟨#[49, 56, 52, 52, 54, 55, 52, 52, 48, 55, 51, 55, 48, 57, 53, 53, 49, 54, 49, 54]⟩ : ByteArray)).bind fun bt133 => ((num_Value.f (⟨#[48, 120]⟩ : ByteArray)).bind fun bt135 => ((num_Signed.f k true 9223372036854775808).bind fun bt137 => ((num_Of.f (-5)).bind fun bt139 => ((num_Sum.f 7 (-7)).bind fun bt141 => ((num_Sum.f 7 (-8)).bind fun bt143 => (if t130 = 0 then (if t129 = 255 then (if t132 = t130 then (if t131 = 18 then (if bt133.2 = 4 then (if bt135.2 = 3 then (if bt137.2 = t130 then (if bt137.1 = (-9223372036854775808) then (if bt139.1 = true then (if bt139.2 = 5 then (if bt141.2 = t130 then (if bt141.1 = 0 then (if bt143.2 = bt133.2 then ((num_Hex.f 255).bind fun t145 => (if t145.toList = ([48, 120, 102, 102] : List UInt8) then ((num_Text.f 0).bind fun t146 => (some (t146.toList == ([48] : List UInt8)))) else (none))) else (none)) else (none)) else (none)) else (none)) else (none)) else (none)) else (none)) else (none)) else (none)) else (none)) else (none)) else (none)) else (none)))))))) = some r := H
  have A2 := Aside0.mk A20
  clear A20
  replace H := Option.bind_eq_some_iff.mp H
  obtain ⟨⟨t133, t134⟩, A30, H⟩ := H
  replace H : ((num_Value.f (⟨#[48, 120]⟩ : ByteArray)).bind fun bt135 => ((num_Signed.f k true 9223372036854775808).bind fun bt137 => ((num_Of.f (-5)).bind fun bt139 => ((num_Sum.f 7 (-7)).bind fun bt141 => ((num_Sum.f 7 (-8)).bind fun bt143 => (if t130 = 0 then (if t129 = 255 then (if t132 = t130 then (if t131 = 18 then (if t134 = 4 then (if bt135.2 = 3 then (if bt137.2 = t130 then (if bt137.1 = (-9223372036854775808) then (if bt139.1 = true then (if bt139.2 = 5 then (if bt141.2 = t130 then (if bt141.1 = 0 then (if bt143.2 = t134 then ((num_Hex.f 255).bind fun t145 => (if t145.toList = ([48, 120, 102, 102] : List UInt8) then ((num_Text.f 0).bind fun t146 => (some (t146.toList == ([48] : List UInt8)))) else (none))) else (none)) else (none)) else (none)) else (none)) else (none)) else (none)) else (none)) else (none)) else (none)) else (none)) else (none)) else (none)) else (none))))))) = some r := H
  have A3 := Aside0.mk A30
  clear A30
  replace H := Option.bind_eq_some_iff.mp H
  obtain ⟨⟨t135, t136⟩, A40, H⟩ := H
  replace H : ((num_Signed.f k true 9223372036854775808).bind fun bt137 => ((num_Of.f (-5)).bind fun bt139 => ((num_Sum.f 7 (-7)).bind fun bt141 => ((num_Sum.f 7 (-8)).bind fun bt143 => (if t130 = 0 then (if t129 = 255 then (if t132 = t130 then (if t131 = 18 then (if t134 = 4 then (if t136 = 3 then (if bt137.2 = t130 then (if bt137.1 = (-9223372036854775808) then (if bt139.1 = true then (if bt139.2 = 5 then (if bt141.2 = t130 then (if bt141.1 = 0 then (if bt143.2 = t134 then ((num_Hex.f 255).bind fun t145 => (if t145.toList = ([48, 120, 102, 102] : List UInt8) then ((num_Text.f 0).bind fun t146 => (some (t146.toList == ([48] : List UInt8)))) else (none))) else (none)) else (none)) else (none)) else (none)) else (none)) else (none)) else (none)) else (none)) else (none)) else (none)) else (none)) else (none)) else (none)))))) = some r := H
  have A4 := Aside0.mk A40
  clear A40
  replace H := Option.bind_eq_some_iff.mp H
  obtain ⟨⟨t137, t138⟩, A50, H⟩ := H
  replace H : ((num_Of.f (-5)).bind fun bt139 => ((num_Sum.f 7 (-7)).bind fun bt141 => ((num_Sum.f 7 (-8)).bind fun bt143 => (if t130 = 0 then (if t129 = 255 then (if t132 = t130 then (if t131 = 18 then (if t134 = 4 then (if t136 = 3 then (if t138 = t130 then (if t137 = (-9223372036854775808) then (if bt139.1 = true then (if bt139.2 = 5 then (if bt141.2 = t130 then (if bt141.1 = 0 then (if bt143.2 = t134 then ((num_Hex.f 255).bind fun t145 => (if t145.toList = ([48, 120, 102, 102] : List UInt8) then ((num_Text.f 0).bind fun t146 => (some (t146.toList == ([48] : List UInt8)))) else (none))) else (none)) else (none)) else (none)) else (none)) else (none)) else (none)) else (none)) else (none)) else (none)) else (none)) else (none)) else (none)) else (none))))) = some r := H
  have A5 := Aside0.mk A50
  clear A50
  replace H := Option.bind_eq_some_iff.mp H
  obtain ⟨⟨t139, t140⟩, A60, H⟩ := H
  replace H : ((num_Sum.f 7 (-7)).bind fun bt141 => ((num_Sum.f 7 (-8)).bind fun bt143 => (if t130 = 0 then (if t129 = 255 then (if t132 = t130 then (if t131 = 18 then (if t134 = 4 then (if t136 = 3 then (if t138 = t130 then (if t137 = (-9223372036854775808) then (if t139 = true then (if t140 = 5 then (if bt141.2 = t130 then (if bt141.1 = 0 then (if bt143.2 = t134 then ((num_Hex.f 255).bind fun t145 => (if t145.toList = ([48, 120, 102, 102] : List UInt8) then ((num_Text.f 0).bind fun t146 => (some (t146.toList == ([48] : List UInt8)))) else (none))) else (none)) else (none)) else (none)) else (none)) else (none)) else (none)) else (none)) else (none)) else (none)) else (none)) else (none)) else (none)) else (none)))) = some r := H
  have A6 := Aside0.mk A60
  clear A60
  replace H := Option.bind_eq_some_iff.mp H
  obtain ⟨⟨t141, t142⟩, A70, H⟩ := H
  replace H : ((num_Sum.f 7 (-8)).bind fun bt143 => (if t130 = 0 then (if t129 = 255 then (if t132 = t130 then (if t131 = 18 then (if t134 = 4 then (if t136 = 3 then (if t138 = t130 then (if t137 = (-9223372036854775808) then (if t139 = true then (if t140 = 5 then (if t142 = t130 then (if t141 = 0 then (if bt143.2 = t134 then ((num_Hex.f 255).bind fun t145 => (if t145.toList = ([48, 120, 102, 102] : List UInt8) then ((num_Text.f 0).bind fun t146 => (some (t146.toList == ([48] : List UInt8)))) else (none))) else (none)) else (none)) else (none)) else (none)) else (none)) else (none)) else (none)) else (none)) else (none)) else (none)) else (none)) else (none)) else (none))) = some r := H
  have A7 := Aside0.mk A70
  clear A70
  replace H := Option.bind_eq_some_iff.mp H
  obtain ⟨⟨t143, t144⟩, A80, H⟩ := H
  replace H : (if t130 = 0 then (if t129 = 255 then (if t132 = t130 then (if t131 = 18 then (if t134 = 4 then (if t136 = 3 then (if t138 = t130 then (if t137 = (-9223372036854775808) then (if t139 = true then (if t140 = 5 then (if t142 = t130 then (if t141 = 0 then (if t144 = t134 then ((num_Hex.f 255).bind fun t145 => (if t145.toList = ([48, 120, 102, 102] : List UInt8) then ((num_Text.f 0).bind fun t146 => (some (t146.toList == ([48] : List UInt8)))) else (none))) else (none)) else (none)) else (none)) else (none)) else (none)) else (none)) else (none)) else (none)) else (none)) else (none)) else (none)) else (none)) else (none)) = some r := H
  have A8 := Aside0.mk A80
  clear A80
  by_cases c9 : t130 = 0
  · rw [if_pos c9] at H
    have c9b0 : (t130 == 0) = true := beq_iff_eq.mpr c9
    have c9b1 : (t130 != 0) = false := bne_eq_false_iff_eq.mpr c9
    clear c9
    by_cases c10 : t129 = 255
    · rw [if_pos c10] at H
      have c10b0 : (t129 == 255) = true := beq_iff_eq.mpr c10
      have c10b1 : (t129 != 255) = false := bne_eq_false_iff_eq.mpr c10
      clear c10
      by_cases c11 : t132 = t130
      · rw [if_pos c11] at H
        have c11b0 : (t132 == t130) = true := beq_iff_eq.mpr c11
        have c11b1 : (t132 != t130) = false := bne_eq_false_iff_eq.mpr c11
        clear c11
        by_cases c12 : t131 = 18
        · rw [if_pos c12] at H
          have c12b0 : (t131 == 18) = true := beq_iff_eq.mpr c12
          have c12b1 : (t131 != 18) = false := bne_eq_false_iff_eq.mpr c12
          clear c12
          by_cases c13 : t134 = 4
          · rw [if_pos c13] at H
            have c13b0 : (t134 == 4) = true := beq_iff_eq.mpr c13
            have c13b1 : (t134 != 4) = false := bne_eq_false_iff_eq.mpr c13
            clear c13
            by_cases c14 : t136 = 3
            · rw [if_pos c14] at H
              have c14b0 : (t136 == 3) = true := beq_iff_eq.mpr c14
              have c14b1 : (t136 != 3) = false := bne_eq_false_iff_eq.mpr c14
              clear c14
              by_cases c15 : t138 = t130
              · rw [if_pos c15] at H
                have c15b0 : (t138 == t130) = true := beq_iff_eq.mpr c15
                have c15b1 : (t138 != t130) = false := bne_eq_false_iff_eq.mpr c15
                clear c15
                by_cases c16 : t137 = (-9223372036854775808)
                · rw [if_pos c16] at H
                  have c16b0 : (t137 == (-9223372036854775808)) = true := beq_iff_eq.mpr c16
                  have c16b1 : (t137 != (-9223372036854775808)) = false := bne_eq_false_iff_eq.mpr c16
                  clear c16
                  by_cases c17 : t139 = true
                  · subst c17
                    have H1 : (if t140 = 5 then (if t142 = t130 then (if t141 = 0 then (if t144 = t134 then ((num_Hex.f 255).bind fun t145 => (if t145.toList = ([48, 120, 102, 102] : List UInt8) then ((num_Text.f 0).bind fun t146 => (some (t146.toList == ([48] : List UInt8)))) else (none))) else (none)) else (none)) else (none)) else (none)) = some r := by rw [if_pos rfl] at H; exact H
                    clear H
                    have H := H1
                    clear H1
                    by_cases c18 : t140 = 5
                    · rw [if_pos c18] at H
                      have c18b0 : (t140 == 5) = true := beq_iff_eq.mpr c18
                      have c18b1 : (t140 != 5) = false := bne_eq_false_iff_eq.mpr c18
                      clear c18
                      by_cases c19 : t142 = t130
                      · rw [if_pos c19] at H
                        have c19b0 : (t142 == t130) = true := beq_iff_eq.mpr c19
                        have c19b1 : (t142 != t130) = false := bne_eq_false_iff_eq.mpr c19
                        clear c19
                        by_cases c20 : t141 = 0
                        · rw [if_pos c20] at H
                          have c20b0 : (t141 == 0) = true := beq_iff_eq.mpr c20
                          have c20b1 : (t141 != 0) = false := bne_eq_false_iff_eq.mpr c20
                          clear c20
                          by_cases c21 : t144 = t134
                          · rw [if_pos c21] at H
                            have c21b0 : (t144 == t134) = true := beq_iff_eq.mpr c21
                            have c21b1 : (t144 != t134) = false := bne_eq_false_iff_eq.mpr c21
                            clear c21
                            replace H := Option.bind_eq_some_iff.mp H
                            obtain ⟨t145, A220, H⟩ := H
                            replace H : (if t145.toList = ([48, 120, 102, 102] : List UInt8) then ((num_Text.f 0).bind fun t146 => (some (t146.toList == ([48] : List UInt8)))) else (none)) = some r := H
                            have A22 := Aside0.mk A220
                            clear A220
                            by_cases c23 : t145.toList = ([48, 120, 102, 102] : List UInt8)
                            · rw [if_pos c23] at H
                              have c23b0 : (t145.toList == ([48, 120, 102, 102] : List UInt8)) = true := beq_iff_eq.mpr c23
                              have c23b1 : (t145.toList != ([48, 120, 102, 102] : List UInt8)) = false := bne_eq_false_iff_eq.mpr c23
                              clear c23
                              replace H := Option.bind_eq_some_iff.mp H
                              obtain ⟨t146, A240, H⟩ := H
                              replace H : (some (t146.toList == ([48] : List UInt8))) = some r := H
                              have A24 := Aside0.mk A240
                              clear A240
                              obtain rfl := Option.some.inj H
                              go_enter Tryd.func16, Tryd.ntmps16
                              go_wp2_with (first | ((with_reducible refine gate_callee (f := 8) rfl ?_); refine goesL_ (some 18) rfl rfl Tryd.func8 (by kernel_rfl) rfl #[.string (⟨#[48, 120, 70, 102]⟩ : ByteArray)] rfl (by (try simp only [List.map_toArray, List.map_cons, List.map_nil]); first | done | rfl | (simp only [List.length_drop, List.length_take]; rfl)) ?_; (with_reducible refine (num_Value.calls (⟨#[48, 120, 70, 102]⟩ : ByteArray) t129 t130 _ A1.out).mono ?_); rintro e w25 ⟨rfl, hb⟩; refine ⟨_, rfl, ?_⟩; have n0_ := Aside0.mk (below_step (by repeat (first | (with_reducible first | exact HB.out | apply below_alloc | apply pw_below_drewN | apply below_drew1) | exact HB.out)) hb); clear HB; have HB := n0_; clear n0_; (try clear hb); (try clear hb2); (try clear hk); (try clear hi)) | ((with_reducible refine gate_callee (f := 8) rfl ?_); refine goesL_ (some 22) rfl rfl Tryd.func8 (by kernel_rfl) rfl #[.string (⟨#[48, 49, 56]⟩ : ByteArray)] rfl (by (try simp only [List.map_toArray, List.map_cons, List.map_nil]); first | done | rfl | (simp only [List.length_drop, List.length_take]; rfl)) ?_; (with_reducible refine (num_Value.calls (⟨#[48, 49, 56]⟩ : ByteArray) t131 t132 _ A2.out).mono ?_); rintro e w26 ⟨rfl, hb⟩; refine ⟨_, rfl, ?_⟩; have n0_ := Aside0.mk (below_step (by repeat (first | (with_reducible first | exact HB.out | apply below_alloc | apply pw_below_drewN | apply below_drew1) | exact HB.out)) hb); clear HB; have HB := n0_; clear n0_; (try clear hb); (try clear hb2); (try clear hk); (try clear hi)) | ((with_reducible refine gate_callee (f := 8) rfl ?_); refine goesL_ (some 26) rfl rfl Tryd.func8 (by kernel_rfl) rfl #[.string (⟨#[49, 56, 52, 52, 54, 55, 52, 52, 48, 55, 51, 55, 48, 57, 53, 53, 49, 54, 49, 54]⟩ : ByteArray)] rfl (by (try simp only [List.map_toArray, List.map_cons, List.map_nil]); first | done | rfl | (simp only [List.length_drop, List.length_take]; rfl)) ?_; (with_reducible refine (num_Value.calls (⟨#[49, 56, 52, 52, 54, 55, 52, 52, 48, 55, 51, 55, 48, 57, 53, 53, 49, 54, 49, 54]⟩ : ByteArray) t133 t134 _ A3.out).mono ?_); rintro e w27 ⟨rfl, hb⟩; refine ⟨_, rfl, ?_⟩; have n0_ := Aside0.mk (below_step (by repeat (first | (with_reducible first | exact HB.out | apply below_alloc | apply pw_below_drewN | apply below_drew1) | exact HB.out)) hb); clear HB; have HB := n0_; clear n0_; (try clear hb); (try clear hb2); (try clear hk); (try clear hi)) | ((with_reducible refine gate_callee (f := 8) rfl ?_); refine goesL_ (some 30) rfl rfl Tryd.func8 (by kernel_rfl) rfl #[.string (⟨#[48, 120]⟩ : ByteArray)] rfl (by (try simp only [List.map_toArray, List.map_cons, List.map_nil]); first | done | rfl | (simp only [List.length_drop, List.length_take]; rfl)) ?_; (with_reducible refine (num_Value.calls (⟨#[48, 120]⟩ : ByteArray) t135 t136 _ A4.out).mono ?_); rintro e w28 ⟨rfl, hb⟩; refine ⟨_, rfl, ?_⟩; have n0_ := Aside0.mk (below_step (by repeat (first | (with_reducible first | exact HB.out | apply below_alloc | apply pw_below_drewN | apply below_drew1) | exact HB.out)) hb); clear HB; have HB := n0_; clear n0_; (try clear hb); (try clear hb2); (try clear hk); (try clear hi)) | ((with_reducible refine gate_callee (f := 10) rfl ?_); refine goesL_ (some 34) rfl rfl Tryd.func10 (by kernel_rfl) rfl #[.bool true, .int .u64 9223372036854775808] rfl (by (try simp only [List.map_toArray, List.map_cons, List.map_nil]); first | done | rfl | (simp only [List.length_drop, List.length_take]; rfl)) ?_; (with_reducible refine (num_Signed.calls k true 9223372036854775808 t137 t138 _ A5.out).mono ?_); rintro e w' ⟨rfl, ⟨nd, rfl⟩⟩; refine ⟨_, rfl, ?_⟩) | ((with_reducible refine gate_callee (f := 12) rfl ?_); refine goesL_ (some 38) rfl rfl Tryd.func12 (by kernel_rfl) rfl #[.int .i64 (-5)] rfl (by (try simp only [List.map_toArray, List.map_cons, List.map_nil]); first | done | rfl | (simp only [List.length_drop, List.length_take]; rfl)) ?_; (with_reducible refine (num_Of.calls (-5) true t140 _ A6.out).mono ?_); rintro e w' ⟨rfl, ⟨nd, rfl⟩⟩; refine ⟨_, rfl, ?_⟩) | ((with_reducible refine gate_callee (f := 14) rfl ?_); refine goesL_ (some 42) rfl rfl Tryd.func14 (by kernel_rfl) rfl #[.int .u64 7, .int .i64 (-7)] rfl (by (try simp only [List.map_toArray, List.map_cons, List.map_nil]); first | done | rfl | (simp only [List.length_drop, List.length_take]; rfl)) ?_; (with_reducible refine (num_Sum.calls 7 (-7) t141 t142 _ A7.out).mono ?_); rintro e w' ⟨rfl, ⟨nd, rfl⟩⟩; refine ⟨_, rfl, ?_⟩) | ((with_reducible refine gate_callee (f := 14) rfl ?_); refine goesL_ (some 46) rfl rfl Tryd.func14 (by kernel_rfl) rfl #[.int .u64 7, .int .i64 (-8)] rfl (by (try simp only [List.map_toArray, List.map_cons, List.map_nil]); first | done | rfl | (simp only [List.length_drop, List.length_take]; rfl)) ?_; (with_reducible refine (num_Sum.calls 7 (-8) t143 t144 _ A8.out).mono ?_); rintro e w' ⟨rfl, ⟨nd, rfl⟩⟩; refine ⟨_, rfl, ?_⟩) | (go_at_call 19; (with_reducible refine (num_Hex.calls 255 t145 _ A22.out).mono ?_); rintro e w29 ⟨rfl, hb⟩; have n0_ := Aside0.mk (below_step (by repeat (first | (with_reducible first | exact HB.out | apply below_alloc | apply pw_below_drewN | apply below_drew1) | exact HB.out)) hb); clear HB; have HB := n0_; clear n0_; (try clear hb); (try clear hb2); (try clear hk); (try clear hi)) | (go_at_call 17; (with_reducible refine (num_Text.calls 0 t146 _ A24.out).mono ?_); rintro e w30 ⟨rfl, hb⟩; have n0_ := Aside0.mk (below_step (by repeat (first | (with_reducible first | exact HB.out | apply below_alloc | apply pw_below_drewN | apply below_drew1) | exact HB.out)) hb); clear HB; have HB := n0_; clear n0_; (try clear hb); (try clear hb2); (try clear hk); (try clear hi)))
                              go_ret
                              exact ⟨by first | rfl | (simp [errW_none, errW_some] <;> rfl) | (simp [*, errW_none, errW_some] <;> rfl), by repeat (first | (with_reducible first | exact HB.out | apply below_alloc | apply pw_below_drewN | apply below_drew1) | exact HB.out)⟩
                            · rw [if_neg c23] at H
                              exact absurd H (by simp)
                          · rw [if_neg c21] at H
                            exact absurd H (by simp)
                        · rw [if_neg c20] at H
                          exact absurd H (by simp)
                      · rw [if_neg c19] at H
                        exact absurd H (by simp)
                    · rw [if_neg c18] at H
                      exact absurd H (by simp)
                  · replace c17 := Bool.eq_false_iff.mpr c17
                    subst c17
                    have H1 : (none) = some r := by rw [if_neg (show ¬ (false = true) by decide)] at H; exact H
                    clear H
                    have H := H1
                    clear H1
                    exact absurd H (by simp)
                · rw [if_neg c16] at H
                  exact absurd H (by simp)
              · rw [if_neg c15] at H
                exact absurd H (by simp)
            · rw [if_neg c14] at H
              exact absurd H (by simp)
          · rw [if_neg c13] at H
            exact absurd H (by simp)
        · rw [if_neg c12] at H
          exact absurd H (by simp)
      · rw [if_neg c11] at H
        exact absurd H (by simp)
    · rw [if_neg c10] at H
      exact absurd H (by simp)
  · rw [if_neg c9] at H
    exact absurd H (by simp)

/-! ### cleatref10_write: function 25 -/
/-- What is still to be written. -/
def num_pre (b v : Nat) : List UInt8 := if v = 0 then [] else num_digs b v
theorem num_pre_step {b v : Nat} (hb : 2 ≤ b) : num_pre b (v / b) ++ [num_dg (v % b)] = num_digs b v := by
  unfold num_pre
  by_cases h : v < b
  · rw [num_digs_less h, if_pos (Nat.div_eq_of_lt h), Nat.mod_eq_of_lt h]; rfl
  · have : v / b ≠ 0 := by
      have := Nat.div_pos (show b ≤ v by omega) (by omega)
      omega
    rw [if_neg this]
    exact (num_digs_step hb (by omega)).symm
def cleatref10_write.f (a0 a1 : Int) : Option ByteArray := if (a1 = 10 ∨ a1 = 16) ∧ 0 ≤ a0 ∧ a0 < 18446744073709551616 then some ⟨(num_digs a1.toNat a0.toNat).toArray⟩ else none
/-- Between two rounds. -/
def NumW (b v0 v : Nat) (out : ByteArray) : Prop := v < 18446744073709551616 ∧ out.data.toList.length ≤ 20 ∧ ((out.data.toList = [] ∧ v = v0) ∨ (out.data.toList ≠ [] ∧ num_pre b v ++ out.data.toList = num_digs b v0))
theorem NumW.step {b v0 v : Nat} {out d : ByteArray} (hb : b = 10 ∨ b = 16) (h0 : v0 < 18446744073709551616) (h : NumW b v0 v out) (hg : ¬ (v = 0 ∧ out.data.toList ≠ [])) (hd : d.data.toList = [num_dg (v % b)]) : NumW b v0 (v / b) (d ++ out) := by
  obtain ⟨h1, h2, h3⟩ := h
  have e : (d ++ out).data.toList = num_dg (v % b) :: out.data.toList := by rw [ByteArray.data_append, Array.toList_append, hd]; rfl
  have key : num_pre b (v / b) ++ (num_dg (v % b) :: out.data.toList) = num_digs b v0 := by
    rw [show num_dg (v % b) :: out.data.toList = [num_dg (v % b)] ++ out.data.toList from rfl, ← List.append_assoc, num_pre_step (by omega)]
    rcases h3 with ⟨h3, rfl⟩ | ⟨h3, h4⟩
    · rw [h3, List.append_nil]
    · have : v ≠ 0 := fun hv => hg ⟨hv, h3⟩
      unfold num_pre at h4
      rw [if_neg this] at h4
      exact h4
  refine ⟨Nat.lt_of_le_of_lt (Nat.div_le_self _ _) h1, ?_, .inr ⟨by rw [e]; simp, by rw [e]; exact key⟩⟩
  have := congrArg List.length key
  have h64 := num_digs_64 hb h0
  rw [List.length_append] at this
  rw [e]
  omega
def NumW_m (x0 x6 : Value) : Nat := 2 * (intOf x0).toNat + (match x6 with | .string o => if o.data.toList = [] then 1 else 0 | _ => 0)
set_option maxHeartbeats 8000000 in
theorem cleatref10_write.calls (a0 a1 : Int) (r : ByteArray) (w : World) (h : cleatref10_write.f a0 a1 = some r) :
    Calls Tryd.prog 25 #[.int .u64 a0, .int .u64 a1] w fun e w' => e = .returned (.string r) ∧ Below w.heap.size w w' := by
  unfold cleatref10_write.f at h
  split at h
  · rename_i hh
    obtain ⟨hb, h0, h1⟩ := hh
    obtain rfl := Option.some.inj h
    clear h
    obtain ⟨v0, rfl⟩ := Int.eq_ofNat_of_zero_le h0
    have hv0 : v0 < 18446744073709551616 := by omega
    clear h0 h1
    rcases hb with rfl | rfl
    · go_enter Tryd.func25, Tryd.ntmps25
      go_wp2
      go_loop [0, 6] (fun x0 x6 => ∃ (v : Nat) (out : ByteArray), x0 = .int .u64 v ∧ x6 = .string out ∧ NumW 10 v0 v out) (fun x0 x6 => NumW_m x0 x6)
      case atStart => exact ⟨v0, _, rfl, rfl, hv0, by simp, .inl ⟨rfl, rfl⟩⟩
      case round =>
        obtain ⟨v, out, rfl, rfl, hN⟩ := hrel
        have hv64 := hN.1
        have hol := hN.2.1
        by_cases hg : v = 0 ∧ out.data.toList ≠ []
        · obtain ⟨rfl, hne⟩ := hg
          have hoe : out.toList.isEmpty = false := by rw [ByteArray.toList_eq]; simpa using hne
          have hend : out = ⟨(num_digs 10 v0).toArray⟩ := by
            rcases hN.2.2 with ⟨h1, _⟩ | ⟨_, h2⟩
            · exact absurd h1 hne
            · rw [← h2]; rfl
          have HE := Aside0.mk hend
          clear hN hend hne hol
          go_wp2
          go_ret
          exact ⟨by rw [HE.out]; rfl, Below.refl _ _⟩
        · have hN2 := fun d hd => NumW.step (d := d) (.inl rfl) hv0 hN hg hd
          have hdc := num_dg_cut ⟨v % 10, by omega⟩
          have HN2 := Aside0.mk hN2
          have HDC := Aside0.mk hdc
          clear hN2 hdc hN
          by_cases hvp : 0 < v
          · have hm0 : 0 ≤ (v : Int) % 10 := by omega
            have hm1 : (v : Int) % 10 < 10 := by omega
            have hsl := fun W : World => run_slice_string (P := Tryd.prog) (w := W) 9 ⟨#[48, 49, 50, 51, 52, 53, 54, 55, 56, 57, 97, 98, 99, 100, 101, 102]⟩ .u64 .u64 ((v : Int) % 10) ((v : Int) % 10 + 1) Tryd.underlying9 hm0 (by omega) (by show (v : Int) % 10 + 1 ≤ 16; omega)
            obtain ⟨D, hD⟩ : ∃ D, (⟨#[48, 49, 50, 51, 52, 53, 54, 55, 56, 57, 97, 98, 99, 100, 101, 102]⟩ : ByteArray).extract ((v : Int) % 10).toNat ((v : Int) % 10 + 1).toNat = D := ⟨_, rfl⟩
            have hDl : D.data.toList = [num_dg (v % 10)] := by
              rw [← hD, show ((v : Int) % 10).toNat = v % 10 by omega, show ((v : Int) % 10 + 1).toNat = v % 10 + 1 by omega]
              exact HDC.out
            rw [hD] at hsl
            have hN3 := Aside0.mk (HN2.out D hDl)
            have hDs : D.size = 1 := by rw [Lib.size_eq, hDl]; rfl
            have hos : out.size ≤ 20 := by rw [Lib.size_eq]; exact hol
            have hsum : D.size + out.size ≤ 9223372036854775807 := by omega
            have hne : (D ++ out).data.toList ≠ [] := by rw [ByteArray.data_append, Array.toList_append, hDl]; simp
            have HNE := Aside0.mk hne
            have HG := Aside0.mk hg
            clear hD HDC HN2 hDl hne hDs hos hol hg
            have ev : ((v / 10 : Nat) : Int) = (v : Int) / 10 := by omega
            have EV := Aside0.mk ev
            clear ev
            go_wp2
            go_round
            case rel => exact ⟨v / 10, D ++ out, by rw [EV.out], rfl, hN3.out⟩
            case measure =>
              show NumW_m (.int .u64 ((v : Int) / 10)) (.string (D ++ out)) < NumW_m (.int .u64 (v : Int)) (.string out)
              unfold NumW_m
              simp only [intOf, if_neg HNE.out]
              omega
          · obtain rfl : v = 0 := by omega
            have ho2 : out.data.toList = [] := by
              rcases Classical.em (out.data.toList = []) with h | h
              · exact h
              · exact absurd ⟨rfl, h⟩ hg
            have hoe : out.toList.isEmpty = true := by rw [ByteArray.toList_eq, ho2]; rfl
            have hos : out.size = 0 := by rw [Lib.size_eq, ho2]; rfl
            have hsz : 1 + out.size ≤ 9223372036854775807 := by omega
            have hDl : (⟨#[48, 49, 50, 51, 52, 53, 54, 55, 56, 57, 97, 98, 99, 100, 101, 102]⟩ : ByteArray).extract 0 1 = ⟨#[48]⟩ := by decide +kernel
            have hN3 := Aside0.mk (HN2.out ((⟨#[48, 49, 50, 51, 52, 53, 54, 55, 56, 57, 97, 98, 99, 100, 101, 102]⟩ : ByteArray).extract 0 1) HDC.out)
            have HNE : ((⟨#[48, 49, 50, 51, 52, 53, 54, 55, 56, 57, 97, 98, 99, 100, 101, 102]⟩ : ByteArray).extract 0 1 ++ out).data.toList ≠ [] := by rw [hDl, ByteArray.data_append, Array.toList_append]; simp
            have HNE := Aside0.mk HNE
            have HO := Aside0.mk ho2
            clear hvp hg HN2 HDC ho2 hos hDl hol
            go_wp2
            refine ⟨⟨0, _, rfl, rfl, hN3.out⟩, ?_⟩
            unfold NumW_m
            simp only [intOf, if_neg HNE.out, if_pos HO.out]
            decide
    · go_enter Tryd.func25, Tryd.ntmps25
      go_wp2
      go_loop [0, 6] (fun x0 x6 => ∃ (v : Nat) (out : ByteArray), x0 = .int .u64 v ∧ x6 = .string out ∧ NumW 16 v0 v out) (fun x0 x6 => NumW_m x0 x6)
      case atStart => exact ⟨v0, _, rfl, rfl, hv0, by simp, .inl ⟨rfl, rfl⟩⟩
      case round =>
        obtain ⟨v, out, rfl, rfl, hN⟩ := hrel
        have hv64 := hN.1
        have hol := hN.2.1
        by_cases hg : v = 0 ∧ out.data.toList ≠ []
        · obtain ⟨rfl, hne⟩ := hg
          have hoe : out.toList.isEmpty = false := by rw [ByteArray.toList_eq]; simpa using hne
          have hend : out = ⟨(num_digs 16 v0).toArray⟩ := by
            rcases hN.2.2 with ⟨h1, _⟩ | ⟨_, h2⟩
            · exact absurd h1 hne
            · rw [← h2]; rfl
          have HE := Aside0.mk hend
          clear hN hend hne hol
          go_wp2
          go_ret
          exact ⟨by rw [HE.out]; rfl, Below.refl _ _⟩
        · have hN2 := fun d hd => NumW.step (d := d) (.inr rfl) hv0 hN hg hd
          have hdc := num_dg_cut ⟨v % 16, by omega⟩
          have HN2 := Aside0.mk hN2
          have HDC := Aside0.mk hdc
          clear hN2 hdc hN
          by_cases hvp : 0 < v
          · have hm0 : 0 ≤ (v : Int) % 16 := by omega
            have hm1 : (v : Int) % 16 < 16 := by omega
            have hsl := fun W : World => run_slice_string (P := Tryd.prog) (w := W) 9 ⟨#[48, 49, 50, 51, 52, 53, 54, 55, 56, 57, 97, 98, 99, 100, 101, 102]⟩ .u64 .u64 ((v : Int) % 16) ((v : Int) % 16 + 1) Tryd.underlying9 hm0 (by omega) (by show (v : Int) % 16 + 1 ≤ 16; omega)
            obtain ⟨D, hD⟩ : ∃ D, (⟨#[48, 49, 50, 51, 52, 53, 54, 55, 56, 57, 97, 98, 99, 100, 101, 102]⟩ : ByteArray).extract ((v : Int) % 16).toNat ((v : Int) % 16 + 1).toNat = D := ⟨_, rfl⟩
            have hDl : D.data.toList = [num_dg (v % 16)] := by
              rw [← hD, show ((v : Int) % 16).toNat = v % 16 by omega, show ((v : Int) % 16 + 1).toNat = v % 16 + 1 by omega]
              exact HDC.out
            rw [hD] at hsl
            have hN3 := Aside0.mk (HN2.out D hDl)
            have hDs : D.size = 1 := by rw [Lib.size_eq, hDl]; rfl
            have hos : out.size ≤ 20 := by rw [Lib.size_eq]; exact hol
            have hsum : D.size + out.size ≤ 9223372036854775807 := by omega
            have hne : (D ++ out).data.toList ≠ [] := by rw [ByteArray.data_append, Array.toList_append, hDl]; simp
            have HNE := Aside0.mk hne
            have HG := Aside0.mk hg
            clear hD HDC HN2 hDl hne hDs hos hol hg
            have ev : ((v / 16 : Nat) : Int) = (v : Int) / 16 := by omega
            have EV := Aside0.mk ev
            clear ev
            go_wp2
            go_round
            case rel => exact ⟨v / 16, D ++ out, by rw [EV.out], rfl, hN3.out⟩
            case measure =>
              show NumW_m (.int .u64 ((v : Int) / 16)) (.string (D ++ out)) < NumW_m (.int .u64 (v : Int)) (.string out)
              unfold NumW_m
              simp only [intOf, if_neg HNE.out]
              omega
          · obtain rfl : v = 0 := by omega
            have ho2 : out.data.toList = [] := by
              rcases Classical.em (out.data.toList = []) with h | h
              · exact h
              · exact absurd ⟨rfl, h⟩ hg
            have hoe : out.toList.isEmpty = true := by rw [ByteArray.toList_eq, ho2]; rfl
            have hos : out.size = 0 := by rw [Lib.size_eq, ho2]; rfl
            have hsz : 1 + out.size ≤ 9223372036854775807 := by omega
            have hDl : (⟨#[48, 49, 50, 51, 52, 53, 54, 55, 56, 57, 97, 98, 99, 100, 101, 102]⟩ : ByteArray).extract 0 1 = ⟨#[48]⟩ := by decide +kernel
            have hN3 := Aside0.mk (HN2.out ((⟨#[48, 49, 50, 51, 52, 53, 54, 55, 56, 57, 97, 98, 99, 100, 101, 102]⟩ : ByteArray).extract 0 1) HDC.out)
            have HNE : ((⟨#[48, 49, 50, 51, 52, 53, 54, 55, 56, 57, 97, 98, 99, 100, 101, 102]⟩ : ByteArray).extract 0 1 ++ out).data.toList ≠ [] := by rw [hDl, ByteArray.data_append, Array.toList_append]; simp
            have HNE := Aside0.mk HNE
            have HO := Aside0.mk ho2
            clear hvp hg HN2 HDC ho2 hos hDl hol
            go_wp2
            refine ⟨⟨0, _, rfl, rfl, hN3.out⟩, ?_⟩
            unfold NumW_m
            simp only [intOf, if_neg HNE.out, if_pos HO.out]
            decide
  · cases h

/-! ### cleatref10_Text: function 18 -/
def cleatref10_Text.f (a0 : Int) : Option (ByteArray) := (cleatref10_write.f a0 10).bind fun t147 => (some t147)
set_option maxHeartbeats 8000000 in
set_option maxRecDepth 100000 in
theorem cleatref10_Text.calls (a0 : Int) (r : ByteArray) (w : World) (h : cleatref10_Text.f a0 = some r) :
    Calls Tryd.prog 18 #[.int .u64 a0] w fun e w' => e = .returned (.string r) ∧ Below w.heap.size w w' := by
  have HB := Aside0.mk (Below.refl w.heap.size w)
  have H : ((cleatref10_write.f a0 10).bind fun t147 => (some t147)) = some r := h
  clear h
  replace H := Option.bind_eq_some_iff.mp H
  obtain ⟨t147, A20, H⟩ := H
  replace H : (some t147) = some r := H
  have A2 := Aside0.mk A20
  clear A20
  obtain rfl := Option.some.inj H
  go_enter Tryd.func18, Tryd.ntmps18
  go_wp2_with (first | ((with_reducible refine gate_callee (f := 25) rfl ?_); refine goesL_ (some 4) rfl rfl Tryd.func25 (by kernel_rfl) rfl #[.int .u64 a0, .int .u64 10] rfl (by (try simp only [List.map_toArray, List.map_cons, List.map_nil]); first | done | rfl | (simp only [List.length_drop, List.length_take]; rfl)) ?_; (with_reducible refine (cleatref10_write.calls a0 10 t147 _ A2.out).mono ?_); rintro e w3 ⟨rfl, hb⟩; refine ⟨_, rfl, ?_⟩; have n0_ := Aside0.mk (below_step (by repeat (first | (with_reducible first | exact HB.out | apply below_alloc | apply pw_below_drewN | apply below_drew1) | exact HB.out)) hb); clear HB; have HB := n0_; clear n0_; (try clear hb); (try clear hb2); (try clear hk); (try clear hi)))
  go_ret
  exact ⟨by first | rfl | (simp [errW_none, errW_some] <;> rfl) | (simp [*, errW_none, errW_some] <;> rfl), by repeat (first | (with_reducible first | exact HB.out | apply below_alloc | apply pw_below_drewN | apply below_drew1) | exact HB.out)⟩

/-! ### cleatref10_Hex: function 20 -/
def cleatref10_Hex.f (a0 : Int) : Option (ByteArray) := (cleatref10_write.f a0 16).bind fun t148 => (if 2 + t148.size ≤ 9223372036854775807 then (some ((⟨#[48, 120]⟩ : ByteArray) ++ t148)) else (none))
set_option maxHeartbeats 8000000 in
set_option maxRecDepth 100000 in
theorem cleatref10_Hex.calls (a0 : Int) (r : ByteArray) (w : World) (h : cleatref10_Hex.f a0 = some r) :
    Calls Tryd.prog 20 #[.int .u64 a0] w fun e w' => e = .returned (.string r) ∧ Below w.heap.size w w' := by
  have HB := Aside0.mk (Below.refl w.heap.size w)
  have H : ((cleatref10_write.f a0 16).bind fun t148 => (if 2 + t148.size ≤ 9223372036854775807 then (some ((⟨#[48, 120]⟩ : ByteArray) ++ t148)) else (none))) = some r := h
  clear h
  replace H := Option.bind_eq_some_iff.mp H
  obtain ⟨t148, A20, H⟩ := H
  replace H : (if 2 + t148.size ≤ 9223372036854775807 then (some ((⟨#[48, 120]⟩ : ByteArray) ++ t148)) else (none)) = some r := H
  have A2 := Aside0.mk A20
  clear A20
  by_cases c3 : 2 + t148.size ≤ 9223372036854775807
  · rw [if_pos c3] at H
    have c3b0 := eq_true c3
    have c3b1 : decide (2 + t148.size ≤ 9223372036854775807) = true := decide_eq_true c3
    try have c3b2 : (9223372036854775807 < 2 + t148.size) = False := eq_false (Nat.not_lt.2 c3)
    obtain rfl := Option.some.inj H
    go_enter Tryd.func20, Tryd.ntmps20
    go_wp2_with (first | ((with_reducible refine gate_callee (f := 25) rfl ?_); refine goesL_ (some 4) rfl rfl Tryd.func25 (by kernel_rfl) rfl #[.int .u64 a0, .int .u64 16] rfl (by (try simp only [List.map_toArray, List.map_cons, List.map_nil]); first | done | rfl | (simp only [List.length_drop, List.length_take]; rfl)) ?_; (with_reducible refine (cleatref10_write.calls a0 16 t148 _ A2.out).mono ?_); rintro e w4 ⟨rfl, hb⟩; refine ⟨_, rfl, ?_⟩; have n0_ := Aside0.mk (below_step (by repeat (first | (with_reducible first | exact HB.out | apply below_alloc | apply pw_below_drewN | apply below_drew1) | exact HB.out)) hb); clear HB; have HB := n0_; clear n0_; (try clear hb); (try clear hb2); (try clear hk); (try clear hi)))
    go_ret
    exact ⟨by first | rfl | (simp [errW_none, errW_some] <;> rfl) | (simp [*, errW_none, errW_some] <;> rfl), by repeat (first | (with_reducible first | exact HB.out | apply below_alloc | apply pw_below_drewN | apply below_drew1) | exact HB.out)⟩
  · rw [if_neg c3] at H
    exact absurd H (by simp)

/-! ### cleatlaw10_NumDoes: function 3 -/
def cleatlaw10_NumDoes.f (k : Nat) (a0 : ByteArray) (a1 : Int) (a2 : Bool) (a3 : Int) : Option (Bool) := if (a0.size : Int) > 300 then (some true) else ((num_Value.f a0).bind fun bt149 => ((cleatref10_Value.f k a0).bind fun bt151 => ((num_Signed.f k a2 a1).bind fun bt153 => ((cleatref10_Signed.f k a2 a1).bind fun bt155 => ((num_Of.f a3).bind fun bt157 => ((cleatref10_Of.f a3).bind fun bt159 => ((num_Sum.f a1 a3).bind fun bt161 => ((cleatref10_Sum.f k a1 a3).bind fun bt163 => ((cleatlaw10_counted.f k).bind fun t165 => (if t165 = true then (if bt149.1 = bt151.1 then (if bt149.2 = bt151.2 then (if bt153.1 = bt155.1 then (if bt153.2 = bt155.2 then (if (bt157.1 == bt159.1) = true then (if bt157.2 = bt159.2 then (if bt161.1 = bt163.1 then (if bt161.2 = bt163.2 then ((num_Text.f a1).bind fun t166 => ((cleatref10_Text.f a1).bind fun t167 => (if t166.toList = t167.toList then ((num_Hex.f a1).bind fun t168 => ((cleatref10_Hex.f a1).bind fun t169 => (some (t168.toList == t169.toList)))) else (none)))) else (none)) else (none)) else (none)) else (none)) else (none)) else (none)) else (none)) else (none)) else (none)))))))))))
theorem cleatlaw10_NumDoes.mono : ∀ a0 a1 a2 a3 k, LeO (cleatlaw10_NumDoes.f k a0 a1 a2 a3) (cleatlaw10_NumDoes.f (k + 1) a0 a1 a2 a3) := by
  intro a0 a1 a2 a3 k
  unfold cleatlaw10_NumDoes.f
  repeat' first
      | (with_reducible exact cleatlaw10_counted.mono _)
      | (with_reducible exact cleatref10_Signed.mono _ _ _)
      | (with_reducible exact cleatref10_Sum.mono _ _ _)
      | (with_reducible exact cleatref10_Value.mono _ _)
      | (with_reducible exact num_Signed.mono _ _ _)
      | (with_reducible exact LeO.refl _)
      | (with_reducible exact LeO.none _)
      | (with_reducible refine LeO.ite ?_ ?_)
      | (with_reducible refine LeO.bind ?_ (fun _ => ?_))
      | exact cleatlaw10_counted.mono _
      | exact cleatref10_Signed.mono _ _ _
      | exact cleatref10_Sum.mono _ _ _
      | exact cleatref10_Value.mono _ _
      | exact num_Signed.mono _ _ _
      | exact LeO.none _
      | refine LeO.ite ?_ ?_
      | refine LeO.bind ?_ (fun _ => ?_)
set_option maxHeartbeats 8000000 in
set_option maxRecDepth 100000 in
theorem cleatlaw10_NumDoes.calls (k : Nat) (a0 : ByteArray) (a1 : Int) (a2 : Bool) (a3 : Int) (r : Bool) (w : World) (h : cleatlaw10_NumDoes.f k a0 a1 a2 a3 = some r) (hTab : TabW w := by first | exact hTab | exact TabW.drew hTab | exact TabW.drewN hTab _ | exact TabW.below hTab (by repeat (first | (with_reducible first | exact HB.out | apply below_alloc | apply pw_below_drewN | apply below_drew1) | exact HB.out | exact Below.refl _ _))) :
    Calls Tryd.prog 3 #[.string a0, .int .u64 a1, .bool a2, .int .i64 a3] w fun e w' => e = .returned (.bool r) ∧ Below w.heap.size w w' := by
  have HB := Aside0.mk (Below.refl w.heap.size w)
  have H : (if (a0.size : Int) > 300 then (some true) else ((num_Value.f a0).bind fun bt149 => ((cleatref10_Value.f k a0).bind fun bt151 => ((num_Signed.f k a2 a1).bind fun bt153 => ((cleatref10_Signed.f k a2 a1).bind fun bt155 => ((num_Of.f a3).bind fun bt157 => ((cleatref10_Of.f a3).bind fun bt159 => ((num_Sum.f a1 a3).bind fun bt161 => ((cleatref10_Sum.f k a1 a3).bind fun bt163 => ((cleatlaw10_counted.f k).bind fun t165 => (if t165 = true then (if bt149.1 = bt151.1 then (if bt149.2 = bt151.2 then (if bt153.1 = bt155.1 then (if bt153.2 = bt155.2 then (if (bt157.1 == bt159.1) = true then (if bt157.2 = bt159.2 then (if bt161.1 = bt163.1 then (if bt161.2 = bt163.2 then ((num_Text.f a1).bind fun t166 => ((cleatref10_Text.f a1).bind fun t167 => (if t166.toList = t167.toList then ((num_Hex.f a1).bind fun t168 => ((cleatref10_Hex.f a1).bind fun t169 => (some (t168.toList == t169.toList)))) else (none)))) else (none)) else (none)) else (none)) else (none)) else (none)) else (none)) else (none)) else (none)) else (none)))))))))))) = some r := h
  clear h
  by_cases c5 : (a0.size : Int) > 300
  · rw [if_pos c5] at H
    have c5b0 : decide (300 < (a0.size : Int)) = true := decide_eq_true c5
    have c5b1 : decide (300 < a0.size) = true := decide_eq_true (by omega)
    clear c5
    obtain rfl := Option.some.inj H
    go_enter Tryd.func3, Tryd.ntmps3
    go_wp2
    go_ret
    exact ⟨by first | rfl | (simp [errW_none, errW_some] <;> rfl) | (simp [*, errW_none, errW_some] <;> rfl), by repeat (first | (with_reducible first | exact HB.out | apply below_alloc | apply pw_below_drewN | apply below_drew1) | exact HB.out)⟩
  · rw [if_neg c5] at H
    have c5b0 : decide (300 < (a0.size : Int)) = false := decide_eq_false c5
    have c5b1 : decide (300 < a0.size) = false := decide_eq_false (by omega)
    clear c5
    replace H := Option.bind_eq_some_iff.mp H
    obtain ⟨⟨t149, t150⟩, A60, H⟩ := H
    replace H : ((cleatref10_Value.f k a0).bind fun bt151 => ((num_Signed.f k a2 a1).bind fun bt153 => ((cleatref10_Signed.f k a2 a1).bind fun bt155 => ((num_Of.f a3).bind fun bt157 => ((cleatref10_Of.f a3).bind fun bt159 => ((num_Sum.f a1 a3).bind fun bt161 => ((cleatref10_Sum.f k a1 a3).bind fun bt163 => ((cleatlaw10_counted.f k).bind fun t165 => (if t165 = true then (if t149 = bt151.1 then (if t150 = bt151.2 then (if bt153.1 = bt155.1 then (if bt153.2 = bt155.2 then (if (bt157.1 == bt159.1) = true then (if bt157.2 = bt159.2 then (if bt161.1 = bt163.1 then (if bt161.2 = bt163.2 then ((num_Text.f a1).bind fun t166 => ((cleatref10_Text.f a1).bind fun t167 => (if t166.toList = t167.toList then ((num_Hex.f a1).bind fun t168 => ((cleatref10_Hex.f a1).bind fun t169 => (some (t168.toList == t169.toList)))) else (none)))) else (none)) else (none)) else (none)) else (none)) else (none)) else (none)) else (none)) else (none)) else (none)))))))))) = some r := H
    have A6 := Aside0.mk A60
    clear A60
    replace H := Option.bind_eq_some_iff.mp H
    obtain ⟨⟨t151, t152⟩, A70, H⟩ := H
    replace H : ((num_Signed.f k a2 a1).bind fun bt153 => ((cleatref10_Signed.f k a2 a1).bind fun bt155 => ((num_Of.f a3).bind fun bt157 => ((cleatref10_Of.f a3).bind fun bt159 => ((num_Sum.f a1 a3).bind fun bt161 => ((cleatref10_Sum.f k a1 a3).bind fun bt163 => ((cleatlaw10_counted.f k).bind fun t165 => (if t165 = true then (if t149 = t151 then (if t150 = t152 then (if bt153.1 = bt155.1 then (if bt153.2 = bt155.2 then (if (bt157.1 == bt159.1) = true then (if bt157.2 = bt159.2 then (if bt161.1 = bt163.1 then (if bt161.2 = bt163.2 then ((num_Text.f a1).bind fun t166 => ((cleatref10_Text.f a1).bind fun t167 => (if t166.toList = t167.toList then ((num_Hex.f a1).bind fun t168 => ((cleatref10_Hex.f a1).bind fun t169 => (some (t168.toList == t169.toList)))) else (none)))) else (none)) else (none)) else (none)) else (none)) else (none)) else (none)) else (none)) else (none)) else (none))))))))) = some r := H
    have A7 := Aside0.mk A70
    clear A70
    replace H := Option.bind_eq_some_iff.mp H
    obtain ⟨⟨t153, t154⟩, A80, H⟩ := H
    replace H : ((cleatref10_Signed.f k a2 a1).bind fun bt155 => ((num_Of.f a3).bind fun bt157 => ((cleatref10_Of.f a3).bind fun bt159 => ((num_Sum.f a1 a3).bind fun bt161 => ((cleatref10_Sum.f k a1 a3).bind fun bt163 => ((cleatlaw10_counted.f k).bind fun t165 => (if t165 = true then (if t149 = t151 then (if t150 = t152 then (if t153 = bt155.1 then (if t154 = bt155.2 then (if (bt157.1 == bt159.1) = true then (if bt157.2 = bt159.2 then (if bt161.1 = bt163.1 then (if bt161.2 = bt163.2 then ((num_Text.f a1).bind fun t166 => ((cleatref10_Text.f a1).bind fun t167 => (if t166.toList = t167.toList then ((num_Hex.f a1).bind fun t168 => ((cleatref10_Hex.f a1).bind fun t169 => (some (t168.toList == t169.toList)))) else (none)))) else (none)) else (none)) else (none)) else (none)) else (none)) else (none)) else (none)) else (none)) else (none)))))))) = some r := H
    have A8 := Aside0.mk A80
    clear A80
    replace H := Option.bind_eq_some_iff.mp H
    obtain ⟨⟨t155, t156⟩, A90, H⟩ := H
    replace H : ((num_Of.f a3).bind fun bt157 => ((cleatref10_Of.f a3).bind fun bt159 => ((num_Sum.f a1 a3).bind fun bt161 => ((cleatref10_Sum.f k a1 a3).bind fun bt163 => ((cleatlaw10_counted.f k).bind fun t165 => (if t165 = true then (if t149 = t151 then (if t150 = t152 then (if t153 = t155 then (if t154 = t156 then (if (bt157.1 == bt159.1) = true then (if bt157.2 = bt159.2 then (if bt161.1 = bt163.1 then (if bt161.2 = bt163.2 then ((num_Text.f a1).bind fun t166 => ((cleatref10_Text.f a1).bind fun t167 => (if t166.toList = t167.toList then ((num_Hex.f a1).bind fun t168 => ((cleatref10_Hex.f a1).bind fun t169 => (some (t168.toList == t169.toList)))) else (none)))) else (none)) else (none)) else (none)) else (none)) else (none)) else (none)) else (none)) else (none)) else (none))))))) = some r := H
    have A9 := Aside0.mk A90
    clear A90
    replace H := Option.bind_eq_some_iff.mp H
    obtain ⟨⟨t157, t158⟩, A100, H⟩ := H
    replace H : ((cleatref10_Of.f a3).bind fun bt159 => ((num_Sum.f a1 a3).bind fun bt161 => ((cleatref10_Sum.f k a1 a3).bind fun bt163 => ((cleatlaw10_counted.f k).bind fun t165 => (if t165 = true then (if t149 = t151 then (if t150 = t152 then (if t153 = t155 then (if t154 = t156 then (if (t157 == bt159.1) = true then (if t158 = bt159.2 then (if bt161.1 = bt163.1 then (if bt161.2 = bt163.2 then ((num_Text.f a1).bind fun t166 => ((cleatref10_Text.f a1).bind fun t167 => (if t166.toList = t167.toList then ((num_Hex.f a1).bind fun t168 => ((cleatref10_Hex.f a1).bind fun t169 => (some (t168.toList == t169.toList)))) else (none)))) else (none)) else (none)) else (none)) else (none)) else (none)) else (none)) else (none)) else (none)) else (none)))))) = some r := H
    have A10 := Aside0.mk A100
    clear A100
    replace H := Option.bind_eq_some_iff.mp H
    obtain ⟨⟨t159, t160⟩, A110, H⟩ := H
    replace H : ((num_Sum.f a1 a3).bind fun bt161 => ((cleatref10_Sum.f k a1 a3).bind fun bt163 => ((cleatlaw10_counted.f k).bind fun t165 => (if t165 = true then (if t149 = t151 then (if t150 = t152 then (if t153 = t155 then (if t154 = t156 then (if (t157 == t159) = true then (if t158 = t160 then (if bt161.1 = bt163.1 then (if bt161.2 = bt163.2 then ((num_Text.f a1).bind fun t166 => ((cleatref10_Text.f a1).bind fun t167 => (if t166.toList = t167.toList then ((num_Hex.f a1).bind fun t168 => ((cleatref10_Hex.f a1).bind fun t169 => (some (t168.toList == t169.toList)))) else (none)))) else (none)) else (none)) else (none)) else (none)) else (none)) else (none)) else (none)) else (none)) else (none))))) = some r := H
    have A11 := Aside0.mk A110
    clear A110
    replace H := Option.bind_eq_some_iff.mp H
    obtain ⟨⟨t161, t162⟩, A120, H⟩ := H
    replace H : ((cleatref10_Sum.f k a1 a3).bind fun bt163 => ((cleatlaw10_counted.f k).bind fun t165 => (if t165 = true then (if t149 = t151 then (if t150 = t152 then (if t153 = t155 then (if t154 = t156 then (if (t157 == t159) = true then (if t158 = t160 then (if t161 = bt163.1 then (if t162 = bt163.2 then ((num_Text.f a1).bind fun t166 => ((cleatref10_Text.f a1).bind fun t167 => (if t166.toList = t167.toList then ((num_Hex.f a1).bind fun t168 => ((cleatref10_Hex.f a1).bind fun t169 => (some (t168.toList == t169.toList)))) else (none)))) else (none)) else (none)) else (none)) else (none)) else (none)) else (none)) else (none)) else (none)) else (none)))) = some r := H
    have A12 := Aside0.mk A120
    clear A120
    replace H := Option.bind_eq_some_iff.mp H
    obtain ⟨⟨t163, t164⟩, A130, H⟩ := H
    replace H : ((cleatlaw10_counted.f k).bind fun t165 => (if t165 = true then (if t149 = t151 then (if t150 = t152 then (if t153 = t155 then (if t154 = t156 then (if (t157 == t159) = true then (if t158 = t160 then (if t161 = t163 then (if t162 = t164 then ((num_Text.f a1).bind fun t166 => ((cleatref10_Text.f a1).bind fun t167 => (if t166.toList = t167.toList then ((num_Hex.f a1).bind fun t168 => ((cleatref10_Hex.f a1).bind fun t169 => (some (t168.toList == t169.toList)))) else (none)))) else (none)) else (none)) else (none)) else (none)) else (none)) else (none)) else (none)) else (none)) else (none))) = some r := H
    have A13 := Aside0.mk A130
    clear A130
    replace H := Option.bind_eq_some_iff.mp H
    obtain ⟨t165, A140, H⟩ := H
    replace H : (if t165 = true then (if t149 = t151 then (if t150 = t152 then (if t153 = t155 then (if t154 = t156 then (if (t157 == t159) = true then (if t158 = t160 then (if t161 = t163 then (if t162 = t164 then ((num_Text.f a1).bind fun t166 => ((cleatref10_Text.f a1).bind fun t167 => (if t166.toList = t167.toList then ((num_Hex.f a1).bind fun t168 => ((cleatref10_Hex.f a1).bind fun t169 => (some (t168.toList == t169.toList)))) else (none)))) else (none)) else (none)) else (none)) else (none)) else (none)) else (none)) else (none)) else (none)) else (none)) = some r := H
    have A14 := Aside0.mk A140
    clear A140
    by_cases c15 : t165 = true
    · subst c15
      have H1 : (if t149 = t151 then (if t150 = t152 then (if t153 = t155 then (if t154 = t156 then (if (t157 == t159) = true then (if t158 = t160 then (if t161 = t163 then (if t162 = t164 then ((num_Text.f a1).bind fun t166 => ((cleatref10_Text.f a1).bind fun t167 => (if t166.toList = t167.toList then ((num_Hex.f a1).bind fun t168 => ((cleatref10_Hex.f a1).bind fun t169 => (some (t168.toList == t169.toList)))) else (none)))) else (none)) else (none)) else (none)) else (none)) else (none)) else (none)) else (none)) else (none)) = some r := by rw [if_pos rfl] at H; exact H
      clear H
      have H := H1
      clear H1
      by_cases c16 : t149 = t151
      · rw [if_pos c16] at H
        have c16b0 : (t149 == t151) = true := beq_iff_eq.mpr c16
        have c16b1 : (t149 != t151) = false := bne_eq_false_iff_eq.mpr c16
        clear c16
        by_cases c17 : t150 = t152
        · rw [if_pos c17] at H
          have c17b0 : (t150 == t152) = true := beq_iff_eq.mpr c17
          have c17b1 : (t150 != t152) = false := bne_eq_false_iff_eq.mpr c17
          clear c17
          by_cases c18 : t153 = t155
          · rw [if_pos c18] at H
            have c18b0 : (t153 == t155) = true := beq_iff_eq.mpr c18
            have c18b1 : (t153 != t155) = false := bne_eq_false_iff_eq.mpr c18
            clear c18
            by_cases c19 : t154 = t156
            · rw [if_pos c19] at H
              have c19b0 : (t154 == t156) = true := beq_iff_eq.mpr c19
              have c19b1 : (t154 != t156) = false := bne_eq_false_iff_eq.mpr c19
              clear c19
              by_cases c20 : (t157 == t159) = true
              · rw [if_pos c20] at H
                have c20b0 : (t157 == t159) = true := c20
                (try (have c20b1 : decide (t157 = t159) = true := by simpa using c20))
                (try (have c20b2 : (t157 == t159) = true := by simpa using c20))
                clear c20
                by_cases c21 : t158 = t160
                · rw [if_pos c21] at H
                  have c21b0 : (t158 == t160) = true := beq_iff_eq.mpr c21
                  have c21b1 : (t158 != t160) = false := bne_eq_false_iff_eq.mpr c21
                  clear c21
                  by_cases c22 : t161 = t163
                  · rw [if_pos c22] at H
                    have c22b0 : (t161 == t163) = true := beq_iff_eq.mpr c22
                    have c22b1 : (t161 != t163) = false := bne_eq_false_iff_eq.mpr c22
                    clear c22
                    by_cases c23 : t162 = t164
                    · rw [if_pos c23] at H
                      have c23b0 : (t162 == t164) = true := beq_iff_eq.mpr c23
                      have c23b1 : (t162 != t164) = false := bne_eq_false_iff_eq.mpr c23
                      clear c23
                      replace H := Option.bind_eq_some_iff.mp H
                      obtain ⟨t166, A240, H⟩ := H
                      replace H : ((cleatref10_Text.f a1).bind fun t167 => (if t166.toList = t167.toList then ((num_Hex.f a1).bind fun t168 => ((cleatref10_Hex.f a1).bind fun t169 => (some (t168.toList == t169.toList)))) else (none))) = some r := H
                      have A24 := Aside0.mk A240
                      clear A240
                      replace H := Option.bind_eq_some_iff.mp H
                      obtain ⟨t167, A250, H⟩ := H
                      replace H : (if t166.toList = t167.toList then ((num_Hex.f a1).bind fun t168 => ((cleatref10_Hex.f a1).bind fun t169 => (some (t168.toList == t169.toList)))) else (none)) = some r := H
                      have A25 := Aside0.mk A250
                      clear A250
                      by_cases c26 : t166.toList = t167.toList
                      · rw [if_pos c26] at H
                        have c26b0 : (t166.toList == t167.toList) = true := beq_iff_eq.mpr c26
                        have c26b1 : (t166.toList != t167.toList) = false := bne_eq_false_iff_eq.mpr c26
                        clear c26
                        replace H := Option.bind_eq_some_iff.mp H
                        obtain ⟨t168, A270, H⟩ := H
                        replace H : ((cleatref10_Hex.f a1).bind fun t169 => (some (t168.toList == t169.toList))) = some r := H
                        have A27 := Aside0.mk A270
                        clear A270
                        replace H := Option.bind_eq_some_iff.mp H
                        obtain ⟨t169, A280, H⟩ := H
                        replace H : (some (t168.toList == t169.toList)) = some r := H
                        have A28 := Aside0.mk A280
                        clear A280
                        obtain rfl := Option.some.inj H
                        go_enter Tryd.func3, Tryd.ntmps3
                        go_wp2_with (first | ((with_reducible refine gate_callee (f := 8) rfl ?_); refine goesL_ (some 30) rfl rfl Tryd.func8 (by kernel_rfl) rfl #[.string a0] rfl (by (try simp only [List.map_toArray, List.map_cons, List.map_nil]); first | done | rfl | (simp only [List.length_drop, List.length_take]; rfl)) ?_; (with_reducible refine (num_Value.calls a0 t149 t150 _ A6.out).mono ?_); rintro e w29 ⟨rfl, hb⟩; refine ⟨_, rfl, ?_⟩; have n0_ := Aside0.mk (below_step (by repeat (first | (with_reducible first | exact HB.out | apply below_alloc | apply pw_below_drewN | apply below_drew1) | exact HB.out)) hb); clear HB; have HB := n0_; clear n0_; (try clear hb); (try clear hb2); (try clear hk); (try clear hi)) | ((with_reducible refine gate_callee (f := 9) rfl ?_); refine goesL_ (some 35) rfl rfl Tryd.func9 (by kernel_rfl) rfl #[.string a0] rfl (by (try simp only [List.map_toArray, List.map_cons, List.map_nil]); first | done | rfl | (simp only [List.length_drop, List.length_take]; rfl)) ?_; (with_reducible refine (cleatref10_Value.calls k a0 t151 t152 _ A7.out).mono ?_); rintro e w' ⟨rfl, ⟨nd, rfl⟩⟩; refine ⟨_, rfl, ?_⟩) | ((with_reducible refine gate_callee (f := 10) rfl ?_); refine goesL_ (some 41) rfl rfl Tryd.func10 (by kernel_rfl) rfl #[.bool a2, .int .u64 a1] rfl (by (try simp only [List.map_toArray, List.map_cons, List.map_nil]); first | done | rfl | (simp only [List.length_drop, List.length_take]; rfl)) ?_; (with_reducible refine (num_Signed.calls k a2 a1 t153 t154 _ A8.out).mono ?_); rintro e w' ⟨rfl, ⟨nd, rfl⟩⟩; refine ⟨_, rfl, ?_⟩) | ((with_reducible refine gate_callee (f := 11) rfl ?_); refine goesL_ (some 47) rfl rfl Tryd.func11 (by kernel_rfl) rfl #[.bool a2, .int .u64 a1] rfl (by (try simp only [List.map_toArray, List.map_cons, List.map_nil]); first | done | rfl | (simp only [List.length_drop, List.length_take]; rfl)) ?_; (with_reducible refine (cleatref10_Signed.calls k a2 a1 t155 t156 _ A9.out).mono ?_); rintro e w' ⟨rfl, ⟨nd, rfl⟩⟩; refine ⟨_, rfl, ?_⟩) | ((with_reducible refine gate_callee (f := 12) rfl ?_); refine goesL_ (some 52) rfl rfl Tryd.func12 (by kernel_rfl) rfl #[.int .i64 a3] rfl (by (try simp only [List.map_toArray, List.map_cons, List.map_nil]); first | done | rfl | (simp only [List.length_drop, List.length_take]; rfl)) ?_; (with_reducible refine (num_Of.calls a3 t157 t158 _ A10.out).mono ?_); rintro e w' ⟨rfl, ⟨nd, rfl⟩⟩; refine ⟨_, rfl, ?_⟩) | ((with_reducible refine gate_callee (f := 13) rfl ?_); refine goesL_ (some 57) rfl rfl Tryd.func13 (by kernel_rfl) rfl #[.int .i64 a3] rfl (by (try simp only [List.map_toArray, List.map_cons, List.map_nil]); first | done | rfl | (simp only [List.length_drop, List.length_take]; rfl)) ?_; (with_reducible refine (cleatref10_Of.calls a3 t159 t160 _ A11.out).mono ?_); rintro e w' ⟨rfl, ⟨nd, rfl⟩⟩; refine ⟨_, rfl, ?_⟩) | ((with_reducible refine gate_callee (f := 14) rfl ?_); refine goesL_ (some 63) rfl rfl Tryd.func14 (by kernel_rfl) rfl #[.int .u64 a1, .int .i64 a3] rfl (by (try simp only [List.map_toArray, List.map_cons, List.map_nil]); first | done | rfl | (simp only [List.length_drop, List.length_take]; rfl)) ?_; (with_reducible refine (num_Sum.calls a1 a3 t161 t162 _ A12.out).mono ?_); rintro e w' ⟨rfl, ⟨nd, rfl⟩⟩; refine ⟨_, rfl, ?_⟩) | ((with_reducible refine gate_callee (f := 15) rfl ?_); refine goesL_ (some 69) rfl rfl Tryd.func15 (by kernel_rfl) rfl #[.int .u64 a1, .int .i64 a3] rfl (by (try simp only [List.map_toArray, List.map_cons, List.map_nil]); first | done | rfl | (simp only [List.length_drop, List.length_take]; rfl)) ?_; (with_reducible refine (cleatref10_Sum.calls k a1 a3 t163 t164 _ A13.out).mono ?_); rintro e w' ⟨rfl, ⟨nd, rfl⟩⟩; refine ⟨_, rfl, ?_⟩) | ((with_reducible refine gate_callee (f := 16) rfl ?_); refine goesL_ (some 72) rfl rfl Tryd.func16 (by kernel_rfl) rfl #[] rfl (by (try simp only [List.map_toArray, List.map_cons, List.map_nil]); first | done | rfl | (simp only [List.length_drop, List.length_take]; rfl)) ?_; (with_reducible refine (cleatlaw10_counted.calls k  true _ A14.out).mono ?_); rintro e w30 ⟨rfl, hb⟩; refine ⟨_, rfl, ?_⟩; have n0_ := Aside0.mk (below_step (by repeat (first | (with_reducible first | exact HB.out | apply below_alloc | apply pw_below_drewN | apply below_drew1) | exact HB.out)) hb); clear HB; have HB := n0_; clear n0_; (try clear hb); (try clear hb2); (try clear hk); (try clear hi)) | (go_at_call 17; (with_reducible refine (num_Text.calls a1 t166 _ A24.out).mono ?_); rintro e w31 ⟨rfl, hb⟩; have n0_ := Aside0.mk (below_step (by repeat (first | (with_reducible first | exact HB.out | apply below_alloc | apply pw_below_drewN | apply below_drew1) | exact HB.out)) hb); clear HB; have HB := n0_; clear n0_; (try clear hb); (try clear hb2); (try clear hk); (try clear hi)) | (go_at_call 18; (with_reducible refine (cleatref10_Text.calls a1 t167 _ A25.out).mono ?_); rintro e w32 ⟨rfl, hb⟩; have n0_ := Aside0.mk (below_step (by repeat (first | (with_reducible first | exact HB.out | apply below_alloc | apply pw_below_drewN | apply below_drew1) | exact HB.out)) hb); clear HB; have HB := n0_; clear n0_; (try clear hb); (try clear hb2); (try clear hk); (try clear hi)) | (go_at_call 19; (with_reducible refine (num_Hex.calls a1 t168 _ A27.out).mono ?_); rintro e w33 ⟨rfl, hb⟩; have n0_ := Aside0.mk (below_step (by repeat (first | (with_reducible first | exact HB.out | apply below_alloc | apply pw_below_drewN | apply below_drew1) | exact HB.out)) hb); clear HB; have HB := n0_; clear n0_; (try clear hb); (try clear hb2); (try clear hk); (try clear hi)) | (go_at_call 20; (with_reducible refine (cleatref10_Hex.calls a1 t169 _ A28.out).mono ?_); rintro e w34 ⟨rfl, hb⟩; have n0_ := Aside0.mk (below_step (by repeat (first | (with_reducible first | exact HB.out | apply below_alloc | apply pw_below_drewN | apply below_drew1) | exact HB.out)) hb); clear HB; have HB := n0_; clear n0_; (try clear hb); (try clear hb2); (try clear hk); (try clear hi)))
                        go_ret
                        exact ⟨by first | rfl | (simp [errW_none, errW_some] <;> rfl) | (simp [*, errW_none, errW_some] <;> rfl), by repeat (first | (with_reducible first | exact HB.out | apply below_alloc | apply pw_below_drewN | apply below_drew1) | exact HB.out)⟩
                      · rw [if_neg c26] at H
                        exact absurd H (by simp)
                    · rw [if_neg c23] at H
                      exact absurd H (by simp)
                  · rw [if_neg c22] at H
                    exact absurd H (by simp)
                · rw [if_neg c21] at H
                  exact absurd H (by simp)
              · rw [if_neg c20] at H
                exact absurd H (by simp)
            · rw [if_neg c19] at H
              exact absurd H (by simp)
          · rw [if_neg c18] at H
            exact absurd H (by simp)
        · rw [if_neg c17] at H
          exact absurd H (by simp)
      · rw [if_neg c16] at H
        exact absurd H (by simp)
    · replace c15 := Bool.eq_false_iff.mpr c15
      subst c15
      have H1 : (none) = some r := by rw [if_neg (show ¬ (false = true) by decide)] at H; exact H
      clear H
      have H := H1
      clear H1
      exact absurd H (by simp)

/-- THE ONE PURE STATEMENT of cleatlaw10_NumDoes: yours. -/
def cleatlaw10_NumDoes.Pure : Prop := ∀ (a0 : ByteArray) (a1 : Int) (a2 : Bool) (a3 : Int), a0.size ≤ 140737488351232 → (Lit.int .u64 a1).wf = true → (Lit.int .i64 a3).wf = true → ∃ k, cleatlaw10_NumDoes.f k a0 a1 a2 a3 = some true
theorem cleatlaw10_NumDoes.walk (P : cleatlaw10_NumDoes.Pure) (a0 : ByteArray) (a1 : Int) (a2 : Bool) (a3 : Int) (w : World) (w0 : a0.size ≤ 140737488351232) (w1 : (Lit.int .u64 a1).wf = true) (w3 : (Lit.int .i64 a3).wf = true) (hTab : TabW w) :
    Calls Tryd.prog 3 #[.string a0, .int .u64 a1, .bool a2, .int .i64 a3] w fun e w' => e = .returned (.bool true) ∧ Below w.heap.size w w' := by
  obtain ⟨k, h⟩ := P a0 a1 a2 a3 w0 w1 w3
  refine (cleatlaw10_NumDoes.calls k a0 a1 a2 a3 true w h).mono ?_
  rintro e w' ⟨rfl, hd⟩
  exact ⟨rfl, hd⟩

/-! ### cleatlaw10_NumBack: function 4 -/
def cleatlaw10_NumBack.f (k : Nat) (a0 : Int) : Option (Bool) := (num_Text.f a0).bind fun t170 => ((num_Hex.f a0).bind fun t171 => ((num_Value.f t170).bind fun bt172 => ((num_Value.f t171).bind fun bt174 => (if t170.toList = ([] : List UInt8) then (none) else (if (t171.size : Int) < 3 then (none) else ((cleatlaw10_counted.f k).bind fun t176 => (if t176 = true then (if bt172.2 = 0 then (if bt172.1 = a0 then (if bt174.2 = 0 then (if bt174.1 = a0 then (if 0 < (t170.size : Int) then (if ((a0 == 0) == ((bt t170 0) == 48)) = true then (if 2 < (t171.size : Int) then (if ((a0 == 0) == ((bt t171 2) == 48)) = true then (if 0 ≤ 2 then (if 2 ≤ (t171.size : Int) then (some ((t171.extract 0 2).toList == ([48, 120] : List UInt8))) else (none)) else (none)) else (none)) else (none)) else (none)) else (none)) else (none)) else (none)) else (none)) else (none)) else (none))))))))
theorem cleatlaw10_NumBack.mono : ∀ a0 k, LeO (cleatlaw10_NumBack.f k a0) (cleatlaw10_NumBack.f (k + 1) a0) := by
  intro a0 k
  unfold cleatlaw10_NumBack.f
  repeat' first
      | (with_reducible exact cleatlaw10_counted.mono _)
      | (with_reducible exact LeO.refl _)
      | (with_reducible exact LeO.none _)
      | (with_reducible refine LeO.ite ?_ ?_)
      | (with_reducible refine LeO.bind ?_ (fun _ => ?_))
      | exact cleatlaw10_counted.mono _
      | exact LeO.none _
      | refine LeO.ite ?_ ?_
      | refine LeO.bind ?_ (fun _ => ?_)
set_option maxHeartbeats 8000000 in
set_option maxRecDepth 100000 in
theorem cleatlaw10_NumBack.calls (k : Nat) (a0 : Int) (r : Bool) (w : World) (h : cleatlaw10_NumBack.f k a0 = some r) (hTab : TabW w := by first | exact hTab | exact TabW.drew hTab | exact TabW.drewN hTab _ | exact TabW.below hTab (by repeat (first | (with_reducible first | exact HB.out | apply below_alloc | apply pw_below_drewN | apply below_drew1) | exact HB.out | exact Below.refl _ _))) :
    Calls Tryd.prog 4 #[.int .u64 a0] w fun e w' => e = .returned (.bool r) ∧ Below w.heap.size w w' := by
  have HB := Aside0.mk (Below.refl w.heap.size w)
  have H : ((num_Text.f a0).bind fun t170 => ((num_Hex.f a0).bind fun t171 => ((num_Value.f t170).bind fun bt172 => ((num_Value.f t171).bind fun bt174 => (if t170.toList = ([] : List UInt8) then (none) else (if (t171.size : Int) < 3 then (none) else ((cleatlaw10_counted.f k).bind fun t176 => (if t176 = true then (if bt172.2 = 0 then (if bt172.1 = a0 then (if bt174.2 = 0 then (if bt174.1 = a0 then (if 0 < (t170.size : Int) then (if ((a0 == 0) == ((bt t170 0) == 48)) = true then (if 2 < (t171.size : Int) then (if ((a0 == 0) == ((bt t171 2) == 48)) = true then (if 0 ≤ 2 then (if 2 ≤ (t171.size : Int) then (some ((t171.extract 0 2).toList == ([48, 120] : List UInt8))) else (none)) else (none)) else (none)) else (none)) else (none)) else (none)) else (none)) else (none)) else (none)) else (none)) else (none))))))))) = some r := h
  clear h
  replace H := Option.bind_eq_some_iff.mp H
  obtain ⟨t170, A20, H⟩ := H
  replace H : ((num_Hex.f a0).bind fun t171 => ((num_Value.f t170).bind fun bt172 => ((num_Value.f t171).bind fun bt174 => (if t170.toList = ([] : List UInt8) then (none) else (if (t171.size : Int) < 3 then (none) else ((cleatlaw10_counted.f k).bind fun t176 => (if t176 = true then (if bt172.2 = 0 then (if bt172.1 = a0 then (if bt174.2 = 0 then (if bt174.1 = a0 then (if 0 < (t170.size : Int) then (if ((a0 == 0) == ((bt t170 0) == 48)) = true then (if 2 < (t171.size : Int) then (if ((a0 == 0) == ((bt t171 2) == 48)) = true then (if 0 ≤ 2 then (if 2 ≤ (t171.size : Int) then (some ((t171.extract 0 2).toList == ([48, 120] : List UInt8))) else (none)) else (none)) else (none)) else (none)) else (none)) else (none)) else (none)) else (none)) else (none)) else (none)) else (none)))))))) = some r := H
  have A2 := Aside0.mk A20
  clear A20
  replace H := Option.bind_eq_some_iff.mp H
  obtain ⟨t171, A30, H⟩ := H
  replace H : ((num_Value.f t170).bind fun bt172 => ((num_Value.f t171).bind fun bt174 => (if t170.toList = ([] : List UInt8) then (none) else (if (t171.size : Int) < 3 then (none) else ((cleatlaw10_counted.f k).bind fun t176 => (if t176 = true then (if bt172.2 = 0 then (if bt172.1 = a0 then (if bt174.2 = 0 then (if bt174.1 = a0 then (if 0 < (t170.size : Int) then (if ((a0 == 0) == ((bt t170 0) == 48)) = true then (if 2 < (t171.size : Int) then (if ((a0 == 0) == ((bt t171 2) == 48)) = true then (if 0 ≤ 2 then (if 2 ≤ (t171.size : Int) then (some ((t171.extract 0 2).toList == ([48, 120] : List UInt8))) else (none)) else (none)) else (none)) else (none)) else (none)) else (none)) else (none)) else (none)) else (none)) else (none)) else (none))))))) = some r := H
  have A3 := Aside0.mk A30
  clear A30
  replace H := Option.bind_eq_some_iff.mp H
  obtain ⟨⟨t172, t173⟩, A40, H⟩ := H
  replace H : ((num_Value.f t171).bind fun bt174 => (if t170.toList = ([] : List UInt8) then (none) else (if (t171.size : Int) < 3 then (none) else ((cleatlaw10_counted.f k).bind fun t176 => (if t176 = true then (if t173 = 0 then (if t172 = a0 then (if bt174.2 = 0 then (if bt174.1 = a0 then (if 0 < (t170.size : Int) then (if ((a0 == 0) == ((bt t170 0) == 48)) = true then (if 2 < (t171.size : Int) then (if ((a0 == 0) == ((bt t171 2) == 48)) = true then (if 0 ≤ 2 then (if 2 ≤ (t171.size : Int) then (some ((t171.extract 0 2).toList == ([48, 120] : List UInt8))) else (none)) else (none)) else (none)) else (none)) else (none)) else (none)) else (none)) else (none)) else (none)) else (none)) else (none)))))) = some r := H
  have A4 := Aside0.mk A40
  clear A40
  replace H := Option.bind_eq_some_iff.mp H
  obtain ⟨⟨t174, t175⟩, A50, H⟩ := H
  replace H : (if t170.toList = ([] : List UInt8) then (none) else (if (t171.size : Int) < 3 then (none) else ((cleatlaw10_counted.f k).bind fun t176 => (if t176 = true then (if t173 = 0 then (if t172 = a0 then (if t175 = 0 then (if t174 = a0 then (if 0 < (t170.size : Int) then (if ((a0 == 0) == ((bt t170 0) == 48)) = true then (if 2 < (t171.size : Int) then (if ((a0 == 0) == ((bt t171 2) == 48)) = true then (if 0 ≤ 2 then (if 2 ≤ (t171.size : Int) then (some ((t171.extract 0 2).toList == ([48, 120] : List UInt8))) else (none)) else (none)) else (none)) else (none)) else (none)) else (none)) else (none)) else (none)) else (none)) else (none)) else (none))))) = some r := H
  have A5 := Aside0.mk A50
  clear A50
  by_cases c6 : t170.toList = ([] : List UInt8)
  · rw [if_pos c6] at H
    exact absurd H (by simp)
  · rw [if_neg c6] at H
    have c6b0 : (t170.toList == ([] : List UInt8)) = false := beq_eq_false_iff_ne.mpr c6
    have c6b1 : (t170.toList != ([] : List UInt8)) = true := bne_iff_ne.mpr c6
    by_cases c7 : (t171.size : Int) < 3
    · rw [if_pos c7] at H
      exact absurd H (by simp)
    · rw [if_neg c7] at H
      have c7b0 : decide ((t171.size : Int) < 3) = false := decide_eq_false c7
      have c7b1 : decide (t171.size < 3) = false := decide_eq_false (by omega)
      clear c7
      replace H := Option.bind_eq_some_iff.mp H
      obtain ⟨t176, A80, H⟩ := H
      replace H : (if t176 = true then (if t173 = 0 then (if t172 = a0 then (if t175 = 0 then (if t174 = a0 then (if 0 < (t170.size : Int) then (if ((a0 == 0) == ((bt t170 0) == 48)) = true then (if 2 < (t171.size : Int) then (if ((a0 == 0) == ((bt t171 2) == 48)) = true then (if 0 ≤ 2 then (if 2 ≤ (t171.size : Int) then (some ((t171.extract 0 2).toList == ([48, 120] : List UInt8))) else (none)) else (none)) else (none)) else (none)) else (none)) else (none)) else (none)) else (none)) else (none)) else (none)) else (none)) = some r := H
      have A8 := Aside0.mk A80
      clear A80
      by_cases c9 : t176 = true
      · subst c9
        have H1 : (if t173 = 0 then (if t172 = a0 then (if t175 = 0 then (if t174 = a0 then (if 0 < (t170.size : Int) then (if ((a0 == 0) == ((bt t170 0) == 48)) = true then (if 2 < (t171.size : Int) then (if ((a0 == 0) == ((bt t171 2) == 48)) = true then (if 0 ≤ 2 then (if 2 ≤ (t171.size : Int) then (some ((t171.extract 0 2).toList == ([48, 120] : List UInt8))) else (none)) else (none)) else (none)) else (none)) else (none)) else (none)) else (none)) else (none)) else (none)) else (none)) = some r := by rw [if_pos rfl] at H; exact H
        clear H
        have H := H1
        clear H1
        by_cases c10 : t173 = 0
        · rw [if_pos c10] at H
          have c10b0 : (t173 == 0) = true := beq_iff_eq.mpr c10
          have c10b1 : (t173 != 0) = false := bne_eq_false_iff_eq.mpr c10
          clear c10
          by_cases c11 : t172 = a0
          · rw [if_pos c11] at H
            have c11b0 : (t172 == a0) = true := beq_iff_eq.mpr c11
            have c11b1 : (t172 != a0) = false := bne_eq_false_iff_eq.mpr c11
            clear c11
            by_cases c12 : t175 = 0
            · rw [if_pos c12] at H
              have c12b0 : (t175 == 0) = true := beq_iff_eq.mpr c12
              have c12b1 : (t175 != 0) = false := bne_eq_false_iff_eq.mpr c12
              clear c12
              by_cases c13 : t174 = a0
              · rw [if_pos c13] at H
                have c13b0 : (t174 == a0) = true := beq_iff_eq.mpr c13
                have c13b1 : (t174 != a0) = false := bne_eq_false_iff_eq.mpr c13
                clear c13
                by_cases c14 : 0 < (t170.size : Int)
                · rw [if_pos c14] at H
                  have c14b0 : decide (0 < (t170.size : Int)) = true := decide_eq_true c14
                  have c14b1 : decide (0 < t170.size) = true := decide_eq_true (by omega)
                  clear c14
                  by_cases c16 : ((a0 == 0) == ((bt t170 0) == 48)) = true
                  · rw [if_pos c16] at H
                    have c16b0 : ((a0 == 0) == ((bt t170 0) == 48)) = true := c16
                    (try (have c16b1 : decide ((a0 == 0) = ((bt t170 0) == 48)) = true := by simpa using c16))
                    (try (have c16b2 : ((a0 == 0) == ((bt t170 0) == 48)) = true := by simpa using c16))
                    clear c16
                    by_cases c17 : 2 < (t171.size : Int)
                    · rw [if_pos c17] at H
                      have c17b0 : decide (2 < (t171.size : Int)) = true := decide_eq_true c17
                      have c17b1 : decide (2 < t171.size) = true := decide_eq_true (by omega)
                      clear c17
                      by_cases c19 : ((a0 == 0) == ((bt t171 2) == 48)) = true
                      · rw [if_pos c19] at H
                        have c19b0 : ((a0 == 0) == ((bt t171 2) == 48)) = true := c19
                        (try (have c19b1 : decide ((a0 == 0) = ((bt t171 2) == 48)) = true := by simpa using c19))
                        (try (have c19b2 : ((a0 == 0) == ((bt t171 2) == 48)) = true := by simpa using c19))
                        clear c19
                        by_cases c20 : 0 ≤ 2
                        · rw [if_pos c20] at H
                          have c20b0 := eq_true c20
                          have c20b1 : decide (0 ≤ 2) = true := decide_eq_true c20
                          clear c20
                          by_cases c21 : 2 ≤ (t171.size : Int)
                          · rw [if_pos c21] at H
                            have c21b0 := eq_true c21
                            have c21b1 : decide (2 ≤ (t171.size : Int)) = true := decide_eq_true c21
                            clear c21
                            obtain rfl := Option.some.inj H
                            go_enter Tryd.func4, Tryd.ntmps4
                            go_wp2_with (first | ((with_reducible refine gate_callee (f := 17) rfl ?_); refine goesL_ (some 10) rfl rfl Tryd.func17 (by kernel_rfl) rfl #[.int .u64 a0] rfl (by (try simp only [List.map_toArray, List.map_cons, List.map_nil]); first | done | rfl | (simp only [List.length_drop, List.length_take]; rfl)) ?_; (with_reducible refine (num_Text.calls a0 t170 _ A2.out).mono ?_); rintro e w22 ⟨rfl, hb⟩; refine ⟨_, rfl, ?_⟩; have n0_ := Aside0.mk (below_step (by repeat (first | (with_reducible first | exact HB.out | apply below_alloc | apply pw_below_drewN | apply below_drew1) | exact HB.out)) hb); clear HB; have HB := n0_; clear n0_; (try clear hb); (try clear hb2); (try clear hk); (try clear hi)) | ((with_reducible refine gate_callee (f := 19) rfl ?_); refine goesL_ (some 12) rfl rfl Tryd.func19 (by kernel_rfl) rfl #[.int .u64 a0] rfl (by (try simp only [List.map_toArray, List.map_cons, List.map_nil]); first | done | rfl | (simp only [List.length_drop, List.length_take]; rfl)) ?_; (with_reducible refine (num_Hex.calls a0 t171 _ A3.out).mono ?_); rintro e w23 ⟨rfl, hb⟩; refine ⟨_, rfl, ?_⟩; have n0_ := Aside0.mk (below_step (by repeat (first | (with_reducible first | exact HB.out | apply below_alloc | apply pw_below_drewN | apply below_drew1) | exact HB.out)) hb); clear HB; have HB := n0_; clear n0_; (try clear hb); (try clear hb2); (try clear hk); (try clear hi)) | ((with_reducible refine gate_callee (f := 8) rfl ?_); refine goesL_ (some 15) rfl rfl Tryd.func8 (by kernel_rfl) rfl #[.string t170] rfl (by (try simp only [List.map_toArray, List.map_cons, List.map_nil]); first | done | rfl | (simp only [List.length_drop, List.length_take]; rfl)) ?_; (with_reducible refine (num_Value.calls t170 t172 t173 _ A4.out).mono ?_); rintro e w24 ⟨rfl, hb⟩; refine ⟨_, rfl, ?_⟩; have n0_ := Aside0.mk (below_step (by repeat (first | (with_reducible first | exact HB.out | apply below_alloc | apply pw_below_drewN | apply below_drew1) | exact HB.out)) hb); clear HB; have HB := n0_; clear n0_; (try clear hb); (try clear hb2); (try clear hk); (try clear hi)) | ((with_reducible refine gate_callee (f := 8) rfl ?_); refine goesL_ (some 20) rfl rfl Tryd.func8 (by kernel_rfl) rfl #[.string t171] rfl (by (try simp only [List.map_toArray, List.map_cons, List.map_nil]); first | done | rfl | (simp only [List.length_drop, List.length_take]; rfl)) ?_; (with_reducible refine (num_Value.calls t171 t174 t175 _ A5.out).mono ?_); rintro e w25 ⟨rfl, hb⟩; refine ⟨_, rfl, ?_⟩; have n0_ := Aside0.mk (below_step (by repeat (first | (with_reducible first | exact HB.out | apply below_alloc | apply pw_below_drewN | apply below_drew1) | exact HB.out)) hb); clear HB; have HB := n0_; clear n0_; (try clear hb); (try clear hb2); (try clear hk); (try clear hi)) | ((with_reducible refine gate_callee (f := 16) rfl ?_); refine goesL_ (some 30) rfl rfl Tryd.func16 (by kernel_rfl) rfl #[] rfl (by (try simp only [List.map_toArray, List.map_cons, List.map_nil]); first | done | rfl | (simp only [List.length_drop, List.length_take]; rfl)) ?_; (with_reducible refine (cleatlaw10_counted.calls k  true _ A8.out).mono ?_); rintro e w26 ⟨rfl, hb⟩; refine ⟨_, rfl, ?_⟩; have n0_ := Aside0.mk (below_step (by repeat (first | (with_reducible first | exact HB.out | apply below_alloc | apply pw_below_drewN | apply below_drew1) | exact HB.out)) hb); clear HB; have HB := n0_; clear n0_; (try clear hb); (try clear hb2); (try clear hk); (try clear hi); have p15 : 0 ≤ (0 : Int) := (by omega); have q15 : 0 < t170.size := (by have : (0 : Int) < (t170.size : Int) := of_decide_eq_true (by first | (with_reducible assumption) | assumption); omega); have hx15 : ∀ h : 0 < t170.size, ((t170[0]'h).toNat : Int) = bt t170 0 := bt_at t170 0; clear p15; have qi15 : (0 < (t170.size : Int)) = True := eq_true (of_decide_eq_true (by first | (with_reducible assumption) | assumption)); replace q15 := eq_true q15; have p18 : 0 ≤ (2 : Int) := (by omega); have q18 : 2 < t171.size := (by have : (2 : Int) < (t171.size : Int) := of_decide_eq_true (by first | (with_reducible assumption) | assumption); omega); have hx18 : ∀ h : 2 < t171.size, ((t171[2]'h).toNat : Int) = bt t171 2 := bt_at t171 2; clear p18; have qi18 : (2 < (t171.size : Int)) = True := eq_true (of_decide_eq_true (by first | (with_reducible assumption) | assumption)); replace q18 := eq_true q18))
                            go_ret
                            exact ⟨by first | rfl | (simp [errW_none, errW_some] <;> rfl) | (simp [*, errW_none, errW_some] <;> rfl), by repeat (first | (with_reducible first | exact HB.out | apply below_alloc | apply pw_below_drewN | apply below_drew1) | exact HB.out)⟩
                          · rw [if_neg c21] at H
                            exact absurd H (by simp)
                        · rw [if_neg c20] at H
                          exact absurd H (by simp)
                      · rw [if_neg c19] at H
                        exact absurd H (by simp)
                    · rw [if_neg c17] at H
                      exact absurd H (by simp)
                  · rw [if_neg c16] at H
                    exact absurd H (by simp)
                · rw [if_neg c14] at H
                  exact absurd H (by simp)
              · rw [if_neg c13] at H
                exact absurd H (by simp)
            · rw [if_neg c12] at H
              exact absurd H (by simp)
          · rw [if_neg c11] at H
            exact absurd H (by simp)
        · rw [if_neg c10] at H
          exact absurd H (by simp)
      · replace c9 := Bool.eq_false_iff.mpr c9
        subst c9
        have H1 : (none) = some r := by rw [if_neg (show ¬ (false = true) by decide)] at H; exact H
        clear H
        have H := H1
        clear H1
        exact absurd H (by simp)

/-- THE ONE PURE STATEMENT of cleatlaw10_NumBack: yours. -/
def cleatlaw10_NumBack.Pure : Prop := ∀ (a0 : Int), (Lit.int .u64 a0).wf = true → ∃ k, cleatlaw10_NumBack.f k a0 = some true
theorem cleatlaw10_NumBack.walk (P : cleatlaw10_NumBack.Pure) (a0 : Int) (w : World) (w0 : (Lit.int .u64 a0).wf = true) (hTab : TabW w) :
    Calls Tryd.prog 4 #[.int .u64 a0] w fun e w' => e = .returned (.bool true) ∧ Below w.heap.size w w' := by
  obtain ⟨k, h⟩ := P a0 w0
  refine (cleatlaw10_NumBack.calls k a0 true w h).mono ?_
  rintro e w' ⟨rfl, hd⟩
  exact ⟨rfl, hd⟩

end Go.Proofs.YtfajpcinmpbhgaaDoor.P
