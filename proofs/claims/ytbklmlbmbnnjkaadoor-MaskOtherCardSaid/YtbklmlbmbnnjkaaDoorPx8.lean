/- Written for this claim by a program of this session (drive.py, over the print of the kit): Lean functions with the answers of Go functions, and the proofs that the Go code comes to these answers, under no condition but the readings of the arguments that each theorem names. -/
import Derived.Test.YtbklmlbmbnnjkaaDoorPx0
import Derived.Test.YtbklmlbmbnnjkaaDoorPx2
import Derived.Test.YtbklmlbmbnnjkaaDoorPx4
import Derived.Test.YtbklmlbmbnnjkaaDoorPx6
import Derived.Test.YtbklmlbmbnnjkaaDoorPx7
namespace Go.Proofs.YtbklmlbmbnnjkaaDoor.P
open Go.RowKit Go.Proofs.YtbklmlbmbnnjkaaDoorW.PrintWords Go.Proofs.YtbklmlbmbnnjkaaDoorW.PrintLast Go.Proofs.YtbklmlbmbnnjkaaDoorW.PrintMore
attribute [local go_sem] max2_int min2_int max_two min_two max_three min_three max_four min_four   -- for this text's walks alone
set_option linter.unusedVariables false
set_option linter.unusedSimpArgs false

/-! ### cleatlaw02_MaskDoes: function 3 -/
def cleatlaw02_MaskDoes.f (k : Nat) (a0 : Int) (a1 : Int) (a2 : Int) (a3 : Int) : Option (Bool) := (mask_Decode.f k a0 a1 a2).bind fun bt167 => ((cleatref02_Decode.f k a0 a1 a2).bind fun bt169 => ((mask_Encode.f k a3).bind fun bt171 => ((cleatref02_Encode.f k a3).bind fun bt175 => ((cleatlaw02_masked.f k).bind fun t179 => (if t179 = true then (if bt167.1 = bt169.1 then (if bt167.2 = bt169.2 then (if bt171.1 = bt175.1 then (if bt171.2.1 = bt175.2.1 then (if bt171.2.2.1 = bt175.2.2.1 then (if bt171.2.2.2 = bt175.2.2.2 then ((mask_Is.f k a3).bind fun t180 => ((cleatref02_Is.f k a3).bind fun t181 => (if (t180 == t181) = true then ((mask_Size.f k a3).bind fun t182 => ((cleatref02_Size.f k a3).bind fun t183 => (if t182 = t183 then ((mask_Ones.f a3).bind fun t184 => ((cleatref02_Ones.f k a3).bind fun t185 => (some (t184 == t185)))) else (none)))) else (none)))) else (none)) else (none)) else (none)) else (none)) else (none)) else (none)) else (none))))))
theorem cleatlaw02_MaskDoes.mono : ∀ a0 a1 a2 a3 k, LeO (cleatlaw02_MaskDoes.f k a0 a1 a2 a3) (cleatlaw02_MaskDoes.f (k + 1) a0 a1 a2 a3) := by
  intro a0 a1 a2 a3 k
  unfold cleatlaw02_MaskDoes.f
  repeat' first
      | (with_reducible exact cleatlaw02_masked.mono _)
      | (with_reducible exact cleatref02_Decode.mono _ _ _ _)
      | (with_reducible exact cleatref02_Encode.mono _ _)
      | (with_reducible exact cleatref02_Is.mono _ _)
      | (with_reducible exact cleatref02_Ones.mono _ _)
      | (with_reducible exact cleatref02_Size.mono _ _)
      | (with_reducible exact mask_Decode.mono _ _ _ _)
      | (with_reducible exact mask_Encode.mono _ _)
      | (with_reducible exact mask_Is.mono _ _)
      | (with_reducible exact mask_Size.mono _ _)
      | (with_reducible exact LeO.refl _)
      | (with_reducible exact LeO.none _)
      | (with_reducible refine LeO.ite ?_ ?_)
      | (with_reducible refine LeO.bind ?_ (fun _ => ?_))
      | exact cleatlaw02_masked.mono _
      | exact cleatref02_Decode.mono _ _ _ _
      | exact cleatref02_Encode.mono _ _
      | exact cleatref02_Is.mono _ _
      | exact cleatref02_Ones.mono _ _
      | exact cleatref02_Size.mono _ _
      | exact mask_Decode.mono _ _ _ _
      | exact mask_Encode.mono _ _
      | exact mask_Is.mono _ _
      | exact mask_Size.mono _ _
      | exact LeO.none _
      | refine LeO.ite ?_ ?_
      | refine LeO.bind ?_ (fun _ => ?_)
set_option maxHeartbeats 8000000 in
set_option maxRecDepth 100000 in
theorem cleatlaw02_MaskDoes.calls (k : Nat) (a0 : Int) (a1 : Int) (a2 : Int) (a3 : Int) (r : Bool) (w : World) (h : cleatlaw02_MaskDoes.f k a0 a1 a2 a3 = some r) (hTab : TabW w := by first | exact hTab | exact TabW.drew hTab | exact TabW.drewN hTab _ | exact TabW.below hTab (by repeat (first | (with_reducible first | exact HB.out | apply below_alloc | apply pw_below_drewN | apply below_drew1) | exact HB.out | exact Below.refl _ _))) :
    Calls Tryd.prog 3 #[.int .i64 a0, .int .i64 a1, .int .i64 a2, .int .u64 a3] w fun e w' => e = .returned (.bool r) ∧ Below w.heap.size w w' := by
  have HB := Aside0.mk (Below.refl w.heap.size w)
  have H : ((mask_Decode.f k a0 a1 a2).bind fun bt167 => ((cleatref02_Decode.f k a0 a1 a2).bind fun bt169 => ((mask_Encode.f k a3).bind fun bt171 => ((cleatref02_Encode.f k a3).bind fun bt175 => ((cleatlaw02_masked.f k).bind fun t179 => (if t179 = true then (if bt167.1 = bt169.1 then (if bt167.2 = bt169.2 then (if bt171.1 = bt175.1 then (if bt171.2.1 = bt175.2.1 then (if bt171.2.2.1 = bt175.2.2.1 then (if bt171.2.2.2 = bt175.2.2.2 then ((mask_Is.f k a3).bind fun t180 => ((cleatref02_Is.f k a3).bind fun t181 => (if (t180 == t181) = true then ((mask_Size.f k a3).bind fun t182 => ((cleatref02_Size.f k a3).bind fun t183 => (if t182 = t183 then ((mask_Ones.f a3).bind fun t184 => ((cleatref02_Ones.f k a3).bind fun t185 => (some (t184 == t185)))) else (none)))) else (none)))) else (none)) else (none)) else (none)) else (none)) else (none)) else (none)) else (none))))))) = some r := h
  clear h
  replace H := Option.bind_eq_some_iff.mp H
  obtain ⟨⟨t167, t168⟩, A50, H⟩ := H
  replace H : ((cleatref02_Decode.f k a0 a1 a2).bind fun bt169 => ((mask_Encode.f k a3).bind fun bt171 => ((cleatref02_Encode.f k a3).bind fun bt175 => ((cleatlaw02_masked.f k).bind fun t179 => (if t179 = true then (if t167 = bt169.1 then (if t168 = bt169.2 then (if bt171.1 = bt175.1 then (if bt171.2.1 = bt175.2.1 then (if bt171.2.2.1 = bt175.2.2.1 then (if bt171.2.2.2 = bt175.2.2.2 then ((mask_Is.f k a3).bind fun t180 => ((cleatref02_Is.f k a3).bind fun t181 => (if (t180 == t181) = true then ((mask_Size.f k a3).bind fun t182 => ((cleatref02_Size.f k a3).bind fun t183 => (if t182 = t183 then ((mask_Ones.f a3).bind fun t184 => ((cleatref02_Ones.f k a3).bind fun t185 => (some (t184 == t185)))) else (none)))) else (none)))) else (none)) else (none)) else (none)) else (none)) else (none)) else (none)) else (none)))))) = some r := H
  have A5 := Aside0.mk A50
  clear A50
  replace H := Option.bind_eq_some_iff.mp H
  obtain ⟨⟨t169, t170⟩, A60, H⟩ := H
  replace H : ((mask_Encode.f k a3).bind fun bt171 => ((cleatref02_Encode.f k a3).bind fun bt175 => ((cleatlaw02_masked.f k).bind fun t179 => (if t179 = true then (if t167 = t169 then (if t168 = t170 then (if bt171.1 = bt175.1 then (if bt171.2.1 = bt175.2.1 then (if bt171.2.2.1 = bt175.2.2.1 then (if bt171.2.2.2 = bt175.2.2.2 then ((mask_Is.f k a3).bind fun t180 => ((cleatref02_Is.f k a3).bind fun t181 => (if (t180 == t181) = true then ((mask_Size.f k a3).bind fun t182 => ((cleatref02_Size.f k a3).bind fun t183 => (if t182 = t183 then ((mask_Ones.f a3).bind fun t184 => ((cleatref02_Ones.f k a3).bind fun t185 => (some (t184 == t185)))) else (none)))) else (none)))) else (none)) else (none)) else (none)) else (none)) else (none)) else (none)) else (none))))) = some r := H
  have A6 := Aside0.mk A60
  clear A60
  replace H := Option.bind_eq_some_iff.mp H
  obtain ⟨⟨t171, t172, t173, t174⟩, A70, H⟩ := H
  replace H : ((cleatref02_Encode.f k a3).bind fun bt175 => ((cleatlaw02_masked.f k).bind fun t179 => (if t179 = true then (if t167 = t169 then (if t168 = t170 then (if t171 = bt175.1 then (if t172 = bt175.2.1 then (if t173 = bt175.2.2.1 then (if t174 = bt175.2.2.2 then ((mask_Is.f k a3).bind fun t180 => ((cleatref02_Is.f k a3).bind fun t181 => (if (t180 == t181) = true then ((mask_Size.f k a3).bind fun t182 => ((cleatref02_Size.f k a3).bind fun t183 => (if t182 = t183 then ((mask_Ones.f a3).bind fun t184 => ((cleatref02_Ones.f k a3).bind fun t185 => (some (t184 == t185)))) else (none)))) else (none)))) else (none)) else (none)) else (none)) else (none)) else (none)) else (none)) else (none)))) = some r := H
  have A7 := Aside0.mk A70
  clear A70
  replace H := Option.bind_eq_some_iff.mp H
  obtain ⟨⟨t175, t176, t177, t178⟩, A80, H⟩ := H
  replace H : ((cleatlaw02_masked.f k).bind fun t179 => (if t179 = true then (if t167 = t169 then (if t168 = t170 then (if t171 = t175 then (if t172 = t176 then (if t173 = t177 then (if t174 = t178 then ((mask_Is.f k a3).bind fun t180 => ((cleatref02_Is.f k a3).bind fun t181 => (if (t180 == t181) = true then ((mask_Size.f k a3).bind fun t182 => ((cleatref02_Size.f k a3).bind fun t183 => (if t182 = t183 then ((mask_Ones.f a3).bind fun t184 => ((cleatref02_Ones.f k a3).bind fun t185 => (some (t184 == t185)))) else (none)))) else (none)))) else (none)) else (none)) else (none)) else (none)) else (none)) else (none)) else (none))) = some r := H
  have A8 := Aside0.mk A80
  clear A80
  replace H := Option.bind_eq_some_iff.mp H
  obtain ⟨t179, A90, H⟩ := H
  replace H : (if t179 = true then (if t167 = t169 then (if t168 = t170 then (if t171 = t175 then (if t172 = t176 then (if t173 = t177 then (if t174 = t178 then ((mask_Is.f k a3).bind fun t180 => ((cleatref02_Is.f k a3).bind fun t181 => (if (t180 == t181) = true then ((mask_Size.f k a3).bind fun t182 => ((cleatref02_Size.f k a3).bind fun t183 => (if t182 = t183 then ((mask_Ones.f a3).bind fun t184 => ((cleatref02_Ones.f k a3).bind fun t185 => (some (t184 == t185)))) else (none)))) else (none)))) else (none)) else (none)) else (none)) else (none)) else (none)) else (none)) else (none)) = some r := H
  have A9 := Aside0.mk A90
  clear A90
  by_cases c10 : t179 = true
  · subst c10
    have H1 : (if t167 = t169 then (if t168 = t170 then (if t171 = t175 then (if t172 = t176 then (if t173 = t177 then (if t174 = t178 then ((mask_Is.f k a3).bind fun t180 => ((cleatref02_Is.f k a3).bind fun t181 => (if (t180 == t181) = true then ((mask_Size.f k a3).bind fun t182 => ((cleatref02_Size.f k a3).bind fun t183 => (if t182 = t183 then ((mask_Ones.f a3).bind fun t184 => ((cleatref02_Ones.f k a3).bind fun t185 => (some (t184 == t185)))) else (none)))) else (none)))) else (none)) else (none)) else (none)) else (none)) else (none)) else (none)) = some r := by rw [if_pos rfl] at H; exact H
    clear H
    have H := H1
    clear H1
    by_cases c11 : t167 = t169
    · rw [if_pos c11] at H
      have c11b0 : (t167 == t169) = true := beq_iff_eq.mpr c11
      have c11b1 : (t167 != t169) = false := bne_eq_false_iff_eq.mpr c11
      clear c11
      by_cases c12 : t168 = t170
      · rw [if_pos c12] at H
        have c12b0 : (t168 == t170) = true := beq_iff_eq.mpr c12
        have c12b1 : (t168 != t170) = false := bne_eq_false_iff_eq.mpr c12
        clear c12
        by_cases c13 : t171 = t175
        · rw [if_pos c13] at H
          have c13b0 : (t171 == t175) = true := beq_iff_eq.mpr c13
          have c13b1 : (t171 != t175) = false := bne_eq_false_iff_eq.mpr c13
          clear c13
          by_cases c14 : t172 = t176
          · rw [if_pos c14] at H
            have c14b0 : (t172 == t176) = true := beq_iff_eq.mpr c14
            have c14b1 : (t172 != t176) = false := bne_eq_false_iff_eq.mpr c14
            clear c14
            by_cases c15 : t173 = t177
            · rw [if_pos c15] at H
              have c15b0 : (t173 == t177) = true := beq_iff_eq.mpr c15
              have c15b1 : (t173 != t177) = false := bne_eq_false_iff_eq.mpr c15
              clear c15
              by_cases c16 : t174 = t178
              · rw [if_pos c16] at H
                have c16b0 : (t174 == t178) = true := beq_iff_eq.mpr c16
                have c16b1 : (t174 != t178) = false := bne_eq_false_iff_eq.mpr c16
                clear c16
                replace H := Option.bind_eq_some_iff.mp H
                obtain ⟨t180, A170, H⟩ := H
                replace H : ((cleatref02_Is.f k a3).bind fun t181 => (if (t180 == t181) = true then ((mask_Size.f k a3).bind fun t182 => ((cleatref02_Size.f k a3).bind fun t183 => (if t182 = t183 then ((mask_Ones.f a3).bind fun t184 => ((cleatref02_Ones.f k a3).bind fun t185 => (some (t184 == t185)))) else (none)))) else (none))) = some r := H
                have A17 := Aside0.mk A170
                clear A170
                replace H := Option.bind_eq_some_iff.mp H
                obtain ⟨t181, A180, H⟩ := H
                replace H : (if (t180 == t181) = true then ((mask_Size.f k a3).bind fun t182 => ((cleatref02_Size.f k a3).bind fun t183 => (if t182 = t183 then ((mask_Ones.f a3).bind fun t184 => ((cleatref02_Ones.f k a3).bind fun t185 => (some (t184 == t185)))) else (none)))) else (none)) = some r := H
                have A18 := Aside0.mk A180
                clear A180
                by_cases c19 : (t180 == t181) = true
                · rw [if_pos c19] at H
                  have c19b0 : (t180 == t181) = true := c19
                  (try (have c19b1 : decide (t180 = t181) = true := by simpa using c19))
                  (try (have c19b2 : (t180 == t181) = true := by simpa using c19))
                  clear c19
                  replace H := Option.bind_eq_some_iff.mp H
                  obtain ⟨t182, A200, H⟩ := H
                  replace H : ((cleatref02_Size.f k a3).bind fun t183 => (if t182 = t183 then ((mask_Ones.f a3).bind fun t184 => ((cleatref02_Ones.f k a3).bind fun t185 => (some (t184 == t185)))) else (none))) = some r := H
                  have A20 := Aside0.mk A200
                  clear A200
                  replace H := Option.bind_eq_some_iff.mp H
                  obtain ⟨t183, A210, H⟩ := H
                  replace H : (if t182 = t183 then ((mask_Ones.f a3).bind fun t184 => ((cleatref02_Ones.f k a3).bind fun t185 => (some (t184 == t185)))) else (none)) = some r := H
                  have A21 := Aside0.mk A210
                  clear A210
                  by_cases c22 : t182 = t183
                  · rw [if_pos c22] at H
                    have c22b0 : (t182 == t183) = true := beq_iff_eq.mpr c22
                    have c22b1 : (t182 != t183) = false := bne_eq_false_iff_eq.mpr c22
                    clear c22
                    replace H := Option.bind_eq_some_iff.mp H
                    obtain ⟨t184, A230, H⟩ := H
                    replace H : ((cleatref02_Ones.f k a3).bind fun t185 => (some (t184 == t185))) = some r := H
                    have A23 := Aside0.mk A230
                    clear A230
                    replace H := Option.bind_eq_some_iff.mp H
                    obtain ⟨t185, A240, H⟩ := H
                    replace H : (some (t184 == t185)) = some r := H
                    have A24 := Aside0.mk A240
                    clear A240
                    obtain rfl := Option.some.inj H
                    go_enter Tryd.func3, Tryd.ntmps3
                    go_wp2_with (first | ((with_reducible refine gate_callee (f := 14) rfl ?_); refine goesL_ (some 25) rfl rfl Tryd.func14 (by kernel_rfl) rfl #[.int .i64 a0, .int .i64 a1, .int .i64 a2] rfl (by (try simp only [List.map_toArray, List.map_cons, List.map_nil]); first | done | rfl | (simp only [List.length_drop, List.length_take]; rfl)) ?_; (with_reducible refine (mask_Decode.calls k a0 a1 a2 t167 t168 _ A5.out).mono ?_); rintro e w25 ⟨rfl, hb⟩; refine ⟨_, rfl, ?_⟩; have n0_ := Aside0.mk (below_step (by repeat (first | (with_reducible first | exact HB.out | apply below_alloc | apply pw_below_drewN | apply below_drew1) | exact HB.out)) hb); clear HB; have HB := n0_; clear n0_; (try clear hb); (try clear hb2); (try clear hk); (try clear hi)) | ((with_reducible refine gate_callee (f := 15) rfl ?_); refine goesL_ (some 32) rfl rfl Tryd.func15 (by kernel_rfl) rfl #[.int .i64 a0, .int .i64 a1, .int .i64 a2] rfl (by (try simp only [List.map_toArray, List.map_cons, List.map_nil]); first | done | rfl | (simp only [List.length_drop, List.length_take]; rfl)) ?_; (with_reducible refine (cleatref02_Decode.calls k a0 a1 a2 t169 t170 _ A6.out).mono ?_); rintro e w' ⟨rfl, ⟨nd, rfl⟩⟩; refine ⟨_, rfl, ?_⟩) | ((with_reducible refine gate_callee (f := 16) rfl ?_); refine goesL_ (some 37) rfl rfl Tryd.func16 (by kernel_rfl) rfl #[.int .u64 a3] rfl (by (try simp only [List.map_toArray, List.map_cons, List.map_nil]); first | done | rfl | (simp only [List.length_drop, List.length_take]; rfl)) ?_; (with_reducible refine (mask_Encode.calls k a3 t171 t172 t173 t174 _ A7.out).mono ?_); rintro e w26 ⟨rfl, hb⟩; refine ⟨_, rfl, ?_⟩; have n0_ := Aside0.mk (below_step (by repeat (first | (with_reducible first | exact HB.out | apply below_alloc | apply pw_below_drewN | apply below_drew1) | exact HB.out)) hb); clear HB; have HB := n0_; clear n0_; (try clear hb); (try clear hb2); (try clear hk); (try clear hi)) | ((with_reducible refine gate_callee (f := 17) rfl ?_); refine goesL_ (some 44) rfl rfl Tryd.func17 (by kernel_rfl) rfl #[.int .u64 a3] rfl (by (try simp only [List.map_toArray, List.map_cons, List.map_nil]); first | done | rfl | (simp only [List.length_drop, List.length_take]; rfl)) ?_; (with_reducible refine (cleatref02_Encode.calls k a3 t175 t176 t177 t178 _ A8.out).mono ?_); rintro e w' ⟨rfl, ⟨nd, rfl⟩⟩; refine ⟨_, rfl, ?_⟩) | ((with_reducible refine gate_callee (f := 18) rfl ?_); refine goesL_ (some 49) rfl rfl Tryd.func18 (by kernel_rfl) rfl #[] rfl (by (try simp only [List.map_toArray, List.map_cons, List.map_nil]); first | done | rfl | (simp only [List.length_drop, List.length_take]; rfl)) ?_; (with_reducible refine (cleatlaw02_masked.calls k  true _ A9.out).mono ?_); rintro e w27 ⟨rfl, hb⟩; refine ⟨_, rfl, ?_⟩; have n0_ := Aside0.mk (below_step (by repeat (first | (with_reducible first | exact HB.out | apply below_alloc | apply pw_below_drewN | apply below_drew1) | exact HB.out)) hb); clear HB; have HB := n0_; clear n0_; (try clear hb); (try clear hb2); (try clear hk); (try clear hi)) | (go_at_call 19; (with_reducible refine (mask_Is.calls k a3 t180 _ A17.out).mono ?_); rintro e w28 ⟨rfl, hb⟩; have n0_ := Aside0.mk (below_step (by repeat (first | (with_reducible first | exact HB.out | apply below_alloc | apply pw_below_drewN | apply below_drew1) | exact HB.out)) hb); clear HB; have HB := n0_; clear n0_; (try clear hb); (try clear hb2); (try clear hk); (try clear hi)) | (go_at_call 20; (with_reducible refine (cleatref02_Is.calls k a3 t181 _ A18.out).mono ?_); rintro e w' ⟨rfl, ⟨nd, rfl⟩⟩) | (go_at_call 21; (with_reducible refine (mask_Size.calls k a3 t182 _ A20.out).mono ?_); rintro e w29 ⟨rfl, hb⟩; have n0_ := Aside0.mk (below_step (by repeat (first | (with_reducible first | exact HB.out | apply below_alloc | apply pw_below_drewN | apply below_drew1) | exact HB.out)) hb); clear HB; have HB := n0_; clear n0_; (try clear hb); (try clear hb2); (try clear hk); (try clear hi)) | (go_at_call 22; (with_reducible refine (cleatref02_Size.calls k a3 t183 _ A21.out).mono ?_); rintro e w' ⟨rfl, ⟨nd, rfl⟩⟩) | (go_at_call 23; (with_reducible refine (mask_Ones.calls a3 t184 _ A23.out).mono ?_); rintro e w' ⟨rfl, ⟨nd, rfl⟩⟩) | (go_at_call 24; (with_reducible refine (cleatref02_Ones.calls k a3 t185 _ A24.out).mono ?_); rintro e w' ⟨rfl, ⟨nd, rfl⟩⟩))
                    go_ret
                    exact ⟨by first | rfl | (simp [errW_none, errW_some] <;> rfl) | (simp [*, errW_none, errW_some] <;> rfl), by repeat (first | (with_reducible first | exact HB.out | apply below_alloc | apply pw_below_drewN | apply below_drew1) | exact HB.out)⟩
                  · rw [if_neg c22] at H
                    exact absurd H (by simp)
                · rw [if_neg c19] at H
                  exact absurd H (by simp)
              · rw [if_neg c16] at H
                exact absurd H (by simp)
            · rw [if_neg c15] at H
              exact absurd H (by simp)
          · rw [if_neg c14] at H
            exact absurd H (by simp)
        · rw [if_neg c13] at H
          exact absurd H (by simp)
      · rw [if_neg c12] at H
        exact absurd H (by simp)
    · rw [if_neg c11] at H
      exact absurd H (by simp)
  · replace c10 := Bool.eq_false_iff.mpr c10
    subst c10
    have H1 : (none) = some r := by rw [if_neg (show ¬ (false = true) by decide)] at H; exact H
    clear H
    have H := H1
    clear H1
    exact absurd H (by simp)

/-- THE ONE PURE STATEMENT of cleatlaw02_MaskDoes: yours. -/
def cleatlaw02_MaskDoes.Pure : Prop := ∀ (a0 : Int) (a1 : Int) (a2 : Int) (a3 : Int), (Lit.int .i64 a0).wf = true → (Lit.int .i64 a1).wf = true → (Lit.int .i64 a2).wf = true → (Lit.int .u64 a3).wf = true → ∃ k, cleatlaw02_MaskDoes.f k a0 a1 a2 a3 = some true
theorem cleatlaw02_MaskDoes.walk (P : cleatlaw02_MaskDoes.Pure) (a0 : Int) (a1 : Int) (a2 : Int) (a3 : Int) (w : World) (w0 : (Lit.int .i64 a0).wf = true) (w1 : (Lit.int .i64 a1).wf = true) (w2 : (Lit.int .i64 a2).wf = true) (w3 : (Lit.int .u64 a3).wf = true) (hTab : TabW w) :
    Calls Tryd.prog 3 #[.int .i64 a0, .int .i64 a1, .int .i64 a2, .int .u64 a3] w fun e w' => e = .returned (.bool true) ∧ Below w.heap.size w w' := by
  obtain ⟨k, h⟩ := P a0 a1 a2 a3 w0 w1 w2 w3
  refine (cleatlaw02_MaskDoes.calls k a0 a1 a2 a3 true w h).mono ?_
  rintro e w' ⟨rfl, hd⟩
  exact ⟨rfl, hd⟩

/-! ### cleatlaw02_MaskBack: function 4 -/
def cleatlaw02_MaskBack.j0 : Nat → Int → Option (Bool)
  | 0, _ => none
  | k + 1, x3 => (mask_Encode.f k x3).bind fun bt193 => (if bt193.2.2.2 = 0 then ((mask_Decode.f k bt193.1 bt193.2.1 bt193.2.2.1).bind fun bt197 => ((cleatlaw02_masked.f k).bind fun t199 => (if t199 = true then (if bt197.2 = 0 then (if bt197.1 = x3 then ((mask_Is.f k x3).bind fun t200 => (some t200)) else (none)) else (none)) else (none)))) else ((cleatlaw02_masked.f k).bind fun t201 => (if t201 = true then ((mask_Is.f k x3).bind fun t202 => (if t202 = true then (none) else (if bt193.1 = 0 then (if bt193.2.1 = 0 then (some (bt193.2.2.1 == 0)) else (none)) else (none)))) else (none))))
def cleatlaw02_MaskBack.f (k : Nat) (a0 : Int) (a1 : Int) (a2 : Int) (a3 : Int) : Option (Bool) := (mask_Decode.f k a0 a1 a2).bind fun bt186 => (if bt186.2 = 0 then ((mask_Encode.f k bt186.1).bind fun bt188 => (if bt188.2.2.2 = 0 then (if bt188.1 = a0 then (if bt188.2.1 = a1 then (if bt188.2.2.1 = a2 then ((mask_Is.f k bt186.1).bind fun t192 => (if t192 = true then (cleatlaw02_MaskBack.j0 k a3) else (none))) else (none)) else (none)) else (none)) else (none))) else (cleatlaw02_MaskBack.j0 k a3))
theorem cleatlaw02_MaskBack.mono_l : ∀ k, (∀ y0, LeO (cleatlaw02_MaskBack.j0 k y0) (cleatlaw02_MaskBack.j0 (k + 1) y0))
  | 0 => fun _ r h => by simp [cleatlaw02_MaskBack.j0] at h
  | k + 1 => by
    have ih0 := cleatlaw02_MaskBack.mono_l k
    · intro y0
      unfold cleatlaw02_MaskBack.j0
      repeat' first
      | (with_reducible exact ih0 _)
      | (with_reducible exact cleatlaw02_masked.mono _)
      | (with_reducible exact mask_Decode.mono _ _ _ _)
      | (with_reducible exact mask_Encode.mono _ _)
      | (with_reducible exact mask_Is.mono _ _)
      | (with_reducible exact LeO.refl _)
      | (with_reducible exact LeO.none _)
      | (with_reducible refine LeO.ite ?_ ?_)
      | (with_reducible refine LeO.bind ?_ (fun _ => ?_))
      | exact ih0 _
      | exact cleatlaw02_masked.mono _
      | exact mask_Decode.mono _ _ _ _
      | exact mask_Encode.mono _ _
      | exact mask_Is.mono _ _
      | exact LeO.none _
      | refine LeO.ite ?_ ?_
      | refine LeO.bind ?_ (fun _ => ?_)
theorem cleatlaw02_MaskBack.mono : ∀ a0 a1 a2 a3 k, LeO (cleatlaw02_MaskBack.f k a0 a1 a2 a3) (cleatlaw02_MaskBack.f (k + 1) a0 a1 a2 a3) := by
  intro a0 a1 a2 a3 k
  have ih0 := cleatlaw02_MaskBack.mono_l k
  unfold cleatlaw02_MaskBack.f
  repeat' first
      | (with_reducible exact ih0 _)
      | (with_reducible exact cleatlaw02_masked.mono _)
      | (with_reducible exact mask_Decode.mono _ _ _ _)
      | (with_reducible exact mask_Encode.mono _ _)
      | (with_reducible exact mask_Is.mono _ _)
      | (with_reducible exact LeO.refl _)
      | (with_reducible exact LeO.none _)
      | (with_reducible refine LeO.ite ?_ ?_)
      | (with_reducible refine LeO.bind ?_ (fun _ => ?_))
      | exact ih0 _
      | exact cleatlaw02_masked.mono _
      | exact mask_Decode.mono _ _ _ _
      | exact mask_Encode.mono _ _
      | exact mask_Is.mono _ _
      | exact LeO.none _
      | refine LeO.ite ?_ ?_
      | refine LeO.bind ?_ (fun _ => ?_)
set_option maxHeartbeats 8000000 in
set_option maxRecDepth 100000 in
theorem cleatlaw02_MaskBack.calls (k : Nat) (a0 : Int) (a1 : Int) (a2 : Int) (a3 : Int) (r : Bool) (w : World) (h : cleatlaw02_MaskBack.f k a0 a1 a2 a3 = some r) (hTab : TabW w := by first | exact hTab | exact TabW.drew hTab | exact TabW.drewN hTab _ | exact TabW.below hTab (by repeat (first | (with_reducible first | exact HB.out | apply below_alloc | apply pw_below_drewN | apply below_drew1) | exact HB.out | exact Below.refl _ _))) :
    Calls Tryd.prog 4 #[.int .i64 a0, .int .i64 a1, .int .i64 a2, .int .u64 a3] w fun e w' => e = .returned (.bool r) ∧ Below w.heap.size w w' := by
  have HB := Aside0.mk (Below.refl w.heap.size w)
  have H : ((mask_Decode.f k a0 a1 a2).bind fun bt186 => (if bt186.2 = 0 then ((mask_Encode.f k bt186.1).bind fun bt188 => (if bt188.2.2.2 = 0 then (if bt188.1 = a0 then (if bt188.2.1 = a1 then (if bt188.2.2.1 = a2 then ((mask_Is.f k bt186.1).bind fun t192 => (if t192 = true then (cleatlaw02_MaskBack.j0 k a3) else (none))) else (none)) else (none)) else (none)) else (none))) else (cleatlaw02_MaskBack.j0 k a3))) = some r := h
  clear h
  replace H := Option.bind_eq_some_iff.mp H
  obtain ⟨⟨t186, t187⟩, A50, H⟩ := H
  replace H : (if t187 = 0 then ((mask_Encode.f k t186).bind fun bt188 => (if bt188.2.2.2 = 0 then (if bt188.1 = a0 then (if bt188.2.1 = a1 then (if bt188.2.2.1 = a2 then ((mask_Is.f k t186).bind fun t192 => (if t192 = true then (cleatlaw02_MaskBack.j0 k a3) else (none))) else (none)) else (none)) else (none)) else (none))) else (cleatlaw02_MaskBack.j0 k a3)) = some r := H
  have A5 := Aside0.mk A50
  clear A50
  have HC6 := Aside0.mk H
  clear H
  go_enter Tryd.func4, Tryd.ntmps4
  go_upto_if 29 with (first | ((with_reducible refine gate_callee (f := 14) rfl ?_); refine goesL_ (some 25) rfl rfl Tryd.func14 (by kernel_rfl) rfl #[.int .i64 a0, .int .i64 a1, .int .i64 a2] rfl (by (try simp only [List.map_toArray, List.map_cons, List.map_nil]); first | done | rfl | (simp only [List.length_drop, List.length_take]; rfl)) ?_; (with_reducible refine (mask_Decode.calls k a0 a1 a2 t186 t187 _ A5.out).mono ?_); rintro e w7 ⟨rfl, hb⟩; refine ⟨_, rfl, ?_⟩; have n0_ := Aside0.mk (below_step (by repeat (first | (with_reducible first | exact HB.out | apply below_alloc | apply pw_below_drewN | apply below_drew1) | exact HB.out)) hb); clear HB; have HB := n0_; clear n0_; (try clear hb); (try clear hb2); (try clear hk); (try clear hi)))
  (try simp only [Act.put, List.setIfInBounds_toArray, List.set_cons_zero, List.set_cons_succ])
  go_cut [] (fun wc => ∃ (kq : Nat), Aside0 (cleatlaw02_MaskBack.j0 kq a3 = some r) ∧ Aside0 (kq ≤ k) ∧ Aside0 (Below w.heap.size w wc))
  case first =>
    have H := HC6.out
    clear HC6
    by_cases c8 : t187 = 0
    · rw [if_pos c8] at H
      have c8b0 : (t187 == 0) = true := beq_iff_eq.mpr c8
      have c8b1 : (t187 != 0) = false := bne_eq_false_iff_eq.mpr c8
      clear c8
      (first | rw [c8b0] | (simp only [i64_w, i32_w]; rw [c8b0]) | skip)
      replace H := Option.bind_eq_some_iff.mp H
      obtain ⟨⟨t188, t189, t190, t191⟩, A90, H⟩ := H
      replace H : (if t191 = 0 then (if t188 = a0 then (if t189 = a1 then (if t190 = a2 then ((mask_Is.f k t186).bind fun t192 => (if t192 = true then (cleatlaw02_MaskBack.j0 k a3) else (none))) else (none)) else (none)) else (none)) else (none)) = some r := H
      have A9 := Aside0.mk A90
      clear A90
      by_cases c10 : t191 = 0
      · rw [if_pos c10] at H
        have c10b0 : (t191 == 0) = true := beq_iff_eq.mpr c10
        have c10b1 : (t191 != 0) = false := bne_eq_false_iff_eq.mpr c10
        clear c10
        by_cases c11 : t188 = a0
        · rw [if_pos c11] at H
          have c11b0 : (t188 == a0) = true := beq_iff_eq.mpr c11
          have c11b1 : (t188 != a0) = false := bne_eq_false_iff_eq.mpr c11
          clear c11
          by_cases c12 : t189 = a1
          · rw [if_pos c12] at H
            have c12b0 : (t189 == a1) = true := beq_iff_eq.mpr c12
            have c12b1 : (t189 != a1) = false := bne_eq_false_iff_eq.mpr c12
            clear c12
            by_cases c13 : t190 = a2
            · rw [if_pos c13] at H
              have c13b0 : (t190 == a2) = true := beq_iff_eq.mpr c13
              have c13b1 : (t190 != a2) = false := bne_eq_false_iff_eq.mpr c13
              clear c13
              replace H := Option.bind_eq_some_iff.mp H
              obtain ⟨t192, A140, H⟩ := H
              replace H : (if t192 = true then (cleatlaw02_MaskBack.j0 k a3) else (none)) = some r := H
              have A14 := Aside0.mk A140
              clear A140
              by_cases c15 : t192 = true
              · subst c15
                have H1 : (cleatlaw02_MaskBack.j0 k a3) = some r := by rw [if_pos rfl] at H; exact H
                clear H
                have H := H1
                clear H1
                have H' := Aside0.mk H
                clear H
                go_wp2_with (first | ((with_reducible refine gate_callee (f := 16) rfl ?_); refine goesL_ (some 32) rfl rfl Tryd.func16 (by kernel_rfl) rfl #[.int .u64 t186] rfl (by (try simp only [List.map_toArray, List.map_cons, List.map_nil]); first | done | rfl | (simp only [List.length_drop, List.length_take]; rfl)) ?_; (with_reducible refine (mask_Encode.calls k t186 t188 t189 t190 t191 _ A9.out).mono ?_); rintro e w16 ⟨rfl, hb⟩; refine ⟨_, rfl, ?_⟩; have n0_ := Aside0.mk (below_step (by repeat (first | (with_reducible first | exact HB.out | apply below_alloc | apply pw_below_drewN | apply below_drew1) | exact HB.out)) hb); clear HB; have HB := n0_; clear n0_; (try clear hb); (try clear hb2); (try clear hk); (try clear hi)) | (go_at_call 19; (with_reducible refine (mask_Is.calls k t186 true _ A14.out).mono ?_); rintro e w17 ⟨rfl, hb⟩; have n0_ := Aside0.mk (below_step (by repeat (first | (with_reducible first | exact HB.out | apply below_alloc | apply pw_below_drewN | apply below_drew1) | exact HB.out)) hb); clear HB; have HB := n0_; clear n0_; (try clear hb); (try clear hb2); (try clear hk); (try clear hi)))
                go_meet
                case rel => exact ⟨_, H', ⟨by first | omega | exact Nat.le_refl _⟩, ⟨by repeat (first | (with_reducible first | exact HB.out | apply below_alloc | apply pw_below_drewN | apply below_drew1) | exact HB.out)⟩⟩
              · replace c15 := Bool.eq_false_iff.mpr c15
                subst c15
                have H1 : (none) = some r := by rw [if_neg (show ¬ (false = true) by decide)] at H; exact H
                clear H
                have H := H1
                clear H1
                exact absurd H (by simp)
            · rw [if_neg c13] at H
              exact absurd H (by simp)
          · rw [if_neg c12] at H
            exact absurd H (by simp)
        · rw [if_neg c11] at H
          exact absurd H (by simp)
      · rw [if_neg c10] at H
        exact absurd H (by simp)
    · rw [if_neg c8] at H
      have c8b0 : (t187 == 0) = false := beq_eq_false_iff_ne.mpr c8
      have c8b1 : (t187 != 0) = true := bne_iff_ne.mpr c8
      (first | rw [c8b0] | (simp only [i64_w, i32_w]; rw [c8b0]) | skip)
      have H' := Aside0.mk H
      clear H
      go_wp2
      go_meet
      case rel => exact ⟨_, H', ⟨by first | omega | exact Nat.le_refl _⟩, ⟨by repeat (first | (with_reducible first | exact HB.out | apply below_alloc | apply pw_below_drewN | apply below_drew1) | exact HB.out)⟩⟩
  case rest =>
    clear HC6
    try clear c1
    try clear p2
    try clear c4
    try clear c8
    try clear c8b0
    try clear c8b1
    try clear c10
    try clear c10b0
    try clear c10b1
    try clear c11
    try clear c11b0
    try clear c11b1
    try clear c12
    try clear c12b0
    try clear c12b1
    try clear c13
    try clear c13b0
    try clear c13b1
    try clear c14
    try clear c15
    try clear c16
    obtain ⟨kq, HA, HJ5, HB⟩ := hcut
    cases kq with
    | zero => exact absurd HA.out (by simp [cleatlaw02_MaskBack.j0])
    | succ kj5 =>
      have H := HA.out
      clear HA
      simp only [cleatlaw02_MaskBack.j0] at H
      replace H := Option.bind_eq_some_iff.mp H
      obtain ⟨⟨t193, t194, t195, t196⟩, A180, H⟩ := H
      replace H : (if t196 = 0 then ((mask_Decode.f kj5 t193 t194 t195).bind fun bt197 => ((cleatlaw02_masked.f kj5).bind fun t199 => (if t199 = true then (if bt197.2 = 0 then (if bt197.1 = a3 then ((mask_Is.f kj5 a3).bind fun t200 => (some t200)) else (none)) else (none)) else (none)))) else ((cleatlaw02_masked.f kj5).bind fun t201 => (if t201 = true then ((mask_Is.f kj5 a3).bind fun t202 => (if t202 = true then (none) else (if t193 = 0 then (if t194 = 0 then (some (t195 == 0)) else (none)) else (none)))) else (none)))) = some r := H
      have A18 := Aside0.mk A180
      clear A180
      by_cases c19 : t196 = 0
      · rw [if_pos c19] at H
        have c19b0 : (t196 == 0) = true := beq_iff_eq.mpr c19
        have c19b1 : (t196 != 0) = false := bne_eq_false_iff_eq.mpr c19
        clear c19
        replace H := Option.bind_eq_some_iff.mp H
        obtain ⟨⟨t197, t198⟩, A200, H⟩ := H
        replace H : ((cleatlaw02_masked.f kj5).bind fun t199 => (if t199 = true then (if t198 = 0 then (if t197 = a3 then ((mask_Is.f kj5 a3).bind fun t200 => (some t200)) else (none)) else (none)) else (none))) = some r := H
        have A20 := Aside0.mk A200
        clear A200
        replace H := Option.bind_eq_some_iff.mp H
        obtain ⟨t199, A210, H⟩ := H
        replace H : (if t199 = true then (if t198 = 0 then (if t197 = a3 then ((mask_Is.f kj5 a3).bind fun t200 => (some t200)) else (none)) else (none)) else (none)) = some r := H
        have A21 := Aside0.mk A210
        clear A210
        by_cases c22 : t199 = true
        · subst c22
          have H1 : (if t198 = 0 then (if t197 = a3 then ((mask_Is.f kj5 a3).bind fun t200 => (some t200)) else (none)) else (none)) = some r := by rw [if_pos rfl] at H; exact H
          clear H
          have H := H1
          clear H1
          by_cases c23 : t198 = 0
          · rw [if_pos c23] at H
            have c23b0 : (t198 == 0) = true := beq_iff_eq.mpr c23
            have c23b1 : (t198 != 0) = false := bne_eq_false_iff_eq.mpr c23
            clear c23
            by_cases c24 : t197 = a3
            · rw [if_pos c24] at H
              have c24b0 : (t197 == a3) = true := beq_iff_eq.mpr c24
              have c24b1 : (t197 != a3) = false := bne_eq_false_iff_eq.mpr c24
              clear c24
              replace H := Option.bind_eq_some_iff.mp H
              obtain ⟨t200, A250, H⟩ := H
              replace H : (some t200) = some r := H
              have A25 := Aside0.mk A250
              clear A250
              obtain rfl := Option.some.inj H
              go_wp2_with (first | ((with_reducible refine gate_callee (f := 16) rfl ?_); refine goesL_ (some 61) rfl rfl Tryd.func16 (by kernel_rfl) rfl #[.int .u64 a3] rfl (by (try simp only [List.map_toArray, List.map_cons, List.map_nil]); first | done | rfl | (simp only [List.length_drop, List.length_take]; rfl)) ?_; (with_reducible refine (mask_Encode.calls kj5 a3 t193 t194 t195 t196 _ A18.out).mono ?_); rintro e w26 ⟨rfl, hb⟩; refine ⟨_, rfl, ?_⟩; have n0_ := Aside0.mk (below_step (by repeat (first | (with_reducible first | exact HB.out | apply below_alloc | apply pw_below_drewN | apply below_drew1) | exact HB.out)) hb); clear HB; have HB := n0_; clear n0_; (try clear hb); (try clear hb2); (try clear hk); (try clear hi)) | ((with_reducible refine gate_callee (f := 14) rfl ?_); refine goesL_ (some 90) rfl rfl Tryd.func14 (by kernel_rfl) rfl #[.int .i64 t193, .int .i64 t194, .int .i64 t195] rfl (by (try simp only [List.map_toArray, List.map_cons, List.map_nil]); first | done | rfl | (simp only [List.length_drop, List.length_take]; rfl)) ?_; (with_reducible refine (mask_Decode.calls kj5 t193 t194 t195 t197 t198 _ A20.out).mono ?_); rintro e w27 ⟨rfl, hb⟩; refine ⟨_, rfl, ?_⟩; have n0_ := Aside0.mk (below_step (by repeat (first | (with_reducible first | exact HB.out | apply below_alloc | apply pw_below_drewN | apply below_drew1) | exact HB.out)) hb); clear HB; have HB := n0_; clear n0_; (try clear hb); (try clear hb2); (try clear hk); (try clear hi)) | ((with_reducible refine gate_callee (f := 18) rfl ?_); refine goesL_ (some 93) rfl rfl Tryd.func18 (by kernel_rfl) rfl #[] rfl (by (try simp only [List.map_toArray, List.map_cons, List.map_nil]); first | done | rfl | (simp only [List.length_drop, List.length_take]; rfl)) ?_; (with_reducible refine (cleatlaw02_masked.calls kj5  true _ A21.out).mono ?_); rintro e w28 ⟨rfl, hb⟩; refine ⟨_, rfl, ?_⟩; have n0_ := Aside0.mk (below_step (by repeat (first | (with_reducible first | exact HB.out | apply below_alloc | apply pw_below_drewN | apply below_drew1) | exact HB.out)) hb); clear HB; have HB := n0_; clear n0_; (try clear hb); (try clear hb2); (try clear hk); (try clear hi)) | (go_at_call 19; (with_reducible refine (mask_Is.calls kj5 a3 t200 _ A25.out).mono ?_); rintro e w29 ⟨rfl, hb⟩; have n0_ := Aside0.mk (below_step (by repeat (first | (with_reducible first | exact HB.out | apply below_alloc | apply pw_below_drewN | apply below_drew1) | exact HB.out)) hb); clear HB; have HB := n0_; clear n0_; (try clear hb); (try clear hb2); (try clear hk); (try clear hi)))
              go_ret
              exact ⟨by first | rfl | (simp [errW_none, errW_some] <;> rfl) | (simp [*, errW_none, errW_some] <;> rfl), by repeat (first | (with_reducible first | exact HB.out | apply below_alloc | apply pw_below_drewN | apply below_drew1) | exact HB.out)⟩
            · rw [if_neg c24] at H
              exact absurd H (by simp)
          · rw [if_neg c23] at H
            exact absurd H (by simp)
        · replace c22 := Bool.eq_false_iff.mpr c22
          subst c22
          have H1 : (none) = some r := by rw [if_neg (show ¬ (false = true) by decide)] at H; exact H
          clear H
          have H := H1
          clear H1
          exact absurd H (by simp)
      · rw [if_neg c19] at H
        have c19b0 : (t196 == 0) = false := beq_eq_false_iff_ne.mpr c19
        have c19b1 : (t196 != 0) = true := bne_iff_ne.mpr c19
        replace H := Option.bind_eq_some_iff.mp H
        obtain ⟨t201, A300, H⟩ := H
        replace H : (if t201 = true then ((mask_Is.f kj5 a3).bind fun t202 => (if t202 = true then (none) else (if t193 = 0 then (if t194 = 0 then (some (t195 == 0)) else (none)) else (none)))) else (none)) = some r := H
        have A30 := Aside0.mk A300
        clear A300
        by_cases c31 : t201 = true
        · subst c31
          have H1 : ((mask_Is.f kj5 a3).bind fun t202 => (if t202 = true then (none) else (if t193 = 0 then (if t194 = 0 then (some (t195 == 0)) else (none)) else (none)))) = some r := by rw [if_pos rfl] at H; exact H
          clear H
          have H := H1
          clear H1
          replace H := Option.bind_eq_some_iff.mp H
          obtain ⟨t202, A320, H⟩ := H
          replace H : (if t202 = true then (none) else (if t193 = 0 then (if t194 = 0 then (some (t195 == 0)) else (none)) else (none))) = some r := H
          have A32 := Aside0.mk A320
          clear A320
          by_cases c33 : t202 = true
          · subst c33
            have H1 : (none) = some r := by rw [if_pos rfl] at H; exact H
            clear H
            have H := H1
            clear H1
            exact absurd H (by simp)
          · replace c33 := Bool.eq_false_iff.mpr c33
            subst c33
            have H1 : (if t193 = 0 then (if t194 = 0 then (some (t195 == 0)) else (none)) else (none)) = some r := by rw [if_neg (show ¬ (false = true) by decide)] at H; exact H
            clear H
            have H := H1
            clear H1
            by_cases c34 : t193 = 0
            · rw [if_pos c34] at H
              have c34b0 : (t193 == 0) = true := beq_iff_eq.mpr c34
              have c34b1 : (t193 != 0) = false := bne_eq_false_iff_eq.mpr c34
              clear c34
              by_cases c35 : t194 = 0
              · rw [if_pos c35] at H
                have c35b0 : (t194 == 0) = true := beq_iff_eq.mpr c35
                have c35b1 : (t194 != 0) = false := bne_eq_false_iff_eq.mpr c35
                clear c35
                obtain rfl := Option.some.inj H
                go_wp2_with (first | ((with_reducible refine gate_callee (f := 16) rfl ?_); refine goesL_ (some 61) rfl rfl Tryd.func16 (by kernel_rfl) rfl #[.int .u64 a3] rfl (by (try simp only [List.map_toArray, List.map_cons, List.map_nil]); first | done | rfl | (simp only [List.length_drop, List.length_take]; rfl)) ?_; (with_reducible refine (mask_Encode.calls kj5 a3 t193 t194 t195 t196 _ A18.out).mono ?_); rintro e w36 ⟨rfl, hb⟩; refine ⟨_, rfl, ?_⟩; have n0_ := Aside0.mk (below_step (by repeat (first | (with_reducible first | exact HB.out | apply below_alloc | apply pw_below_drewN | apply below_drew1) | exact HB.out)) hb); clear HB; have HB := n0_; clear n0_; (try clear hb); (try clear hb2); (try clear hk); (try clear hi)) | ((with_reducible refine gate_callee (f := 18) rfl ?_); refine goesL_ (some 68) rfl rfl Tryd.func18 (by kernel_rfl) rfl #[] rfl (by (try simp only [List.map_toArray, List.map_cons, List.map_nil]); first | done | rfl | (simp only [List.length_drop, List.length_take]; rfl)) ?_; (with_reducible refine (cleatlaw02_masked.calls kj5  true _ A30.out).mono ?_); rintro e w37 ⟨rfl, hb⟩; refine ⟨_, rfl, ?_⟩; have n0_ := Aside0.mk (below_step (by repeat (first | (with_reducible first | exact HB.out | apply below_alloc | apply pw_below_drewN | apply below_drew1) | exact HB.out)) hb); clear HB; have HB := n0_; clear n0_; (try clear hb); (try clear hb2); (try clear hk); (try clear hi)) | (go_at_call 19; (with_reducible refine (mask_Is.calls kj5 a3 false _ A32.out).mono ?_); rintro e w38 ⟨rfl, hb⟩; have n0_ := Aside0.mk (below_step (by repeat (first | (with_reducible first | exact HB.out | apply below_alloc | apply pw_below_drewN | apply below_drew1) | exact HB.out)) hb); clear HB; have HB := n0_; clear n0_; (try clear hb); (try clear hb2); (try clear hk); (try clear hi)))
                go_ret
                exact ⟨by first | rfl | (simp [errW_none, errW_some] <;> rfl) | (simp [*, errW_none, errW_some] <;> rfl), by repeat (first | (with_reducible first | exact HB.out | apply below_alloc | apply pw_below_drewN | apply below_drew1) | exact HB.out)⟩
              · rw [if_neg c35] at H
                exact absurd H (by simp)
            · rw [if_neg c34] at H
              exact absurd H (by simp)
        · replace c31 := Bool.eq_false_iff.mpr c31
          subst c31
          have H1 : (none) = some r := by rw [if_neg (show ¬ (false = true) by decide)] at H; exact H
          clear H
          have H := H1
          clear H1
          exact absurd H (by simp)

/-- THE ONE PURE STATEMENT of cleatlaw02_MaskBack: yours. -/
def cleatlaw02_MaskBack.Pure : Prop := ∀ (a0 : Int) (a1 : Int) (a2 : Int) (a3 : Int), (Lit.int .i64 a0).wf = true → (Lit.int .i64 a1).wf = true → (Lit.int .i64 a2).wf = true → (Lit.int .u64 a3).wf = true → ∃ k, cleatlaw02_MaskBack.f k a0 a1 a2 a3 = some true
theorem cleatlaw02_MaskBack.walk (P : cleatlaw02_MaskBack.Pure) (a0 : Int) (a1 : Int) (a2 : Int) (a3 : Int) (w : World) (w0 : (Lit.int .i64 a0).wf = true) (w1 : (Lit.int .i64 a1).wf = true) (w2 : (Lit.int .i64 a2).wf = true) (w3 : (Lit.int .u64 a3).wf = true) (hTab : TabW w) :
    Calls Tryd.prog 4 #[.int .i64 a0, .int .i64 a1, .int .i64 a2, .int .u64 a3] w fun e w' => e = .returned (.bool true) ∧ Below w.heap.size w w' := by
  obtain ⟨k, h⟩ := P a0 a1 a2 a3 w0 w1 w2 w3
  refine (cleatlaw02_MaskBack.calls k a0 a1 a2 a3 true w h).mono ?_
  rintro e w' ⟨rfl, hd⟩
  exact ⟨rfl, hd⟩

/-! ### cleatlaw02_MaskOther: function 5 -/
def cleatlaw02_MaskOther.j0 : Nat → Int → Bool → Int → Int → Bool → Option (Bool)
  | 0, _, _, _, _, _ => none
  | k + 1, x0, x5, x7, x8, x37 => if x37 = true then (none) else ((cleatlaw02_masked.f k).bind fun t211 => (if t211 = true then (if x8 = 0 then ((mask_Is.f k x7).bind fun t212 => (if (t212 == x5) = true then ((mask_Ones.f x7).bind fun t213 => ((mask_Ones.f x0).bind fun t214 => (if t213 = t214 then ((mask_Size.f k x7).bind fun t215 => ((mask_Size.f k x0).bind fun t216 => (some (t215 == t216)))) else (none)))) else (none))) else (some true)) else (none)))
def cleatlaw02_MaskOther.f (k : Nat) (a0 : Int) (a1 : Int) : Option (Bool) := (mask_Is.f k a0).bind fun t203 => ((bits_Rotate.f k a0 a1 64).bind fun bt204 => ((mask_Is.f k (IntKind.u64.wrap (18446744073709551615 - a0))).bind fun t206 => (if (t206 != t203) = true then (cleatlaw02_MaskOther.j0 k a0 t203 bt204.1 bt204.2 true) else ((mask_Ones.f a0).bind fun t207 => ((mask_Ones.f (IntKind.u64.wrap (18446744073709551615 - a0))).bind fun t208 => (if (wrap64 (t207 + t208)) = 64 then ((mask_Size.f k (IntKind.u64.wrap (18446744073709551615 - a0))).bind fun t209 => ((mask_Size.f k a0).bind fun t210 => (cleatlaw02_MaskOther.j0 k a0 t203 bt204.1 bt204.2 (t209 != t210)))) else (cleatlaw02_MaskOther.j0 k a0 t203 bt204.1 bt204.2 true)))))))
theorem cleatlaw02_MaskOther.mono_l : ∀ k, (∀ y0 y1 y2 y3 y4, LeO (cleatlaw02_MaskOther.j0 k y0 y1 y2 y3 y4) (cleatlaw02_MaskOther.j0 (k + 1) y0 y1 y2 y3 y4))
  | 0 => fun _ _ _ _ _ r h => by simp [cleatlaw02_MaskOther.j0] at h
  | k + 1 => by
    have ih0 := cleatlaw02_MaskOther.mono_l k
    · intro y0 y1 y2 y3 y4
      unfold cleatlaw02_MaskOther.j0
      repeat' first
      | (with_reducible exact ih0 _ _ _ _ _)
      | (with_reducible exact bits_Rotate.mono _ _ _ _)
      | (with_reducible exact cleatlaw02_masked.mono _)
      | (with_reducible exact mask_Is.mono _ _)
      | (with_reducible exact mask_Size.mono _ _)
      | (with_reducible exact LeO.refl _)
      | (with_reducible exact LeO.none _)
      | (with_reducible refine LeO.ite ?_ ?_)
      | (with_reducible refine LeO.bind ?_ (fun _ => ?_))
      | exact ih0 _ _ _ _ _
      | exact bits_Rotate.mono _ _ _ _
      | exact cleatlaw02_masked.mono _
      | exact mask_Is.mono _ _
      | exact mask_Size.mono _ _
      | exact LeO.none _
      | refine LeO.ite ?_ ?_
      | refine LeO.bind ?_ (fun _ => ?_)
theorem cleatlaw02_MaskOther.mono : ∀ a0 a1 k, LeO (cleatlaw02_MaskOther.f k a0 a1) (cleatlaw02_MaskOther.f (k + 1) a0 a1) := by
  intro a0 a1 k
  have ih0 := cleatlaw02_MaskOther.mono_l k
  unfold cleatlaw02_MaskOther.f
  repeat' first
      | (with_reducible exact ih0 _ _ _ _ _)
      | (with_reducible exact bits_Rotate.mono _ _ _ _)
      | (with_reducible exact cleatlaw02_masked.mono _)
      | (with_reducible exact mask_Is.mono _ _)
      | (with_reducible exact mask_Size.mono _ _)
      | (with_reducible exact LeO.refl _)
      | (with_reducible exact LeO.none _)
      | (with_reducible refine LeO.ite ?_ ?_)
      | (with_reducible refine LeO.bind ?_ (fun _ => ?_))
      | exact ih0 _ _ _ _ _
      | exact bits_Rotate.mono _ _ _ _
      | exact cleatlaw02_masked.mono _
      | exact mask_Is.mono _ _
      | exact mask_Size.mono _ _
      | exact LeO.none _
      | refine LeO.ite ?_ ?_
      | refine LeO.bind ?_ (fun _ => ?_)
set_option maxHeartbeats 8000000 in
set_option maxRecDepth 100000 in
theorem cleatlaw02_MaskOther.calls (k : Nat) (a0 : Int) (a1 : Int) (r : Bool) (w : World) (h : cleatlaw02_MaskOther.f k a0 a1 = some r) (hTab : TabW w := by first | exact hTab | exact TabW.drew hTab | exact TabW.drewN hTab _ | exact TabW.below hTab (by repeat (first | (with_reducible first | exact HB.out | apply below_alloc | apply pw_below_drewN | apply below_drew1) | exact HB.out | exact Below.refl _ _))) :
    Calls Tryd.prog 5 #[.int .u64 a0, .int .i64 a1] w fun e w' => e = .returned (.bool r) ∧ Below w.heap.size w w' := by
  have HB := Aside0.mk (Below.refl w.heap.size w)
  have H : ((mask_Is.f k a0).bind fun t203 => ((bits_Rotate.f k a0 a1 64).bind fun bt204 => ((mask_Is.f k (IntKind.u64.wrap (18446744073709551615 - a0))).bind fun t206 => (if (t206 != t203) = true then (cleatlaw02_MaskOther.j0 k a0 t203 bt204.1 bt204.2 true) else ((mask_Ones.f a0).bind fun t207 => ((mask_Ones.f (IntKind.u64.wrap (18446744073709551615 - a0))).bind fun t208 => (if (wrap64 (t207 + t208)) = 64 then ((mask_Size.f k (IntKind.u64.wrap (18446744073709551615 - a0))).bind fun t209 => ((mask_Size.f k a0).bind fun t210 => (cleatlaw02_MaskOther.j0 k a0 t203 bt204.1 bt204.2 (t209 != t210)))) else (cleatlaw02_MaskOther.j0 k a0 t203 bt204.1 bt204.2 true)))))))) = some r := h
  clear h
  replace H := Option.bind_eq_some_iff.mp H
  obtain ⟨t203, A30, H⟩ := H
  replace H : ((bits_Rotate.f k a0 a1 64).bind fun bt204 => ((mask_Is.f k (IntKind.u64.wrap (18446744073709551615 - a0))).bind fun t206 => (if (t206 != t203) = true then (cleatlaw02_MaskOther.j0 k a0 t203 bt204.1 bt204.2 true) else ((mask_Ones.f a0).bind fun t207 => ((mask_Ones.f (IntKind.u64.wrap (18446744073709551615 - a0))).bind fun t208 => (if (wrap64 (t207 + t208)) = 64 then ((mask_Size.f k (IntKind.u64.wrap (18446744073709551615 - a0))).bind fun t209 => ((mask_Size.f k a0).bind fun t210 => (cleatlaw02_MaskOther.j0 k a0 t203 bt204.1 bt204.2 (t209 != t210)))) else (cleatlaw02_MaskOther.j0 k a0 t203 bt204.1 bt204.2 true))))))) = some r := H
  have A3 := Aside0.mk A30
  clear A30
  replace H := Option.bind_eq_some_iff.mp H
  obtain ⟨⟨t204, t205⟩, A40, H⟩ := H
  replace H : ((mask_Is.f k (IntKind.u64.wrap (18446744073709551615 - a0))).bind fun t206 => (if (t206 != t203) = true then (cleatlaw02_MaskOther.j0 k a0 t203 t204 t205 true) else ((mask_Ones.f a0).bind fun t207 => ((mask_Ones.f (IntKind.u64.wrap (18446744073709551615 - a0))).bind fun t208 => (if (wrap64 (t207 + t208)) = 64 then ((mask_Size.f k (IntKind.u64.wrap (18446744073709551615 - a0))).bind fun t209 => ((mask_Size.f k a0).bind fun t210 => (cleatlaw02_MaskOther.j0 k a0 t203 t204 t205 (t209 != t210)))) else (cleatlaw02_MaskOther.j0 k a0 t203 t204 t205 true)))))) = some r := H
  have A4 := Aside0.mk A40
  clear A40
  have HC5 := Aside0.mk H
  clear H
  go_enter Tryd.func5, Tryd.ntmps5
  go_upto_region 4 with (first | ((with_reducible refine gate_callee (f := 19) rfl ?_); refine goesL_ (some 10) rfl rfl Tryd.func19 (by kernel_rfl) rfl #[.int .u64 a0] rfl (by (try simp only [List.map_toArray, List.map_cons, List.map_nil]); first | done | rfl | (simp only [List.length_drop, List.length_take]; rfl)) ?_; (with_reducible refine (mask_Is.calls k a0 t203 _ A3.out).mono ?_); rintro e w6 ⟨rfl, hb⟩; refine ⟨_, rfl, ?_⟩; have n0_ := Aside0.mk (below_step (by repeat (first | (with_reducible first | exact HB.out | apply below_alloc | apply pw_below_drewN | apply below_drew1) | exact HB.out)) hb); clear HB; have HB := n0_; clear n0_; (try clear hb); (try clear hb2); (try clear hk); (try clear hi)) | ((with_reducible refine gate_callee (f := 25) rfl ?_); refine goesL_ (some 16) rfl rfl Tryd.func25 (by kernel_rfl) rfl #[.int .u64 a0, .int .i64 a1, .int .i64 64] rfl (by (try simp only [List.map_toArray, List.map_cons, List.map_nil]); first | done | rfl | (simp only [List.length_drop, List.length_take]; rfl)) ?_; (with_reducible refine (bits_Rotate.calls k a0 a1 64 t204 t205 _ A4.out).mono ?_); rintro e w7 ⟨rfl, hb⟩; refine ⟨_, rfl, ?_⟩; have n0_ := Aside0.mk (below_step (by repeat (first | (with_reducible first | exact HB.out | apply below_alloc | apply pw_below_drewN | apply below_drew1) | exact HB.out)) hb); clear HB; have HB := n0_; clear n0_; (try clear hb); (try clear hb2); (try clear hk); (try clear hi)))
  (try simp only [Act.put, List.setIfInBounds_toArray, List.set_cons_zero, List.set_cons_succ])
  go_cut [37] (fun v37 wc => ∃ (kq : Nat) (x37_4 : Bool), v37 = .bool x37_4 ∧ Aside0 (cleatlaw02_MaskOther.j0 kq a0 t203 t204 t205 x37_4 = some r) ∧ Aside0 (kq ≤ k) ∧ Aside0 (Below w.heap.size w wc))
  case first =>
    have H := HC5.out
    clear HC5
    replace H := Option.bind_eq_some_iff.mp H
    obtain ⟨t206, A80, H⟩ := H
    replace H : (if (t206 != t203) = true then (cleatlaw02_MaskOther.j0 k a0 t203 t204 t205 true) else ((mask_Ones.f a0).bind fun t207 => ((mask_Ones.f (IntKind.u64.wrap (18446744073709551615 - a0))).bind fun t208 => (if (wrap64 (t207 + t208)) = 64 then ((mask_Size.f k (IntKind.u64.wrap (18446744073709551615 - a0))).bind fun t209 => ((mask_Size.f k a0).bind fun t210 => (cleatlaw02_MaskOther.j0 k a0 t203 t204 t205 (t209 != t210)))) else (cleatlaw02_MaskOther.j0 k a0 t203 t204 t205 true))))) = some r := H
    have A8 := Aside0.mk A80
    clear A80
    by_cases c9 : (t206 != t203) = true
    · rw [if_pos c9] at H
      have c9b0 : (t206 != t203) = true := c9
      (try (have c9b1 : decide (t206 = t203) = false := by simpa using c9))
      (try (have c9b2 : (t206 == t203) = false := by simpa using c9))
      (try (have c9b3 : ¬ (t206 = t203) := by simpa using c9))
      clear c9
      (first | rw [c9b0] | (simp only [i64_w, i32_w]; rw [c9b0]) | skip)
      have H' := Aside0.mk H
      clear H
      go_wp2_with (first | ((with_reducible refine gate_callee (f := 19) rfl ?_); refine goesL_ (some 20) rfl rfl Tryd.func19 (by kernel_rfl) rfl #[.int .u64 (IntKind.u64.wrap (18446744073709551615 - a0))] rfl (by (try simp only [List.map_toArray, List.map_cons, List.map_nil]); first | done | rfl | (simp only [List.length_drop, List.length_take]; rfl)) ?_; (with_reducible refine (mask_Is.calls k (IntKind.u64.wrap (18446744073709551615 - a0)) t206 _ A8.out).mono ?_); rintro e w10 ⟨rfl, hb⟩; refine ⟨_, rfl, ?_⟩; have n0_ := Aside0.mk (below_step (by repeat (first | (with_reducible first | exact HB.out | apply below_alloc | apply pw_below_drewN | apply below_drew1) | exact HB.out)) hb); clear HB; have HB := n0_; clear n0_; (try clear hb); (try clear hb2); (try clear hk); (try clear hi)))
      go_meet
      case rel => exact ⟨_, (true), (by first | rfl | (simp; done) | (simp [*]; done)), H', ⟨by first | omega | exact Nat.le_refl _⟩, ⟨by repeat (first | (with_reducible first | exact HB.out | apply below_alloc | apply pw_below_drewN | apply below_drew1) | exact HB.out)⟩⟩
    · rw [if_neg c9] at H
      have c9b0 : (t206 != t203) = false := by simpa using c9
      (try (have c9b1 : decide (t206 = t203) = true := by simpa using c9))
      (try (have c9b2 : (t206 == t203) = true := by simpa using c9))
      clear c9
      (first | rw [c9b0] | (simp only [i64_w, i32_w]; rw [c9b0]) | skip)
      replace H := Option.bind_eq_some_iff.mp H
      obtain ⟨t207, A110, H⟩ := H
      replace H : ((mask_Ones.f (IntKind.u64.wrap (18446744073709551615 - a0))).bind fun t208 => (if (wrap64 (t207 + t208)) = 64 then ((mask_Size.f k (IntKind.u64.wrap (18446744073709551615 - a0))).bind fun t209 => ((mask_Size.f k a0).bind fun t210 => (cleatlaw02_MaskOther.j0 k a0 t203 t204 t205 (t209 != t210)))) else (cleatlaw02_MaskOther.j0 k a0 t203 t204 t205 true))) = some r := H
      have A11 := Aside0.mk A110
      clear A110
      replace H := Option.bind_eq_some_iff.mp H
      obtain ⟨t208, A120, H⟩ := H
      replace H : (if (wrap64 (t207 + t208)) = 64 then ((mask_Size.f k (IntKind.u64.wrap (18446744073709551615 - a0))).bind fun t209 => ((mask_Size.f k a0).bind fun t210 => (cleatlaw02_MaskOther.j0 k a0 t203 t204 t205 (t209 != t210)))) else (cleatlaw02_MaskOther.j0 k a0 t203 t204 t205 true)) = some r := H
      have A12 := Aside0.mk A120
      clear A120
      by_cases c13 : (wrap64 (t207 + t208)) = 64
      · rw [if_pos c13] at H
        have c13b0 : ((wrap64 (t207 + t208)) == 64) = true := beq_iff_eq.mpr c13
        have c13b1 : ((wrap64 (t207 + t208)) != 64) = false := bne_eq_false_iff_eq.mpr c13
        clear c13
        replace H := Option.bind_eq_some_iff.mp H
        obtain ⟨t209, A140, H⟩ := H
        replace H : ((mask_Size.f k a0).bind fun t210 => (cleatlaw02_MaskOther.j0 k a0 t203 t204 t205 (t209 != t210))) = some r := H
        have A14 := Aside0.mk A140
        clear A140
        replace H := Option.bind_eq_some_iff.mp H
        obtain ⟨t210, A150, H⟩ := H
        replace H : (cleatlaw02_MaskOther.j0 k a0 t203 t204 t205 (t209 != t210)) = some r := H
        have A15 := Aside0.mk A150
        clear A150
        have H' := Aside0.mk H
        clear H
        go_wp2_with (first | ((with_reducible refine gate_callee (f := 19) rfl ?_); refine goesL_ (some 20) rfl rfl Tryd.func19 (by kernel_rfl) rfl #[.int .u64 (IntKind.u64.wrap (18446744073709551615 - a0))] rfl (by (try simp only [List.map_toArray, List.map_cons, List.map_nil]); first | done | rfl | (simp only [List.length_drop, List.length_take]; rfl)) ?_; (with_reducible refine (mask_Is.calls k (IntKind.u64.wrap (18446744073709551615 - a0)) t206 _ A8.out).mono ?_); rintro e w16 ⟨rfl, hb⟩; refine ⟨_, rfl, ?_⟩; have n0_ := Aside0.mk (below_step (by repeat (first | (with_reducible first | exact HB.out | apply below_alloc | apply pw_below_drewN | apply below_drew1) | exact HB.out)) hb); clear HB; have HB := n0_; clear n0_; (try clear hb); (try clear hb2); (try clear hk); (try clear hi)) | (go_at_call 23; (with_reducible refine (mask_Ones.calls a0 t207 _ A11.out).mono ?_); rintro e w' ⟨rfl, ⟨nd, rfl⟩⟩) | (go_at_call 23; (with_reducible refine (mask_Ones.calls (IntKind.u64.wrap (18446744073709551615 - a0)) t208 _ A12.out).mono ?_); rintro e w' ⟨rfl, ⟨nd, rfl⟩⟩) | (go_at_call 21; (with_reducible refine (mask_Size.calls k (IntKind.u64.wrap (18446744073709551615 - a0)) t209 _ A14.out).mono ?_); rintro e w17 ⟨rfl, hb⟩; have n0_ := Aside0.mk (below_step (by repeat (first | (with_reducible first | exact HB.out | apply below_alloc | apply pw_below_drewN | apply below_drew1) | exact HB.out)) hb); clear HB; have HB := n0_; clear n0_; (try clear hb); (try clear hb2); (try clear hk); (try clear hi)) | (go_at_call 21; (with_reducible refine (mask_Size.calls k a0 t210 _ A15.out).mono ?_); rintro e w18 ⟨rfl, hb⟩; have n0_ := Aside0.mk (below_step (by repeat (first | (with_reducible first | exact HB.out | apply below_alloc | apply pw_below_drewN | apply below_drew1) | exact HB.out)) hb); clear HB; have HB := n0_; clear n0_; (try clear hb); (try clear hb2); (try clear hk); (try clear hi)))
        go_meet
        case rel => exact ⟨_, ((t209 != t210)), (by first | rfl | (simp; done) | (simp [*]; done)), H', ⟨by first | omega | exact Nat.le_refl _⟩, ⟨by repeat (first | (with_reducible first | exact HB.out | apply below_alloc | apply pw_below_drewN | apply below_drew1) | exact HB.out)⟩⟩
      · rw [if_neg c13] at H
        have c13b0 : ((wrap64 (t207 + t208)) == 64) = false := beq_eq_false_iff_ne.mpr c13
        have c13b1 : ((wrap64 (t207 + t208)) != 64) = true := bne_iff_ne.mpr c13
        have H' := Aside0.mk H
        clear H
        go_wp2_with (first | ((with_reducible refine gate_callee (f := 19) rfl ?_); refine goesL_ (some 20) rfl rfl Tryd.func19 (by kernel_rfl) rfl #[.int .u64 (IntKind.u64.wrap (18446744073709551615 - a0))] rfl (by (try simp only [List.map_toArray, List.map_cons, List.map_nil]); first | done | rfl | (simp only [List.length_drop, List.length_take]; rfl)) ?_; (with_reducible refine (mask_Is.calls k (IntKind.u64.wrap (18446744073709551615 - a0)) t206 _ A8.out).mono ?_); rintro e w19 ⟨rfl, hb⟩; refine ⟨_, rfl, ?_⟩; have n0_ := Aside0.mk (below_step (by repeat (first | (with_reducible first | exact HB.out | apply below_alloc | apply pw_below_drewN | apply below_drew1) | exact HB.out)) hb); clear HB; have HB := n0_; clear n0_; (try clear hb); (try clear hb2); (try clear hk); (try clear hi)) | (go_at_call 23; (with_reducible refine (mask_Ones.calls a0 t207 _ A11.out).mono ?_); rintro e w' ⟨rfl, ⟨nd, rfl⟩⟩) | (go_at_call 23; (with_reducible refine (mask_Ones.calls (IntKind.u64.wrap (18446744073709551615 - a0)) t208 _ A12.out).mono ?_); rintro e w' ⟨rfl, ⟨nd, rfl⟩⟩))
        go_meet
        case rel => exact ⟨_, (true), (by first | rfl | (simp; done) | (simp [*]; done)), H', ⟨by first | omega | exact Nat.le_refl _⟩, ⟨by repeat (first | (with_reducible first | exact HB.out | apply below_alloc | apply pw_below_drewN | apply below_drew1) | exact HB.out)⟩⟩
  case rest =>
    clear HC5
    try clear c1
    try clear c2
    try clear p2
    try clear c5
    try clear p6
    try clear c9
    try clear c9b0
    try clear c9b1
    try clear c9b2
    try clear c13
    try clear c13b0
    try clear c13b1
    try clear c19
    obtain ⟨kq, x37_4, rfl, HA, HJ4, HB⟩ := hcut
    cases kq with
    | zero => exact absurd HA.out (by simp [cleatlaw02_MaskOther.j0])
    | succ kj4 =>
      have H := HA.out
      clear HA
      simp only [cleatlaw02_MaskOther.j0] at H
      by_cases c20 : x37_4 = true
      · subst c20
        have H1 : (none) = some r := by rw [if_pos rfl] at H; exact H
        clear H
        have H := H1
        clear H1
        exact absurd H (by simp)
      · replace c20 := Bool.eq_false_iff.mpr c20
        subst c20
        have H1 : ((cleatlaw02_masked.f kj4).bind fun t211 => (if t211 = true then (if t205 = 0 then ((mask_Is.f kj4 t204).bind fun t212 => (if (t212 == t203) = true then ((mask_Ones.f t204).bind fun t213 => ((mask_Ones.f a0).bind fun t214 => (if t213 = t214 then ((mask_Size.f kj4 t204).bind fun t215 => ((mask_Size.f kj4 a0).bind fun t216 => (some (t215 == t216)))) else (none)))) else (none))) else (some true)) else (none))) = some r := by rw [if_neg (show ¬ (false = true) by decide)] at H; exact H
        clear H
        have H := H1
        clear H1
        replace H := Option.bind_eq_some_iff.mp H
        obtain ⟨t211, A210, H⟩ := H
        replace H : (if t211 = true then (if t205 = 0 then ((mask_Is.f kj4 t204).bind fun t212 => (if (t212 == t203) = true then ((mask_Ones.f t204).bind fun t213 => ((mask_Ones.f a0).bind fun t214 => (if t213 = t214 then ((mask_Size.f kj4 t204).bind fun t215 => ((mask_Size.f kj4 a0).bind fun t216 => (some (t215 == t216)))) else (none)))) else (none))) else (some true)) else (none)) = some r := H
        have A21 := Aside0.mk A210
        clear A210
        by_cases c22 : t211 = true
        · subst c22
          have H1 : (if t205 = 0 then ((mask_Is.f kj4 t204).bind fun t212 => (if (t212 == t203) = true then ((mask_Ones.f t204).bind fun t213 => ((mask_Ones.f a0).bind fun t214 => (if t213 = t214 then ((mask_Size.f kj4 t204).bind fun t215 => ((mask_Size.f kj4 a0).bind fun t216 => (some (t215 == t216)))) else (none)))) else (none))) else (some true)) = some r := by rw [if_pos rfl] at H; exact H
          clear H
          have H := H1
          clear H1
          by_cases c23 : t205 = 0
          · rw [if_pos c23] at H
            have c23b0 : (t205 == 0) = true := beq_iff_eq.mpr c23
            have c23b1 : (t205 != 0) = false := bne_eq_false_iff_eq.mpr c23
            clear c23
            replace H := Option.bind_eq_some_iff.mp H
            obtain ⟨t212, A240, H⟩ := H
            replace H : (if (t212 == t203) = true then ((mask_Ones.f t204).bind fun t213 => ((mask_Ones.f a0).bind fun t214 => (if t213 = t214 then ((mask_Size.f kj4 t204).bind fun t215 => ((mask_Size.f kj4 a0).bind fun t216 => (some (t215 == t216)))) else (none)))) else (none)) = some r := H
            have A24 := Aside0.mk A240
            clear A240
            by_cases c25 : (t212 == t203) = true
            · rw [if_pos c25] at H
              have c25b0 : (t212 == t203) = true := c25
              (try (have c25b1 : decide (t212 = t203) = true := by simpa using c25))
              (try (have c25b2 : (t212 == t203) = true := by simpa using c25))
              clear c25
              replace H := Option.bind_eq_some_iff.mp H
              obtain ⟨t213, A260, H⟩ := H
              replace H : ((mask_Ones.f a0).bind fun t214 => (if t213 = t214 then ((mask_Size.f kj4 t204).bind fun t215 => ((mask_Size.f kj4 a0).bind fun t216 => (some (t215 == t216)))) else (none))) = some r := H
              have A26 := Aside0.mk A260
              clear A260
              replace H := Option.bind_eq_some_iff.mp H
              obtain ⟨t214, A270, H⟩ := H
              replace H : (if t213 = t214 then ((mask_Size.f kj4 t204).bind fun t215 => ((mask_Size.f kj4 a0).bind fun t216 => (some (t215 == t216)))) else (none)) = some r := H
              have A27 := Aside0.mk A270
              clear A270
              by_cases c28 : t213 = t214
              · rw [if_pos c28] at H
                have c28b0 : (t213 == t214) = true := beq_iff_eq.mpr c28
                have c28b1 : (t213 != t214) = false := bne_eq_false_iff_eq.mpr c28
                clear c28
                replace H := Option.bind_eq_some_iff.mp H
                obtain ⟨t215, A290, H⟩ := H
                replace H : ((mask_Size.f kj4 a0).bind fun t216 => (some (t215 == t216))) = some r := H
                have A29 := Aside0.mk A290
                clear A290
                replace H := Option.bind_eq_some_iff.mp H
                obtain ⟨t216, A300, H⟩ := H
                replace H : (some (t215 == t216)) = some r := H
                have A30 := Aside0.mk A300
                clear A300
                obtain rfl := Option.some.inj H
                go_wp2_with (first | ((with_reducible refine gate_callee (f := 18) rfl ?_); refine goesL_ (some 38) rfl rfl Tryd.func18 (by kernel_rfl) rfl #[] rfl (by (try simp only [List.map_toArray, List.map_cons, List.map_nil]); first | done | rfl | (simp only [List.length_drop, List.length_take]; rfl)) ?_; (with_reducible refine (cleatlaw02_masked.calls kj4  true _ A21.out).mono ?_); rintro e w31 ⟨rfl, hb⟩; refine ⟨_, rfl, ?_⟩; have n0_ := Aside0.mk (below_step (by repeat (first | (with_reducible first | exact HB.out | apply below_alloc | apply pw_below_drewN | apply below_drew1) | exact HB.out)) hb); clear HB; have HB := n0_; clear n0_; (try clear hb); (try clear hb2); (try clear hk); (try clear hi)) | (go_at_call 19; (with_reducible refine (mask_Is.calls kj4 t204 t212 _ A24.out).mono ?_); rintro e w32 ⟨rfl, hb⟩; have n0_ := Aside0.mk (below_step (by repeat (first | (with_reducible first | exact HB.out | apply below_alloc | apply pw_below_drewN | apply below_drew1) | exact HB.out)) hb); clear HB; have HB := n0_; clear n0_; (try clear hb); (try clear hb2); (try clear hk); (try clear hi)) | (go_at_call 23; (with_reducible refine (mask_Ones.calls t204 t213 _ A26.out).mono ?_); rintro e w' ⟨rfl, ⟨nd, rfl⟩⟩) | (go_at_call 23; (with_reducible refine (mask_Ones.calls a0 t214 _ A27.out).mono ?_); rintro e w' ⟨rfl, ⟨nd, rfl⟩⟩) | (go_at_call 21; (with_reducible refine (mask_Size.calls kj4 t204 t215 _ A29.out).mono ?_); rintro e w33 ⟨rfl, hb⟩; have n0_ := Aside0.mk (below_step (by repeat (first | (with_reducible first | exact HB.out | apply below_alloc | apply pw_below_drewN | apply below_drew1) | exact HB.out)) hb); clear HB; have HB := n0_; clear n0_; (try clear hb); (try clear hb2); (try clear hk); (try clear hi)) | (go_at_call 21; (with_reducible refine (mask_Size.calls kj4 a0 t216 _ A30.out).mono ?_); rintro e w34 ⟨rfl, hb⟩; have n0_ := Aside0.mk (below_step (by repeat (first | (with_reducible first | exact HB.out | apply below_alloc | apply pw_below_drewN | apply below_drew1) | exact HB.out)) hb); clear HB; have HB := n0_; clear n0_; (try clear hb); (try clear hb2); (try clear hk); (try clear hi)))
                go_ret
                exact ⟨by first | rfl | (simp [errW_none, errW_some] <;> rfl) | (simp [*, errW_none, errW_some] <;> rfl), by repeat (first | (with_reducible first | exact HB.out | apply below_alloc | apply pw_below_drewN | apply below_drew1) | exact HB.out)⟩
              · rw [if_neg c28] at H
                exact absurd H (by simp)
            · rw [if_neg c25] at H
              exact absurd H (by simp)
          · rw [if_neg c23] at H
            have c23b0 : (t205 == 0) = false := beq_eq_false_iff_ne.mpr c23
            have c23b1 : (t205 != 0) = true := bne_iff_ne.mpr c23
            obtain rfl := Option.some.inj H
            go_wp2_with (first | ((with_reducible refine gate_callee (f := 18) rfl ?_); refine goesL_ (some 38) rfl rfl Tryd.func18 (by kernel_rfl) rfl #[] rfl (by (try simp only [List.map_toArray, List.map_cons, List.map_nil]); first | done | rfl | (simp only [List.length_drop, List.length_take]; rfl)) ?_; (with_reducible refine (cleatlaw02_masked.calls kj4  true _ A21.out).mono ?_); rintro e w35 ⟨rfl, hb⟩; refine ⟨_, rfl, ?_⟩; have n0_ := Aside0.mk (below_step (by repeat (first | (with_reducible first | exact HB.out | apply below_alloc | apply pw_below_drewN | apply below_drew1) | exact HB.out)) hb); clear HB; have HB := n0_; clear n0_; (try clear hb); (try clear hb2); (try clear hk); (try clear hi)))
            go_ret
            exact ⟨by first | rfl | (simp [errW_none, errW_some] <;> rfl) | (simp [*, errW_none, errW_some] <;> rfl), by repeat (first | (with_reducible first | exact HB.out | apply below_alloc | apply pw_below_drewN | apply below_drew1) | exact HB.out)⟩
        · replace c22 := Bool.eq_false_iff.mpr c22
          subst c22
          have H1 : (none) = some r := by rw [if_neg (show ¬ (false = true) by decide)] at H; exact H
          clear H
          have H := H1
          clear H1
          exact absurd H (by simp)

/-- THE ONE PURE STATEMENT of cleatlaw02_MaskOther: yours. -/
def cleatlaw02_MaskOther.Pure : Prop := ∀ (a0 : Int) (a1 : Int), (Lit.int .u64 a0).wf = true → (Lit.int .i64 a1).wf = true → ∃ k, cleatlaw02_MaskOther.f k a0 a1 = some true
theorem cleatlaw02_MaskOther.walk (P : cleatlaw02_MaskOther.Pure) (a0 : Int) (a1 : Int) (w : World) (w0 : (Lit.int .u64 a0).wf = true) (w1 : (Lit.int .i64 a1).wf = true) (hTab : TabW w) :
    Calls Tryd.prog 5 #[.int .u64 a0, .int .i64 a1] w fun e w' => e = .returned (.bool true) ∧ Below w.heap.size w w' := by
  obtain ⟨k, h⟩ := P a0 a1 w0 w1
  refine (cleatlaw02_MaskOther.calls k a0 a1 true w h).mono ?_
  rintro e w' ⟨rfl, hd⟩
  exact ⟨rfl, hd⟩

end Go.Proofs.YtbklmlbmbnnjkaaDoor.P
