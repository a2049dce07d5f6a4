/- Written for this claim by a program of this session (drive.py, over the print of the kit): Lean functions with the answers of Go functions, and the proofs that the Go code comes to these answers, under no condition but the readings of the arguments that each theorem names. -/
import Derived.Test.YtfajpcinmpbhgaaPx0
import Derived.Test.YtfajpcinmpbhgaaPx1
import Derived.Test.YtfajpcinmpbhgaaPx2
namespace Go.Proofs.Ytfajpcinmpbhgaa.P
open Go.RowKit Go.Proofs.YtfajpcinmpbhgaaW.PrintWords Go.Proofs.YtfajpcinmpbhgaaW.PrintLast Go.Proofs.YtfajpcinmpbhgaaW.PrintMore
attribute [local go_sem] max2_int min2_int max_two min_two max_three min_three max_four min_four   -- for this text's walks alone
set_option linter.unusedVariables false
set_option linter.unusedSimpArgs false

/-! ### cleatlaw18_WireOrder: function 4 -/
def cleatlaw18_WireOrder.l0 : Nat → Int → Int → Int → Int → Int → Int → Option (Bool)
  | 0, _, _, _, _, _, _ => none
  | k + 1, x0, x1, x5, x6, x7, x8 => if x8 < 10 then (if x0 ≥ x7 then (if x8 < 9 then (cleatlaw18_WireOrder.l0 k x0 x1 x5 x6 (IntKind.u64.wrap (128 * x7)) (wrap64 (x8 + 1))) else (if x8 = 9 then ((cleatlaw18_sent.f k).bind fun t136 => (if t136 = true then (if x0 > x1 then (if x5 = 10 then (if x5 ≥ 1 then (some (decide (x5 ≤ 10))) else (none)) else (none)) else (if x5 ≤ x6 then (if x5 = 10 then (if x5 ≥ 1 then (some (decide (x5 ≤ 10))) else (none)) else (none)) else (none))) else (none))) else ((cleatlaw18_sent.f k).bind fun t137 => (if t137 = true then (if x0 > x1 then (if x5 = x8 then (if x5 ≥ 1 then (some (decide (x5 ≤ 10))) else (none)) else (none)) else (if x5 ≤ x6 then (if x5 = x8 then (if x5 ≥ 1 then (some (decide (x5 ≤ 10))) else (none)) else (none)) else (none))) else (none))))) else (if x8 = 9 then ((cleatlaw18_sent.f k).bind fun t138 => (if t138 = true then (if x0 > x1 then (if x5 = x8 then (if x5 ≥ 1 then (some (decide (x5 ≤ 10))) else (none)) else (none)) else (if x5 ≤ x6 then (if x5 = x8 then (if x5 ≥ 1 then (some (decide (x5 ≤ 10))) else (none)) else (none)) else (none))) else (none))) else ((cleatlaw18_sent.f k).bind fun t139 => (if t139 = true then (if x0 > x1 then (if x5 = x8 then (if x5 ≥ 1 then (some (decide (x5 ≤ 10))) else (none)) else (none)) else (if x5 ≤ x6 then (if x5 = x8 then (if x5 ≥ 1 then (some (decide (x5 ≤ 10))) else (none)) else (none)) else (none))) else (none))))) else (if x8 = 9 then (if x0 ≥ x7 then ((cleatlaw18_sent.f k).bind fun t140 => (if t140 = true then (if x0 > x1 then (if x5 = 10 then (if x5 ≥ 1 then (some (decide (x5 ≤ 10))) else (none)) else (none)) else (if x5 ≤ x6 then (if x5 = 10 then (if x5 ≥ 1 then (some (decide (x5 ≤ 10))) else (none)) else (none)) else (none))) else (none))) else ((cleatlaw18_sent.f k).bind fun t141 => (if t141 = true then (if x0 > x1 then (if x5 = x8 then (if x5 ≥ 1 then (some (decide (x5 ≤ 10))) else (none)) else (none)) else (if x5 ≤ x6 then (if x5 = x8 then (if x5 ≥ 1 then (some (decide (x5 ≤ 10))) else (none)) else (none)) else (none))) else (none)))) else ((cleatlaw18_sent.f k).bind fun t142 => (if t142 = true then (if x0 > x1 then (if x5 = x8 then (if x5 ≥ 1 then (some (decide (x5 ≤ 10))) else (none)) else (none)) else (if x5 ≤ x6 then (if x5 = x8 then (if x5 ≥ 1 then (some (decide (x5 ≤ 10))) else (none)) else (none)) else (none))) else (none))))
def cleatlaw18_WireOrder.f (k : Nat) (a0 : Int) (a1 : Int) : Option (Bool) := (wire_Put.f a0).bind fun t134 => ((wire_Put.f a1).bind fun t135 => (cleatlaw18_WireOrder.l0 k a0 a1 (t134.size : Int) (t135.size : Int) 128 1))
theorem cleatlaw18_WireOrder.mono_l : ∀ k, (∀ y0 y1 y2 y3 y4 y5, LeO (cleatlaw18_WireOrder.l0 k y0 y1 y2 y3 y4 y5) (cleatlaw18_WireOrder.l0 (k + 1) y0 y1 y2 y3 y4 y5))
  | 0 => fun _ _ _ _ _ _ r h => by simp [cleatlaw18_WireOrder.l0] at h
  | k + 1 => by
    have ih0 := cleatlaw18_WireOrder.mono_l k
    · intro y0 y1 y2 y3 y4 y5
      unfold cleatlaw18_WireOrder.l0
      repeat' first
      | (with_reducible exact ih0 _ _ _ _ _ _)
      | (with_reducible exact cleatlaw18_sent.mono _)
      | (with_reducible exact LeO.refl _)
      | (with_reducible exact LeO.none _)
      | (with_reducible refine LeO.ite ?_ ?_)
      | (with_reducible refine LeO.bind ?_ (fun _ => ?_))
      | exact ih0 _ _ _ _ _ _
      | exact cleatlaw18_sent.mono _
      | exact LeO.none _
      | refine LeO.ite ?_ ?_
      | refine LeO.bind ?_ (fun _ => ?_)
theorem cleatlaw18_WireOrder.mono : ∀ a0 a1 k, LeO (cleatlaw18_WireOrder.f k a0 a1) (cleatlaw18_WireOrder.f (k + 1) a0 a1) := by
  intro a0 a1 k
  have ih0 := cleatlaw18_WireOrder.mono_l k
  unfold cleatlaw18_WireOrder.f
  repeat' first
      | (with_reducible exact ih0 _ _ _ _ _ _)
      | (with_reducible exact cleatlaw18_sent.mono _)
      | (with_reducible exact LeO.refl _)
      | (with_reducible exact LeO.none _)
      | (with_reducible refine LeO.ite ?_ ?_)
      | (with_reducible refine LeO.bind ?_ (fun _ => ?_))
      | exact ih0 _ _ _ _ _ _
      | exact cleatlaw18_sent.mono _
      | exact LeO.none _
      | refine LeO.ite ?_ ?_
      | refine LeO.bind ?_ (fun _ => ?_)
set_option maxHeartbeats 8000000 in
set_option maxRecDepth 100000 in
theorem cleatlaw18_WireOrder.calls (k : Nat) (a0 : Int) (a1 : Int) (r : Bool) (w : World) (h : cleatlaw18_WireOrder.f k a0 a1 = some r) :
    Calls Try.prog 4 #[.int .u64 a0, .int .u64 a1] w fun e w' => e = .returned (.bool r) ∧ Below w.heap.size w w' := by
  have HB := Aside0.mk (Below.refl w.heap.size w)
  have H : ((wire_Put.f a0).bind fun t134 => ((wire_Put.f a1).bind fun t135 => (cleatlaw18_WireOrder.l0 k a0 a1 (t134.size : Int) (t135.size : Int) 128 1))) = some r := h
  clear h
  replace H := Option.bind_eq_some_iff.mp H
  obtain ⟨t134, A30, H⟩ := H
  replace H : ((wire_Put.f a1).bind fun t135 => (cleatlaw18_WireOrder.l0 k a0 a1 (t134.size : Int) (t135.size : Int) 128 1)) = some r := H
  have A3 := Aside0.mk A30
  clear A30
  replace H := Option.bind_eq_some_iff.mp H
  obtain ⟨t135, A40, H⟩ := H
  replace H : (cleatlaw18_WireOrder.l0 k a0 a1 (t134.size : Int) (t135.size : Int) 128 1) = some r := H
  have A4 := Aside0.mk A40
  clear A40
  have H' := Aside0.mk H
  clear H
  go_enter Try.func4, Try.ntmps4
  go_wp2_with (first | ((with_reducible refine gate_callee (f := 8) rfl ?_); refine goesL_ (some 10) rfl rfl Try.func8 (by kernel_rfl) rfl #[.int .u64 a0] rfl (by (try simp only [List.map_toArray, List.map_cons, List.map_nil]); first | done | rfl | (simp only [List.length_drop, List.length_take]; rfl)) ?_; (with_reducible refine (wire_Put.calls a0 t134 _ A3.out).mono ?_); rintro e w5 ⟨rfl, hb⟩; refine ⟨_, rfl, ?_⟩; have n0_ := Aside0.mk (below_step (by repeat (first | (with_reducible first | exact HB.out | apply below_alloc | apply pw_below_drewN | apply below_drew1) | exact HB.out)) hb); clear HB; have HB := n0_; clear n0_; (try clear hb); (try clear hb2); (try clear hk); (try clear hi)) | ((with_reducible refine gate_callee (f := 8) rfl ?_); refine goesL_ (some 13) rfl rfl Try.func8 (by kernel_rfl) rfl #[.int .u64 a1] rfl (by (try simp only [List.map_toArray, List.map_cons, List.map_nil]); first | done | rfl | (simp only [List.length_drop, List.length_take]; rfl)) ?_; (with_reducible refine (wire_Put.calls a1 t135 _ A4.out).mono ?_); rintro e w6 ⟨rfl, hb⟩; refine ⟨_, rfl, ?_⟩; have n0_ := Aside0.mk (below_step (by repeat (first | (with_reducible first | exact HB.out | apply below_alloc | apply pw_below_drewN | apply below_drew1) | exact HB.out)) hb); clear HB; have HB := n0_; clear n0_; (try clear hb); (try clear hb2); (try clear hk); (try clear hi)))
  go_loopg [7, 8] k (fun kq v7 v8 w' => ∃ (x7_1 : Int) (x8_1 : Int), v7 = .int .u64 x7_1 ∧ v8 = .int .i64 x8_1 ∧ Aside0 (cleatlaw18_WireOrder.l0 kq a0 a1 (t134.size : Int) (t135.size : Int) x7_1 x8_1 = some r) ∧ Aside0 (kq ≤ k) ∧ Aside0 (Below w.heap.size w w'))
  case atStart => exact ⟨(128), (1), (by first | rfl | (simp; done) | (simp [*]; done)), (by first | rfl | (simp; done) | (simp [*]; done)), H', ⟨Nat.le_refl _⟩, ⟨by repeat (first | (with_reducible first | exact HB.out | apply below_alloc | apply pw_below_drewN | apply below_drew1) | exact HB.out)⟩⟩
  case round =>
    clear H'
    try clear p2
    try clear c4
    obtain ⟨x7_1, x8_1, rfl, rfl, HA, HK1, HB⟩ := hrel
    cases gk with
    | zero => exact absurd HA.out (by simp [cleatlaw18_WireOrder.l0])
    | succ k1 =>
      have H := HA.out
      clear HA
      simp only [cleatlaw18_WireOrder.l0] at H
      by_cases c7 : x8_1 < 10
      · rw [if_pos c7] at H
        have c7b0 : decide (x8_1 < 10) = true := decide_eq_true c7
        clear c7
        by_cases c8 : a0 ≥ x7_1
        · rw [if_pos c8] at H
          have c8b0 : decide (x7_1 ≤ a0) = true := decide_eq_true c8
          clear c8
          by_cases c9 : x8_1 < 9
          · rw [if_pos c9] at H
            have c9b0 : decide (x8_1 < 9) = true := decide_eq_true c9
            clear c9
            have H' := Aside0.mk H
            clear H
            go_wp2
            go_roundg k1
            case measure => have := HK1.out; omega
            case rel => exact ⟨(IntKind.u64.wrap (128 * x7_1)), (wrap64 (x8_1 + 1)), (by first | rfl | (simp; done) | (simp [*]; done)), (by first | rfl | (simp; done) | (simp [*]; done)), H', ⟨by have := HK1.out; omega⟩, ⟨by repeat (first | (with_reducible first | exact HB.out | apply below_alloc | apply pw_below_drewN | apply below_drew1) | exact HB.out)⟩⟩
          · rw [if_neg c9] at H
            have c9b0 : decide (x8_1 < 9) = false := decide_eq_false c9
            clear c9
            by_cases c10 : x8_1 = 9
            · rw [if_pos c10] at H
              have c10b0 : (x8_1 == 9) = true := beq_iff_eq.mpr c10
              have c10b1 : (x8_1 != 9) = false := bne_eq_false_iff_eq.mpr c10
              clear c10
              replace H := Option.bind_eq_some_iff.mp H
              obtain ⟨t136, A110, H⟩ := H
              replace H : (if t136 = true then (if a0 > a1 then (if (t134.size : Int) = 10 then (if (t134.size : Int) ≥ 1 then (some (decide ((t134.size : Int) ≤ 10))) else (none)) else (none)) else (if (t134.size : Int) ≤ (t135.size : Int) then (if (t134.size : Int) = 10 then (if (t134.size : Int) ≥ 1 then (some (decide ((t134.size : Int) ≤ 10))) else (none)) else (none)) else (none))) else (none)) = some r := H
              have A11 := Aside0.mk A110
              clear A110
              by_cases c12 : t136 = true
              · subst c12
                have H1 : (if a0 > a1 then (if (t134.size : Int) = 10 then (if (t134.size : Int) ≥ 1 then (some (decide ((t134.size : Int) ≤ 10))) else (none)) else (none)) else (if (t134.size : Int) ≤ (t135.size : Int) then (if (t134.size : Int) = 10 then (if (t134.size : Int) ≥ 1 then (some (decide ((t134.size : Int) ≤ 10))) else (none)) else (none)) else (none))) = some r := by rw [if_pos rfl] at H; exact H
                clear H
                have H := H1
                clear H1
                by_cases c13 : a0 > a1
                · rw [if_pos c13] at H
                  have c13b0 : decide (a1 < a0) = true := decide_eq_true c13
                  clear c13
                  by_cases c14 : (t134.size : Int) = 10
                  · rw [if_pos c14] at H
                    have c14b0 : ((t134.size : Int) == 10) = true := beq_iff_eq.mpr c14
                    have c14b1 : ((t134.size : Int) != 10) = false := bne_eq_false_iff_eq.mpr c14
                    clear c14
                    by_cases c15 : (t134.size : Int) ≥ 1
                    · rw [if_pos c15] at H
                      have c15b0 : decide (1 ≤ (t134.size : Int)) = true := decide_eq_true c15
                      have c15b1 : decide (1 ≤ t134.size) = true := decide_eq_true (by omega)
                      clear c15
                      obtain rfl := Option.some.inj H
                      go_wp2_with (first | ((with_reducible refine gate_callee (f := 10) rfl ?_); refine goesL_ (some 37) rfl rfl Try.func10 (by kernel_rfl) rfl #[] rfl (by (try simp only [List.map_toArray, List.map_cons, List.map_nil]); first | done | rfl | (simp only [List.length_drop, List.length_take]; rfl)) ?_; (with_reducible refine (cleatlaw18_sent.calls k1  true _ A11.out).mono ?_); rintro e w16 ⟨rfl, hb⟩; refine ⟨_, rfl, ?_⟩; have n0_ := Aside0.mk (below_step (by repeat (first | (with_reducible first | exact HB.out | apply below_alloc | apply pw_below_drewN | apply below_drew1) | exact HB.out)) hb); clear HB; have HB := n0_; clear n0_; (try clear hb); (try clear hb2); (try clear hk); (try clear hi)))
                      go_ret
                      exact ⟨by first | rfl | (simp [errW_none, errW_some] <;> rfl) | (simp [*, errW_none, errW_some] <;> rfl), by repeat (first | (with_reducible first | exact HB.out | apply below_alloc | apply pw_below_drewN | apply below_drew1) | exact HB.out)⟩
                    · rw [if_neg c15] at H
                      exact absurd H (by simp)
                  · rw [if_neg c14] at H
                    exact absurd H (by simp)
                · rw [if_neg c13] at H
                  have c13b0 : decide (a1 < a0) = false := decide_eq_false c13
                  clear c13
                  by_cases c17 : (t134.size : Int) ≤ (t135.size : Int)
                  · rw [if_pos c17] at H
                    have c17b0 : decide ((t134.size : Int) ≤ (t135.size : Int)) = true := decide_eq_true c17
                    have c17b1 : decide (t134.size ≤ t135.size) = true := decide_eq_true (Int.ofNat_le.mp c17)
                    clear c17
                    by_cases c18 : (t134.size : Int) = 10
                    · rw [if_pos c18] at H
                      have c18b0 : ((t134.size : Int) == 10) = true := beq_iff_eq.mpr c18
                      have c18b1 : ((t134.size : Int) != 10) = false := bne_eq_false_iff_eq.mpr c18
                      clear c18
                      by_cases c19 : (t134.size : Int) ≥ 1
                      · rw [if_pos c19] at H
                        have c19b0 : decide (1 ≤ (t134.size : Int)) = true := decide_eq_true c19
                        have c19b1 : decide (1 ≤ t134.size) = true := decide_eq_true (by omega)
                        clear c19
                        obtain rfl := Option.some.inj H
                        go_wp2_with (first | ((with_reducible refine gate_callee (f := 10) rfl ?_); refine goesL_ (some 37) rfl rfl Try.func10 (by kernel_rfl) rfl #[] rfl (by (try simp only [List.map_toArray, List.map_cons, List.map_nil]); first | done | rfl | (simp only [List.length_drop, List.length_take]; rfl)) ?_; (with_reducible refine (cleatlaw18_sent.calls k1  true _ A11.out).mono ?_); rintro e w20 ⟨rfl, hb⟩; refine ⟨_, rfl, ?_⟩; have n0_ := Aside0.mk (below_step (by repeat (first | (with_reducible first | exact HB.out | apply below_alloc | apply pw_below_drewN | apply below_drew1) | exact HB.out)) hb); clear HB; have HB := n0_; clear n0_; (try clear hb); (try clear hb2); (try clear hk); (try clear hi)))
                        go_ret
                        exact ⟨by first | rfl | (simp [errW_none, errW_some] <;> rfl) | (simp [*, errW_none, errW_some] <;> rfl), by repeat (first | (with_reducible first | exact HB.out | apply below_alloc | apply pw_below_drewN | apply below_drew1) | exact HB.out)⟩
                      · rw [if_neg c19] at H
                        exact absurd H (by simp)
                    · rw [if_neg c18] at H
                      exact absurd H (by simp)
                  · rw [if_neg c17] at H
                    exact absurd H (by simp)
              · replace c12 := Bool.eq_false_iff.mpr c12
                subst c12
                have H1 : (none) = some r := by rw [if_neg (show ¬ (false = true) by decide)] at H; exact H
                clear H
                have H := H1
                clear H1
                exact absurd H (by simp)
            · rw [if_neg c10] at H
              have c10b0 : (x8_1 == 9) = false := beq_eq_false_iff_ne.mpr c10
              have c10b1 : (x8_1 != 9) = true := bne_iff_ne.mpr c10
              replace H := Option.bind_eq_some_iff.mp H
              obtain ⟨t137, A210, H⟩ := H
              replace H : (if t137 = true then (if a0 > a1 then (if (t134.size : Int) = x8_1 then (if (t134.size : Int) ≥ 1 then (some (decide ((t134.size : Int) ≤ 10))) else (none)) else (none)) else (if (t134.size : Int) ≤ (t135.size : Int) then (if (t134.size : Int) = x8_1 then (if (t134.size : Int) ≥ 1 then (some (decide ((t134.size : Int) ≤ 10))) else (none)) else (none)) else (none))) else (none)) = some r := H
              have A21 := Aside0.mk A210
              clear A210
              by_cases c22 : t137 = true
              · subst c22
                have H1 : (if a0 > a1 then (if (t134.size : Int) = x8_1 then (if (t134.size : Int) ≥ 1 then (some (decide ((t134.size : Int) ≤ 10))) else (none)) else (none)) else (if (t134.size : Int) ≤ (t135.size : Int) then (if (t134.size : Int) = x8_1 then (if (t134.size : Int) ≥ 1 then (some (decide ((t134.size : Int) ≤ 10))) else (none)) else (none)) else (none))) = some r := by rw [if_pos rfl] at H; exact H
                clear H
                have H := H1
                clear H1
                by_cases c23 : a0 > a1
                · rw [if_pos c23] at H
                  have c23b0 : decide (a1 < a0) = true := decide_eq_true c23
                  clear c23
                  by_cases c24 : (t134.size : Int) = x8_1
                  · rw [if_pos c24] at H
                    have c24b0 : ((t134.size : Int) == x8_1) = true := beq_iff_eq.mpr c24
                    have c24b1 : ((t134.size : Int) != x8_1) = false := bne_eq_false_iff_eq.mpr c24
                    clear c24
                    by_cases c25 : (t134.size : Int) ≥ 1
                    · rw [if_pos c25] at H
                      have c25b0 : decide (1 ≤ (t134.size : Int)) = true := decide_eq_true c25
                      have c25b1 : decide (1 ≤ t134.size) = true := decide_eq_true (by omega)
                      clear c25
                      obtain rfl := Option.some.inj H
                      go_wp2_with (first | ((with_reducible refine gate_callee (f := 10) rfl ?_); refine goesL_ (some 37) rfl rfl Try.func10 (by kernel_rfl) rfl #[] rfl (by (try simp only [List.map_toArray, List.map_cons, List.map_nil]); first | done | rfl | (simp only [List.length_drop, List.length_take]; rfl)) ?_; (with_reducible refine (cleatlaw18_sent.calls k1  true _ A21.out).mono ?_); rintro e w26 ⟨rfl, hb⟩; refine ⟨_, rfl, ?_⟩; have n0_ := Aside0.mk (below_step (by repeat (first | (with_reducible first | exact HB.out | apply below_alloc | apply pw_below_drewN | apply below_drew1) | exact HB.out)) hb); clear HB; have HB := n0_; clear n0_; (try clear hb); (try clear hb2); (try clear hk); (try clear hi)))
                      go_ret
                      exact ⟨by first | rfl | (simp [errW_none, errW_some] <;> rfl) | (simp [*, errW_none, errW_some] <;> rfl), by repeat (first | (with_reducible first | exact HB.out | apply below_alloc | apply pw_below_drewN | apply below_drew1) | exact HB.out)⟩
                    · rw [if_neg c25] at H
                      exact absurd H (by simp)
                  · rw [if_neg c24] at H
                    exact absurd H (by simp)
                · rw [if_neg c23] at H
                  have c23b0 : decide (a1 < a0) = false := decide_eq_false c23
                  clear c23
                  by_cases c27 : (t134.size : Int) ≤ (t135.size : Int)
                  · rw [if_pos c27] at H
                    have c27b0 : decide ((t134.size : Int) ≤ (t135.size : Int)) = true := decide_eq_true c27
                    have c27b1 : decide (t134.size ≤ t135.size) = true := decide_eq_true (Int.ofNat_le.mp c27)
                    clear c27
                    by_cases c28 : (t134.size : Int) = x8_1
                    · rw [if_pos c28] at H
                      have c28b0 : ((t134.size : Int) == x8_1) = true := beq_iff_eq.mpr c28
                      have c28b1 : ((t134.size : Int) != x8_1) = false := bne_eq_false_iff_eq.mpr c28
                      clear c28
                      by_cases c29 : (t134.size : Int) ≥ 1
                      · rw [if_pos c29] at H
                        have c29b0 : decide (1 ≤ (t134.size : Int)) = true := decide_eq_true c29
                        have c29b1 : decide (1 ≤ t134.size) = true := decide_eq_true (by omega)
                        clear c29
                        obtain rfl := Option.some.inj H
                        go_wp2_with (first | ((with_reducible refine gate_callee (f := 10) rfl ?_); refine goesL_ (some 37) rfl rfl Try.func10 (by kernel_rfl) rfl #[] rfl (by (try simp only [List.map_toArray, List.map_cons, List.map_nil]); first | done | rfl | (simp only [List.length_drop, List.length_take]; rfl)) ?_; (with_reducible refine (cleatlaw18_sent.calls k1  true _ A21.out).mono ?_); rintro e w30 ⟨rfl, hb⟩; refine ⟨_, rfl, ?_⟩; have n0_ := Aside0.mk (below_step (by repeat (first | (with_reducible first | exact HB.out | apply below_alloc | apply pw_below_drewN | apply below_drew1) | exact HB.out)) hb); clear HB; have HB := n0_; clear n0_; (try clear hb); (try clear hb2); (try clear hk); (try clear hi)))
                        go_ret
                        exact ⟨by first | rfl | (simp [errW_none, errW_some] <;> rfl) | (simp [*, errW_none, errW_some] <;> rfl), by repeat (first | (with_reducible first | exact HB.out | apply below_alloc | apply pw_below_drewN | apply below_drew1) | exact HB.out)⟩
                      · rw [if_neg c29] at H
                        exact absurd H (by simp)
                    · rw [if_neg c28] at H
                      exact absurd H (by simp)
                  · rw [if_neg c27] at H
                    exact absurd H (by simp)
              · replace c22 := Bool.eq_false_iff.mpr c22
                subst c22
                have H1 : (none) = some r := by rw [if_neg (show ¬ (false = true) by decide)] at H; exact H
                clear H
                have H := H1
                clear H1
                exact absurd H (by simp)
        · rw [if_neg c8] at H
          have c8b0 : decide (x7_1 ≤ a0) = false := decide_eq_false c8
          clear c8
          by_cases c31 : x8_1 = 9
          · rw [if_pos c31] at H
            have c31b0 : (x8_1 == 9) = true := beq_iff_eq.mpr c31
            have c31b1 : (x8_1 != 9) = false := bne_eq_false_iff_eq.mpr c31
            clear c31
            replace H := Option.bind_eq_some_iff.mp H
            obtain ⟨t138, A320, H⟩ := H
            replace H : (if t138 = true then (if a0 > a1 then (if (t134.size : Int) = x8_1 then (if (t134.size : Int) ≥ 1 then (some (decide ((t134.size : Int) ≤ 10))) else (none)) else (none)) else (if (t134.size : Int) ≤ (t135.size : Int) then (if (t134.size : Int) = x8_1 then (if (t134.size : Int) ≥ 1 then (some (decide ((t134.size : Int) ≤ 10))) else (none)) else (none)) else (none))) else (none)) = some r := H
            have A32 := Aside0.mk A320
            clear A320
            by_cases c33 : t138 = true
            · subst c33
              have H1 : (if a0 > a1 then (if (t134.size : Int) = x8_1 then (if (t134.size : Int) ≥ 1 then (some (decide ((t134.size : Int) ≤ 10))) else (none)) else (none)) else (if (t134.size : Int) ≤ (t135.size : Int) then (if (t134.size : Int) = x8_1 then (if (t134.size : Int) ≥ 1 then (some (decide ((t134.size : Int) ≤ 10))) else (none)) else (none)) else (none))) = some r := by rw [if_pos rfl] at H; exact H
              clear H
              have H := H1
              clear H1
              by_cases c34 : a0 > a1
              · rw [if_pos c34] at H
                have c34b0 : decide (a1 < a0) = true := decide_eq_true c34
                clear c34
                by_cases c35 : (t134.size : Int) = x8_1
                · rw [if_pos c35] at H
                  have c35b0 : ((t134.size : Int) == x8_1) = true := beq_iff_eq.mpr c35
                  have c35b1 : ((t134.size : Int) != x8_1) = false := bne_eq_false_iff_eq.mpr c35
                  clear c35
                  by_cases c36 : (t134.size : Int) ≥ 1
                  · rw [if_pos c36] at H
                    have c36b0 : decide (1 ≤ (t134.size : Int)) = true := decide_eq_true c36
                    have c36b1 : decide (1 ≤ t134.size) = true := decide_eq_true (by omega)
                    clear c36
                    obtain rfl := Option.some.inj H
                    go_wp2_with (first | ((with_reducible refine gate_callee (f := 10) rfl ?_); refine goesL_ (some 37) rfl rfl Try.func10 (by kernel_rfl) rfl #[] rfl (by (try simp only [List.map_toArray, List.map_cons, List.map_nil]); first | done | rfl | (simp only [List.length_drop, List.length_take]; rfl)) ?_; (with_reducible refine (cleatlaw18_sent.calls k1  true _ A32.out).mono ?_); rintro e w37 ⟨rfl, hb⟩; refine ⟨_, rfl, ?_⟩; have n0_ := Aside0.mk (below_step (by repeat (first | (with_reducible first | exact HB.out | apply below_alloc | apply pw_below_drewN | apply below_drew1) | exact HB.out)) hb); clear HB; have HB := n0_; clear n0_; (try clear hb); (try clear hb2); (try clear hk); (try clear hi)))
                    go_ret
                    exact ⟨by first | rfl | (simp [errW_none, errW_some] <;> rfl) | (simp [*, errW_none, errW_some] <;> rfl), by repeat (first | (with_reducible first | exact HB.out | apply below_alloc | apply pw_below_drewN | apply below_drew1) | exact HB.out)⟩
                  · rw [if_neg c36] at H
                    exact absurd H (by simp)
                · rw [if_neg c35] at H
                  exact absurd H (by simp)
              · rw [if_neg c34] at H
                have c34b0 : decide (a1 < a0) = false := decide_eq_false c34
                clear c34
                by_cases c38 : (t134.size : Int) ≤ (t135.size : Int)
                · rw [if_pos c38] at H
                  have c38b0 : decide ((t134.size : Int) ≤ (t135.size : Int)) = true := decide_eq_true c38
                  have c38b1 : decide (t134.size ≤ t135.size) = true := decide_eq_true (Int.ofNat_le.mp c38)
                  clear c38
                  by_cases c39 : (t134.size : Int) = x8_1
                  · rw [if_pos c39] at H
                    have c39b0 : ((t134.size : Int) == x8_1) = true := beq_iff_eq.mpr c39
                    have c39b1 : ((t134.size : Int) != x8_1) = false := bne_eq_false_iff_eq.mpr c39
                    clear c39
                    by_cases c40 : (t134.size : Int) ≥ 1
                    · rw [if_pos c40] at H
                      have c40b0 : decide (1 ≤ (t134.size : Int)) = true := decide_eq_true c40
                      have c40b1 : decide (1 ≤ t134.size) = true := decide_eq_true (by omega)
                      clear c40
                      obtain rfl := Option.some.inj H
                      go_wp2_with (first | ((with_reducible refine gate_callee (f := 10) rfl ?_); refine goesL_ (some 37) rfl rfl Try.func10 (by kernel_rfl) rfl #[] rfl (by (try simp only [List.map_toArray, List.map_cons, List.map_nil]); first | done | rfl | (simp only [List.length_drop, List.length_take]; rfl)) ?_; (with_reducible refine (cleatlaw18_sent.calls k1  true _ A32.out).mono ?_); rintro e w41 ⟨rfl, hb⟩; refine ⟨_, rfl, ?_⟩; have n0_ := Aside0.mk (below_step (by repeat (first | (with_reducible first | exact HB.out | apply below_alloc | apply pw_below_drewN | apply below_drew1) | exact HB.out)) hb); clear HB; have HB := n0_; clear n0_; (try clear hb); (try clear hb2); (try clear hk); (try clear hi)))
                      go_ret
                      exact ⟨by first | rfl | (simp [errW_none, errW_some] <;> rfl) | (simp [*, errW_none, errW_some] <;> rfl), by repeat (first | (with_reducible first | exact HB.out | apply below_alloc | apply pw_below_drewN | apply below_drew1) | exact HB.out)⟩
                    · rw [if_neg c40] at H
                      exact absurd H (by simp)
                  · rw [if_neg c39] at H
                    exact absurd H (by simp)
                · rw [if_neg c38] at H
                  exact absurd H (by simp)
            · replace c33 := Bool.eq_false_iff.mpr c33
              subst c33
              have H1 : (none) = some r := by rw [if_neg (show ¬ (false = true) by decide)] at H; exact H
              clear H
              have H := H1
              clear H1
              exact absurd H (by simp)
          · rw [if_neg c31] at H
            have c31b0 : (x8_1 == 9) = false := beq_eq_false_iff_ne.mpr c31
            have c31b1 : (x8_1 != 9) = true := bne_iff_ne.mpr c31
            replace H := Option.bind_eq_some_iff.mp H
            obtain ⟨t139, A420, H⟩ := H
            replace H : (if t139 = true then (if a0 > a1 then (if (t134.size : Int) = x8_1 then (if (t134.size : Int) ≥ 1 then (some (decide ((t134.size : Int) ≤ 10))) else (none)) else (none)) else (if (t134.size : Int) ≤ (t135.size : Int) then (if (t134.size : Int) = x8_1 then (if (t134.size : Int) ≥ 1 then (some (decide ((t134.size : Int) ≤ 10))) else (none)) else (none)) else (none))) else (none)) = some r := H
            have A42 := Aside0.mk A420
            clear A420
            by_cases c43 : t139 = true
            · subst c43
              have H1 : (if a0 > a1 then (if (t134.size : Int) = x8_1 then (if (t134.size : Int) ≥ 1 then (some (decide ((t134.size : Int) ≤ 10))) else (none)) else (none)) else (if (t134.size : Int) ≤ (t135.size : Int) then (if (t134.size : Int) = x8_1 then (if (t134.size : Int) ≥ 1 then (some (decide ((t134.size : Int) ≤ 10))) else (none)) else (none)) else (none))) = some r := by rw [if_pos rfl] at H; exact H
              clear H
              have H := H1
              clear H1
              by_cases c44 : a0 > a1
              · rw [if_pos c44] at H
                have c44b0 : decide (a1 < a0) = true := decide_eq_true c44
                clear c44
                by_cases c45 : (t134.size : Int) = x8_1
                · rw [if_pos c45] at H
                  have c45b0 : ((t134.size : Int) == x8_1) = true := beq_iff_eq.mpr c45
                  have c45b1 : ((t134.size : Int) != x8_1) = false := bne_eq_false_iff_eq.mpr c45
                  clear c45
                  by_cases c46 : (t134.size : Int) ≥ 1
                  · rw [if_pos c46] at H
                    have c46b0 : decide (1 ≤ (t134.size : Int)) = true := decide_eq_true c46
                    have c46b1 : decide (1 ≤ t134.size) = true := decide_eq_true (by omega)
                    clear c46
                    obtain rfl := Option.some.inj H
                    go_wp2_with (first | ((with_reducible refine gate_callee (f := 10) rfl ?_); refine goesL_ (some 37) rfl rfl Try.func10 (by kernel_rfl) rfl #[] rfl (by (try simp only [List.map_toArray, List.map_cons, List.map_nil]); first | done | rfl | (simp only [List.length_drop, List.length_take]; rfl)) ?_; (with_reducible refine (cleatlaw18_sent.calls k1  true _ A42.out).mono ?_); rintro e w47 ⟨rfl, hb⟩; refine ⟨_, rfl, ?_⟩; have n0_ := Aside0.mk (below_step (by repeat (first | (with_reducible first | exact HB.out | apply below_alloc | apply pw_below_drewN | apply below_drew1) | exact HB.out)) hb); clear HB; have HB := n0_; clear n0_; (try clear hb); (try clear hb2); (try clear hk); (try clear hi)))
                    go_ret
                    exact ⟨by first | rfl | (simp [errW_none, errW_some] <;> rfl) | (simp [*, errW_none, errW_some] <;> rfl), by repeat (first | (with_reducible first | exact HB.out | apply below_alloc | apply pw_below_drewN | apply below_drew1) | exact HB.out)⟩
                  · rw [if_neg c46] at H
                    exact absurd H (by simp)
                · rw [if_neg c45] at H
                  exact absurd H (by simp)
              · rw [if_neg c44] at H
                have c44b0 : decide (a1 < a0) = false := decide_eq_false c44
                clear c44
                by_cases c48 : (t134.size : Int) ≤ (t135.size : Int)
                · rw [if_pos c48] at H
                  have c48b0 : decide ((t134.size : Int) ≤ (t135.size : Int)) = true := decide_eq_true c48
                  have c48b1 : decide (t134.size ≤ t135.size) = true := decide_eq_true (Int.ofNat_le.mp c48)
                  clear c48
                  by_cases c49 : (t134.size : Int) = x8_1
                  · rw [if_pos c49] at H
                    have c49b0 : ((t134.size : Int) == x8_1) = true := beq_iff_eq.mpr c49
                    have c49b1 : ((t134.size : Int) != x8_1) = false := bne_eq_false_iff_eq.mpr c49
                    clear c49
                    by_cases c50 : (t134.size : Int) ≥ 1
                    · rw [if_pos c50] at H
                      have c50b0 : decide (1 ≤ (t134.size : Int)) = true := decide_eq_true c50
                      have c50b1 : decide (1 ≤ t134.size) = true := decide_eq_true (by omega)
                      clear c50
                      obtain rfl := Option.some.inj H
                      go_wp2_with (first | ((with_reducible refine gate_callee (f := 10) rfl ?_); refine goesL_ (some 37) rfl rfl Try.func10 (by kernel_rfl) rfl #[] rfl (by (try simp only [List.map_toArray, List.map_cons, List.map_nil]); first | done | rfl | (simp only [List.length_drop, List.length_take]; rfl)) ?_; (with_reducible refine (cleatlaw18_sent.calls k1  true _ A42.out).mono ?_); rintro e w51 ⟨rfl, hb⟩; refine ⟨_, rfl, ?_⟩; have n0_ := Aside0.mk (below_step (by repeat (first | (with_reducible first | exact HB.out | apply below_alloc | apply pw_below_drewN | apply below_drew1) | exact HB.out)) hb); clear HB; have HB := n0_; clear n0_; (try clear hb); (try clear hb2); (try clear hk); (try clear hi)))
                      go_ret
                      exact ⟨by first | rfl | (simp [errW_none, errW_some] <;> rfl) | (simp [*, errW_none, errW_some] <;> rfl), by repeat (first | (with_reducible first | exact HB.out | apply below_alloc | apply pw_below_drewN | apply below_drew1) | exact HB.out)⟩
                    · rw [if_neg c50] at H
                      exact absurd H (by simp)
                  · rw [if_neg c49] at H
                    exact absurd H (by simp)
                · rw [if_neg c48] at H
                  exact absurd H (by simp)
            · replace c43 := Bool.eq_false_iff.mpr c43
              subst c43
              have H1 : (none) = some r := by rw [if_neg (show ¬ (false = true) by decide)] at H; exact H
              clear H
              have H := H1
              clear H1
              exact absurd H (by simp)
      · rw [if_neg c7] at H
        have c7b0 : decide (x8_1 < 10) = false := decide_eq_false c7
        clear c7
        by_cases c52 : x8_1 = 9
        · rw [if_pos c52] at H
          have c52b0 : (x8_1 == 9) = true := beq_iff_eq.mpr c52
          have c52b1 : (x8_1 != 9) = false := bne_eq_false_iff_eq.mpr c52
          clear c52
          by_cases c53 : a0 ≥ x7_1
          · rw [if_pos c53] at H
            have c53b0 : decide (x7_1 ≤ a0) = true := decide_eq_true c53
            clear c53
            replace H := Option.bind_eq_some_iff.mp H
            obtain ⟨t140, A540, H⟩ := H
            replace H : (if t140 = true then (if a0 > a1 then (if (t134.size : Int) = 10 then (if (t134.size : Int) ≥ 1 then (some (decide ((t134.size : Int) ≤ 10))) else (none)) else (none)) else (if (t134.size : Int) ≤ (t135.size : Int) then (if (t134.size : Int) = 10 then (if (t134.size : Int) ≥ 1 then (some (decide ((t134.size : Int) ≤ 10))) else (none)) else (none)) else (none))) else (none)) = some r := H
            have A54 := Aside0.mk A540
            clear A540
            by_cases c55 : t140 = true
            · subst c55
              have H1 : (if a0 > a1 then (if (t134.size : Int) = 10 then (if (t134.size : Int) ≥ 1 then (some (decide ((t134.size : Int) ≤ 10))) else (none)) else (none)) else (if (t134.size : Int) ≤ (t135.size : Int) then (if (t134.size : Int) = 10 then (if (t134.size : Int) ≥ 1 then (some (decide ((t134.size : Int) ≤ 10))) else (none)) else (none)) else (none))) = some r := by rw [if_pos rfl] at H; exact H
              clear H
              have H := H1
              clear H1
              by_cases c56 : a0 > a1
              · rw [if_pos c56] at H
                have c56b0 : decide (a1 < a0) = true := decide_eq_true c56
                clear c56
                by_cases c57 : (t134.size : Int) = 10
                · rw [if_pos c57] at H
                  have c57b0 : ((t134.size : Int) == 10) = true := beq_iff_eq.mpr c57
                  have c57b1 : ((t134.size : Int) != 10) = false := bne_eq_false_iff_eq.mpr c57
                  clear c57
                  by_cases c58 : (t134.size : Int) ≥ 1
                  · rw [if_pos c58] at H
                    have c58b0 : decide (1 ≤ (t134.size : Int)) = true := decide_eq_true c58
                    have c58b1 : decide (1 ≤ t134.size) = true := decide_eq_true (by omega)
                    clear c58
                    obtain rfl := Option.some.inj H
                    go_wp2_with (first | ((with_reducible refine gate_callee (f := 10) rfl ?_); refine goesL_ (some 37) rfl rfl Try.func10 (by kernel_rfl) rfl #[] rfl (by (try simp only [List.map_toArray, List.map_cons, List.map_nil]); first | done | rfl | (simp only [List.length_drop, List.length_take]; rfl)) ?_; (with_reducible refine (cleatlaw18_sent.calls k1  true _ A54.out).mono ?_); rintro e w59 ⟨rfl, hb⟩; refine ⟨_, rfl, ?_⟩; have n0_ := Aside0.mk (below_step (by repeat (first | (with_reducible first | exact HB.out | apply below_alloc | apply pw_below_drewN | apply below_drew1) | exact HB.out)) hb); clear HB; have HB := n0_; clear n0_; (try clear hb); (try clear hb2); (try clear hk); (try clear hi)))
                    go_ret
                    exact ⟨by first | rfl | (simp [errW_none, errW_some] <;> rfl) | (simp [*, errW_none, errW_some] <;> rfl), by repeat (first | (with_reducible first | exact HB.out | apply below_alloc | apply pw_below_drewN | apply below_drew1) | exact HB.out)⟩
                  · rw [if_neg c58] at H
                    exact absurd H (by simp)
                · rw [if_neg c57] at H
                  exact absurd H (by simp)
              · rw [if_neg c56] at H
                have c56b0 : decide (a1 < a0) = false := decide_eq_false c56
                clear c56
                by_cases c60 : (t134.size : Int) ≤ (t135.size : Int)
                · rw [if_pos c60] at H
                  have c60b0 : decide ((t134.size : Int) ≤ (t135.size : Int)) = true := decide_eq_true c60
                  have c60b1 : decide (t134.size ≤ t135.size) = true := decide_eq_true (Int.ofNat_le.mp c60)
                  clear c60
                  by_cases c61 : (t134.size : Int) = 10
                  · rw [if_pos c61] at H
                    have c61b0 : ((t134.size : Int) == 10) = true := beq_iff_eq.mpr c61
                    have c61b1 : ((t134.size : Int) != 10) = false := bne_eq_false_iff_eq.mpr c61
                    clear c61
                    by_cases c62 : (t134.size : Int) ≥ 1
                    · rw [if_pos c62] at H
                      have c62b0 : decide (1 ≤ (t134.size : Int)) = true := decide_eq_true c62
                      have c62b1 : decide (1 ≤ t134.size) = true := decide_eq_true (by omega)
                      clear c62
                      obtain rfl := Option.some.inj H
                      go_wp2_with (first | ((with_reducible refine gate_callee (f := 10) rfl ?_); refine goesL_ (some 37) rfl rfl Try.func10 (by kernel_rfl) rfl #[] rfl (by (try simp only [List.map_toArray, List.map_cons, List.map_nil]); first | done | rfl | (simp only [List.length_drop, List.length_take]; rfl)) ?_; (with_reducible refine (cleatlaw18_sent.calls k1  true _ A54.out).mono ?_); rintro e w63 ⟨rfl, hb⟩; refine ⟨_, rfl, ?_⟩; have n0_ := Aside0.mk (below_step (by repeat (first | (with_reducible first | exact HB.out | apply below_alloc | apply pw_below_drewN | apply below_drew1) | exact HB.out)) hb); clear HB; have HB := n0_; clear n0_; (try clear hb); (try clear hb2); (try clear hk); (try clear hi)))
                      go_ret
                      exact ⟨by first | rfl | (simp [errW_none, errW_some] <;> rfl) | (simp [*, errW_none, errW_some] <;> rfl), by repeat (first | (with_reducible first | exact HB.out | apply below_alloc | apply pw_below_drewN | apply below_drew1) | exact HB.out)⟩
                    · rw [if_neg c62] at H
                      exact absurd H (by simp)
                  · rw [if_neg c61] at H
                    exact absurd H (by simp)
                · rw [if_neg c60] at H
                  exact absurd H (by simp)
            · replace c55 := Bool.eq_false_iff.mpr c55
              subst c55
              have H1 : (none) = some r := by rw [if_neg (show ¬ (false = true) by decide)] at H; exact H
              clear H
              have H := H1
              clear H1
              exact absurd H (by simp)
          · rw [if_neg c53] at H
            have c53b0 : decide (x7_1 ≤ a0) = false := decide_eq_false c53
            clear c53
            replace H := Option.bind_eq_some_iff.mp H
            obtain ⟨t141, A640, H⟩ := H
            replace H : (if t141 = true then (if a0 > a1 then (if (t134.size : Int) = x8_1 then (if (t134.size : Int) ≥ 1 then (some (decide ((t134.size : Int) ≤ 10))) else (none)) else (none)) else (if (t134.size : Int) ≤ (t135.size : Int) then (if (t134.size : Int) = x8_1 then (if (t134.size : Int) ≥ 1 then (some (decide ((t134.size : Int) ≤ 10))) else (none)) else (none)) else (none))) else (none)) = some r := H
            have A64 := Aside0.mk A640
            clear A640
            by_cases c65 : t141 = true
            · subst c65
              have H1 : (if a0 > a1 then (if (t134.size : Int) = x8_1 then (if (t134.size : Int) ≥ 1 then (some (decide ((t134.size : Int) ≤ 10))) else (none)) else (none)) else (if (t134.size : Int) ≤ (t135.size : Int) then (if (t134.size : Int) = x8_1 then (if (t134.size : Int) ≥ 1 then (some (decide ((t134.size : Int) ≤ 10))) else (none)) else (none)) else (none))) = some r := by rw [if_pos rfl] at H; exact H
              clear H
              have H := H1
              clear H1
              by_cases c66 : a0 > a1
              · rw [if_pos c66] at H
                have c66b0 : decide (a1 < a0) = true := decide_eq_true c66
                clear c66
                by_cases c67 : (t134.size : Int) = x8_1
                · rw [if_pos c67] at H
                  have c67b0 : ((t134.size : Int) == x8_1) = true := beq_iff_eq.mpr c67
                  have c67b1 : ((t134.size : Int) != x8_1) = false := bne_eq_false_iff_eq.mpr c67
                  clear c67
                  by_cases c68 : (t134.size : Int) ≥ 1
                  · rw [if_pos c68] at H
                    have c68b0 : decide (1 ≤ (t134.size : Int)) = true := decide_eq_true c68
                    have c68b1 : decide (1 ≤ t134.size) = true := decide_eq_true (by omega)
                    clear c68
                    obtain rfl := Option.some.inj H
                    go_wp2_with (first | ((with_reducible refine gate_callee (f := 10) rfl ?_); refine goesL_ (some 37) rfl rfl Try.func10 (by kernel_rfl) rfl #[] rfl (by (try simp only [List.map_toArray, List.map_cons, List.map_nil]); first | done | rfl | (simp only [List.length_drop, List.length_take]; rfl)) ?_; (with_reducible refine (cleatlaw18_sent.calls k1  true _ A64.out).mono ?_); rintro e w69 ⟨rfl, hb⟩; refine ⟨_, rfl, ?_⟩; have n0_ := Aside0.mk (below_step (by repeat (first | (with_reducible first | exact HB.out | apply below_alloc | apply pw_below_drewN | apply below_drew1) | exact HB.out)) hb); clear HB; have HB := n0_; clear n0_; (try clear hb); (try clear hb2); (try clear hk); (try clear hi)))
                    go_ret
                    exact ⟨by first | rfl | (simp [errW_none, errW_some] <;> rfl) | (simp [*, errW_none, errW_some] <;> rfl), by repeat (first | (with_reducible first | exact HB.out | apply below_alloc | apply pw_below_drewN | apply below_drew1) | exact HB.out)⟩
                  · rw [if_neg c68] at H
                    exact absurd H (by simp)
                · rw [if_neg c67] at H
                  exact absurd H (by simp)
              · rw [if_neg c66] at H
                have c66b0 : decide (a1 < a0) = false := decide_eq_false c66
                clear c66
                by_cases c70 : (t134.size : Int) ≤ (t135.size : Int)
                · rw [if_pos c70] at H
                  have c70b0 : decide ((t134.size : Int) ≤ (t135.size : Int)) = true := decide_eq_true c70
                  have c70b1 : decide (t134.size ≤ t135.size) = true := decide_eq_true (Int.ofNat_le.mp c70)
                  clear c70
                  by_cases c71 : (t134.size : Int) = x8_1
                  · rw [if_pos c71] at H
                    have c71b0 : ((t134.size : Int) == x8_1) = true := beq_iff_eq.mpr c71
                    have c71b1 : ((t134.size : Int) != x8_1) = false := bne_eq_false_iff_eq.mpr c71
                    clear c71
                    by_cases c72 : (t134.size : Int) ≥ 1
                    · rw [if_pos c72] at H
                      have c72b0 : decide (1 ≤ (t134.size : Int)) = true := decide_eq_true c72
                      have c72b1 : decide (1 ≤ t134.size) = true := decide_eq_true (by omega)
                      clear c72
                      obtain rfl := Option.some.inj H
                      go_wp2_with (first | ((with_reducible refine gate_callee (f := 10) rfl ?_); refine goesL_ (some 37) rfl rfl Try.func10 (by kernel_rfl) rfl #[] rfl (by (try simp only [List.map_toArray, List.map_cons, List.map_nil]); first | done | rfl | (simp only [List.length_drop, List.length_take]; rfl)) ?_; (with_reducible refine (cleatlaw18_sent.calls k1  true _ A64.out).mono ?_); rintro e w73 ⟨rfl, hb⟩; refine ⟨_, rfl, ?_⟩; have n0_ := Aside0.mk (below_step (by repeat (first | (with_reducible first | exact HB.out | apply below_alloc | apply pw_below_drewN | apply below_drew1) | exact HB.out)) hb); clear HB; have HB := n0_; clear n0_; (try clear hb); (try clear hb2); (try clear hk); (try clear hi)))
                      go_ret
                      exact ⟨by first | rfl | (simp [errW_none, errW_some] <;> rfl) | (simp [*, errW_none, errW_some] <;> rfl), by repeat (first | (with_reducible first | exact HB.out | apply below_alloc | apply pw_below_drewN | apply below_drew1) | exact HB.out)⟩
                    · rw [if_neg c72] at H
                      exact absurd H (by simp)
                  · rw [if_neg c71] at H
                    exact absurd H (by simp)
                · rw [if_neg c70] at H
                  exact absurd H (by simp)
            · replace c65 := Bool.eq_false_iff.mpr c65
              subst c65
              have H1 : (none) = some r := by rw [if_neg (show ¬ (false = true) by decide)] at H; exact H
              clear H
              have H := H1
              clear H1
              exact absurd H (by simp)
        · rw [if_neg c52] at H
          have c52b0 : (x8_1 == 9) = false := beq_eq_false_iff_ne.mpr c52
          have c52b1 : (x8_1 != 9) = true := bne_iff_ne.mpr c52
          replace H := Option.bind_eq_some_iff.mp H
          obtain ⟨t142, A740, H⟩ := H
          replace H : (if t142 = true then (if a0 > a1 then (if (t134.size : Int) = x8_1 then (if (t134.size : Int) ≥ 1 then (some (decide ((t134.size : Int) ≤ 10))) else (none)) else (none)) else (if (t134.size : Int) ≤ (t135.size : Int) then (if (t134.size : Int) = x8_1 then (if (t134.size : Int) ≥ 1 then (some (decide ((t134.size : Int) ≤ 10))) else (none)) else (none)) else (none))) else (none)) = some r := H
          have A74 := Aside0.mk A740
          clear A740
          by_cases c75 : t142 = true
          · subst c75
            have H1 : (if a0 > a1 then (if (t134.size : Int) = x8_1 then (if (t134.size : Int) ≥ 1 then (some (decide ((t134.size : Int) ≤ 10))) else (none)) else (none)) else (if (t134.size : Int) ≤ (t135.size : Int) then (if (t134.size : Int) = x8_1 then (if (t134.size : Int) ≥ 1 then (some (decide ((t134.size : Int) ≤ 10))) else (none)) else (none)) else (none))) = some r := by rw [if_pos rfl] at H; exact H
            clear H
            have H := H1
            clear H1
            by_cases c76 : a0 > a1
            · rw [if_pos c76] at H
              have c76b0 : decide (a1 < a0) = true := decide_eq_true c76
              clear c76
              by_cases c77 : (t134.size : Int) = x8_1
              · rw [if_pos c77] at H
                have c77b0 : ((t134.size : Int) == x8_1) = true := beq_iff_eq.mpr c77
                have c77b1 : ((t134.size : Int) != x8_1) = false := bne_eq_false_iff_eq.mpr c77
                clear c77
                by_cases c78 : (t134.size : Int) ≥ 1
                · rw [if_pos c78] at H
                  have c78b0 : decide (1 ≤ (t134.size : Int)) = true := decide_eq_true c78
                  have c78b1 : decide (1 ≤ t134.size) = true := decide_eq_true (by omega)
                  clear c78
                  obtain rfl := Option.some.inj H
                  go_wp2_with (first | ((with_reducible refine gate_callee (f := 10) rfl ?_); refine goesL_ (some 37) rfl rfl Try.func10 (by kernel_rfl) rfl #[] rfl (by (try simp only [List.map_toArray, List.map_cons, List.map_nil]); first | done | rfl | (simp only [List.length_drop, List.length_take]; rfl)) ?_; (with_reducible refine (cleatlaw18_sent.calls k1  true _ A74.out).mono ?_); rintro e w79 ⟨rfl, hb⟩; refine ⟨_, rfl, ?_⟩; have n0_ := Aside0.mk (below_step (by repeat (first | (with_reducible first | exact HB.out | apply below_alloc | apply pw_below_drewN | apply below_drew1) | exact HB.out)) hb); clear HB; have HB := n0_; clear n0_; (try clear hb); (try clear hb2); (try clear hk); (try clear hi)))
                  go_ret
                  exact ⟨by first | rfl | (simp [errW_none, errW_some] <;> rfl) | (simp [*, errW_none, errW_some] <;> rfl), by repeat (first | (with_reducible first | exact HB.out | apply below_alloc | apply pw_below_drewN | apply below_drew1) | exact HB.out)⟩
                · rw [if_neg c78] at H
                  exact absurd H (by simp)
              · rw [if_neg c77] at H
                exact absurd H (by simp)
            · rw [if_neg c76] at H
              have c76b0 : decide (a1 < a0) = false := decide_eq_false c76
              clear c76
              by_cases c80 : (t134.size : Int) ≤ (t135.size : Int)
              · rw [if_pos c80] at H
                have c80b0 : decide ((t134.size : Int) ≤ (t135.size : Int)) = true := decide_eq_true c80
                have c80b1 : decide (t134.size ≤ t135.size) = true := decide_eq_true (Int.ofNat_le.mp c80)
                clear c80
                by_cases c81 : (t134.size : Int) = x8_1
                · rw [if_pos c81] at H
                  have c81b0 : ((t134.size : Int) == x8_1) = true := beq_iff_eq.mpr c81
                  have c81b1 : ((t134.size : Int) != x8_1) = false := bne_eq_false_iff_eq.mpr c81
                  clear c81
                  by_cases c82 : (t134.size : Int) ≥ 1
                  · rw [if_pos c82] at H
                    have c82b0 : decide (1 ≤ (t134.size : Int)) = true := decide_eq_true c82
                    have c82b1 : decide (1 ≤ t134.size) = true := decide_eq_true (by omega)
                    clear c82
                    obtain rfl := Option.some.inj H
                    go_wp2_with (first | ((with_reducible refine gate_callee (f := 10) rfl ?_); refine goesL_ (some 37) rfl rfl Try.func10 (by kernel_rfl) rfl #[] rfl (by (try simp only [List.map_toArray, List.map_cons, List.map_nil]); first | done | rfl | (simp only [List.length_drop, List.length_take]; rfl)) ?_; (with_reducible refine (cleatlaw18_sent.calls k1  true _ A74.out).mono ?_); rintro e w83 ⟨rfl, hb⟩; refine ⟨_, rfl, ?_⟩; have n0_ := Aside0.mk (below_step (by repeat (first | (with_reducible first | exact HB.out | apply below_alloc | apply pw_below_drewN | apply below_drew1) | exact HB.out)) hb); clear HB; have HB := n0_; clear n0_; (try clear hb); (try clear hb2); (try clear hk); (try clear hi)))
                    go_ret
                    exact ⟨by first | rfl | (simp [errW_none, errW_some] <;> rfl) | (simp [*, errW_none, errW_some] <;> rfl), by repeat (first | (with_reducible first | exact HB.out | apply below_alloc | apply pw_below_drewN | apply below_drew1) | exact HB.out)⟩
                  · rw [if_neg c82] at H
                    exact absurd H (by simp)
                · rw [if_neg c81] at H
                  exact absurd H (by simp)
              · rw [if_neg c80] at H
                exact absurd H (by simp)
          · replace c75 := Bool.eq_false_iff.mpr c75
            subst c75
            have H1 : (none) = some r := by rw [if_neg (show ¬ (false = true) by decide)] at H; exact H
            clear H
            have H := H1
            clear H1
            exact absurd H (by simp)

/-- THE ONE PURE STATEMENT of cleatlaw18_WireOrder: yours. -/
def cleatlaw18_WireOrder.Pure : Prop := ∀ (a0 : Int) (a1 : Int), (Lit.int .u64 a0).wf = true → (Lit.int .u64 a1).wf = true → ∃ k, cleatlaw18_WireOrder.f k a0 a1 = some true
theorem cleatlaw18_WireOrder.walk (P : cleatlaw18_WireOrder.Pure) (a0 : Int) (a1 : Int) (w : World) (w0 : (Lit.int .u64 a0).wf = true) (w1 : (Lit.int .u64 a1).wf = true) :
    Calls Try.prog 4 #[.int .u64 a0, .int .u64 a1] w fun e w' => e = .returned (.bool true) ∧ Below w.heap.size w w' := by
  obtain ⟨k, h⟩ := P a0 a1 w0 w1
  refine (cleatlaw18_WireOrder.calls k a0 a1 true w h).mono ?_
  rintro e w' ⟨rfl, hd⟩
  exact ⟨rfl, hd⟩

/-! ### cleatref01_Power: function 24 -/
def cleatref01_Power.l0 : Nat → Int → Int → Int → Option (Int)
  | 0, _, _, _ => none
  | k + 1, x0, x3, x4 => if x4 < x0 then (cleatref01_Power.l0 k x0 (IntKind.u64.wrap (2 * x3)) (wrap64 (x4 + 1))) else (some x3)
def cleatref01_Power.f (k : Nat) (a0 : Int) : Option (Int) := cleatref01_Power.l0 k a0 1 0
theorem cleatref01_Power.mono_l : ∀ k, (∀ y0 y1 y2, LeO (cleatref01_Power.l0 k y0 y1 y2) (cleatref01_Power.l0 (k + 1) y0 y1 y2))
  | 0 => fun _ _ _ r h => by simp [cleatref01_Power.l0] at h
  | k + 1 => by
    have ih0 := cleatref01_Power.mono_l k
    · intro y0 y1 y2
      unfold cleatref01_Power.l0
      repeat' first
      | (with_reducible exact ih0 _ _ _)
      | (with_reducible exact LeO.refl _)
      | (with_reducible exact LeO.none _)
      | (with_reducible refine LeO.ite ?_ ?_)
      | (with_reducible refine LeO.bind ?_ (fun _ => ?_))
      | exact ih0 _ _ _
      | exact LeO.none _
      | refine LeO.ite ?_ ?_
      | refine LeO.bind ?_ (fun _ => ?_)
theorem cleatref01_Power.mono : ∀ a0 k, LeO (cleatref01_Power.f k a0) (cleatref01_Power.f (k + 1) a0) := by
  intro a0 k
  have ih0 := cleatref01_Power.mono_l k
  unfold cleatref01_Power.f
  repeat' first
      | (with_reducible exact ih0 _ _ _)
      | (with_reducible exact LeO.refl _)
      | (with_reducible exact LeO.none _)
      | (with_reducible refine LeO.ite ?_ ?_)
      | (with_reducible refine LeO.bind ?_ (fun _ => ?_))
      | exact ih0 _ _ _
      | exact LeO.none _
      | refine LeO.ite ?_ ?_
      | refine LeO.bind ?_ (fun _ => ?_)
set_option maxHeartbeats 8000000 in
set_option maxRecDepth 100000 in
theorem cleatref01_Power.calls (k : Nat) (a0 : Int) (r : Int) (w : World) (h : cleatref01_Power.f k a0 = some r) :
    Calls Try.prog 24 #[.int .i64 a0] w fun e w' => e = .returned (.int .u64 r) ∧ Drawn0 w w' := by
  have H : (cleatref01_Power.l0 k a0 1 0) = some r := h
  clear h
  have H' := Aside0.mk H
  clear H
  go_enter Try.func24, Try.ntmps24
  go_wp2
  go_loopg [3, 4] k (fun kq v3 v4 w' => ∃ (x3_1 : Int) (x4_1 : Int), v3 = .int .u64 x3_1 ∧ v4 = .int .i64 x4_1 ∧ Aside0 (cleatref01_Power.l0 kq a0 x3_1 x4_1 = some r) ∧ Aside0 (kq ≤ k) ∧ Drawn0 w w')
  case atStart => exact ⟨(1), (0), (by first | rfl | (simp; done) | (simp [*]; done)), (by first | rfl | (simp; done) | (simp [*]; done)), H', ⟨Nat.le_refl _⟩, by repeat (first | exact Drawn0.refl _ | apply Drawn0.step)⟩
  case round =>
    clear H'
    obtain ⟨x3_1, x4_1, rfl, rfl, HA, HK1, ⟨m1, rfl⟩⟩ := hrel
    cases gk with
    | zero => exact absurd HA.out (by simp [cleatref01_Power.l0])
    | succ k1 =>
      have H := HA.out
      clear HA
      simp only [cleatref01_Power.l0] at H
      by_cases c2 : x4_1 < a0
      · rw [if_pos c2] at H
        have c2b0 : decide (x4_1 < a0) = true := decide_eq_true c2
        clear c2
        have H' := Aside0.mk H
        clear H
        go_wp2
        go_roundg k1
        case measure => have := HK1.out; omega
        case rel => exact ⟨(IntKind.u64.wrap (2 * x3_1)), (wrap64 (x4_1 + 1)), (by first | rfl | (simp; done) | (simp [*]; done)), (by first | rfl | (simp; done) | (simp [*]; done)), H', ⟨by have := HK1.out; omega⟩, by repeat (first | exact Drawn0.refl _ | apply Drawn0.step)⟩
      · rw [if_neg c2] at H
        have c2b0 : decide (x4_1 < a0) = false := decide_eq_false c2
        clear c2
        obtain rfl := Option.some.inj H
        go_wp2
        go_ret
        exact ⟨by first | rfl | (simp; done) | (simp [*]; done), by repeat (first | exact Drawn0.refl _ | apply Drawn0.step)⟩

end Go.Proofs.Ytfajpcinmpbhgaa.P
