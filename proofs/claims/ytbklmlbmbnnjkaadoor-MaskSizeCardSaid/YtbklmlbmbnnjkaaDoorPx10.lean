/- Written for this claim by a program of this session (drive.py, over the print of the kit): Lean functions with the answers of Go functions, and the proofs that the Go code comes to these answers, under no condition but the readings of the arguments that each theorem names. -/
import Derived.Test.YtbklmlbmbnnjkaaDoorPx0
import Derived.Test.YtbklmlbmbnnjkaaDoorPx2
import Derived.Test.YtbklmlbmbnnjkaaDoorPx4
import Derived.Test.YtbklmlbmbnnjkaaDoorPx7
namespace Go.Proofs.YtbklmlbmbnnjkaaDoor.P
open Go.RowKit Go.Proofs.YtbklmlbmbnnjkaaDoorW.PrintWords Go.Proofs.YtbklmlbmbnnjkaaDoorW.PrintLast Go.Proofs.YtbklmlbmbnnjkaaDoorW.PrintMore
attribute [local go_sem] max2_int min2_int max_two min_two max_three min_three max_four min_four   -- for this text's walks alone
set_option linter.unusedVariables false
set_option linter.unusedSimpArgs false

/-! ### cleatlaw02_MaskSize: function 7 -/
mutual
def cleatlaw02_MaskSize.j0 : Nat → Int → Int → Bool → Option (Bool)
  | 0, _, _, _ => none
  | k + 1, x0, x3, x31 => if x31 = true then (none) else ((bits_Rotate.f k x0 (Int.tmod x3 64) 64).bind fun bt227 => (if bt227.2 = 0 then (cleatlaw02_MaskSize.j1 k x0 x3 (bt227.1 != x0)) else (cleatlaw02_MaskSize.j1 k x0 x3 true)))
def cleatlaw02_MaskSize.j1 : Nat → Int → Int → Bool → Option (Bool)
  | 0, _, _, _ => none
  | k + 1, x0, x3, x45 => if x45 = true then (none) else (if x3 = 2 then ((cleatlaw02_masked.f k).bind fun t229 => (some t229)) else ((bits_Rotate.f k x0 (wrap64 (Int.tdiv x3 2)) 64).bind fun bt230 => ((cleatlaw02_masked.f k).bind fun t232 => (if t232 = true then (if bt230.2 = 0 then (some (bt230.1 != x0)) else (none)) else (none)))))
end
def cleatlaw02_MaskSize.f (k : Nat) (a0 : Int) : Option (Bool) := (mask_Size.f k a0).bind fun t226 => (if t226 = 2 then (cleatlaw02_MaskSize.j0 k a0 t226 false) else (if t226 = 4 then (cleatlaw02_MaskSize.j0 k a0 t226 false) else (if t226 = 8 then (cleatlaw02_MaskSize.j0 k a0 t226 false) else (if t226 = 16 then (cleatlaw02_MaskSize.j0 k a0 t226 false) else (if t226 = 32 then (cleatlaw02_MaskSize.j0 k a0 t226 false) else (cleatlaw02_MaskSize.j0 k a0 t226 (t226 != 64)))))))
theorem cleatlaw02_MaskSize.mono_l : ∀ k, (∀ y0 y1 y2, LeO (cleatlaw02_MaskSize.j0 k y0 y1 y2) (cleatlaw02_MaskSize.j0 (k + 1) y0 y1 y2)) ∧ (∀ y0 y1 y2, LeO (cleatlaw02_MaskSize.j1 k y0 y1 y2) (cleatlaw02_MaskSize.j1 (k + 1) y0 y1 y2))
  | 0 => ⟨fun _ _ _ r h => by simp [cleatlaw02_MaskSize.j0] at h, fun _ _ _ r h => by simp [cleatlaw02_MaskSize.j1] at h⟩
  | k + 1 => by
    obtain ⟨ih0, ih1⟩ := cleatlaw02_MaskSize.mono_l k
    refine ⟨?_, ?_⟩
    · intro y0 y1 y2
      unfold cleatlaw02_MaskSize.j0
      repeat' first
      | (with_reducible exact ih0 _ _ _)
      | (with_reducible exact ih1 _ _ _)
      | (with_reducible exact bits_Rotate.mono _ _ _ _)
      | (with_reducible exact cleatlaw02_masked.mono _)
      | (with_reducible exact mask_Size.mono _ _)
      | (with_reducible exact LeO.refl _)
      | (with_reducible exact LeO.none _)
      | (with_reducible refine LeO.ite ?_ ?_)
      | (with_reducible refine LeO.bind ?_ (fun _ => ?_))
      | exact ih0 _ _ _
      | exact ih1 _ _ _
      | exact bits_Rotate.mono _ _ _ _
      | exact cleatlaw02_masked.mono _
      | exact mask_Size.mono _ _
      | exact LeO.none _
      | refine LeO.ite ?_ ?_
      | refine LeO.bind ?_ (fun _ => ?_)
    · intro y0 y1 y2
      unfold cleatlaw02_MaskSize.j1
      repeat' first
      | (with_reducible exact ih0 _ _ _)
      | (with_reducible exact ih1 _ _ _)
      | (with_reducible exact bits_Rotate.mono _ _ _ _)
      | (with_reducible exact cleatlaw02_masked.mono _)
      | (with_reducible exact mask_Size.mono _ _)
      | (with_reducible exact LeO.refl _)
      | (with_reducible exact LeO.none _)
      | (with_reducible refine LeO.ite ?_ ?_)
      | (with_reducible refine LeO.bind ?_ (fun _ => ?_))
      | exact ih0 _ _ _
      | exact ih1 _ _ _
      | exact bits_Rotate.mono _ _ _ _
      | exact cleatlaw02_masked.mono _
      | exact mask_Size.mono _ _
      | exact LeO.none _
      | refine LeO.ite ?_ ?_
      | refine LeO.bind ?_ (fun _ => ?_)
theorem cleatlaw02_MaskSize.mono : ∀ a0 k, LeO (cleatlaw02_MaskSize.f k a0) (cleatlaw02_MaskSize.f (k + 1) a0) := by
  intro a0 k
  obtain ⟨ih0, ih1⟩ := cleatlaw02_MaskSize.mono_l k
  unfold cleatlaw02_MaskSize.f
  repeat' first
      | (with_reducible exact ih0 _ _ _)
      | (with_reducible exact ih1 _ _ _)
      | (with_reducible exact bits_Rotate.mono _ _ _ _)
      | (with_reducible exact cleatlaw02_masked.mono _)
      | (with_reducible exact mask_Size.mono _ _)
      | (with_reducible exact LeO.refl _)
      | (with_reducible exact LeO.none _)
      | (with_reducible refine LeO.ite ?_ ?_)
      | (with_reducible refine LeO.bind ?_ (fun _ => ?_))
      | exact ih0 _ _ _
      | exact ih1 _ _ _
      | exact bits_Rotate.mono _ _ _ _
      | exact cleatlaw02_masked.mono _
      | exact mask_Size.mono _ _
      | exact LeO.none _
      | refine LeO.ite ?_ ?_
      | refine LeO.bind ?_ (fun _ => ?_)
set_option maxHeartbeats 8000000 in
set_option maxRecDepth 100000 in
theorem cleatlaw02_MaskSize.calls (k : Nat) (a0 : Int) (r : Bool) (w : World) (h : cleatlaw02_MaskSize.f k a0 = some r) (hTab : TabW w := by first | exact hTab | exact TabW.drew hTab | exact TabW.drewN hTab _ | exact TabW.below hTab (by repeat (first | (with_reducible first | exact HB.out | apply below_alloc | apply pw_below_drewN | apply below_drew1) | exact HB.out | exact Below.refl _ _))) :
    Calls Tryd.prog 7 #[.int .u64 a0] w fun e w' => e = .returned (.bool r) ∧ Below w.heap.size w w' := by
  have HB := Aside0.mk (Below.refl w.heap.size w)
  have H : ((mask_Size.f k a0).bind fun t226 => (if t226 = 2 then (cleatlaw02_MaskSize.j0 k a0 t226 false) else (if t226 = 4 then (cleatlaw02_MaskSize.j0 k a0 t226 false) else (if t226 = 8 then (cleatlaw02_MaskSize.j0 k a0 t226 false) else (if t226 = 16 then (cleatlaw02_MaskSize.j0 k a0 t226 false) else (if t226 = 32 then (cleatlaw02_MaskSize.j0 k a0 t226 false) else (cleatlaw02_MaskSize.j0 k a0 t226 (t226 != 64)))))))) = some r := h
  clear h
  replace H := Option.bind_eq_some_iff.mp H
  obtain ⟨t226, A20, H⟩ := H
  replace H : (if t226 = 2 then (cleatlaw02_MaskSize.j0 k a0 t226 false) else (if t226 = 4 then (cleatlaw02_MaskSize.j0 k a0 t226 false) else (if t226 = 8 then (cleatlaw02_MaskSize.j0 k a0 t226 false) else (if t226 = 16 then (cleatlaw02_MaskSize.j0 k a0 t226 false) else (if t226 = 32 then (cleatlaw02_MaskSize.j0 k a0 t226 false) else (cleatlaw02_MaskSize.j0 k a0 t226 (t226 != 64))))))) = some r := H
  have A2 := Aside0.mk A20
  clear A20
  have HC3 := Aside0.mk H
  clear H
  go_enter Tryd.func7, Tryd.ntmps7
  go_upto_region 2 with (first | ((with_reducible refine gate_callee (f := 21) rfl ?_); refine goesL_ (some 9) rfl rfl Tryd.func21 (by kernel_rfl) rfl #[.int .u64 a0] rfl (by (try simp only [List.map_toArray, List.map_cons, List.map_nil]); first | done | rfl | (simp only [List.length_drop, List.length_take]; rfl)) ?_; (with_reducible refine (mask_Size.calls k a0 t226 _ A2.out).mono ?_); rintro e w4 ⟨rfl, hb⟩; refine ⟨_, rfl, ?_⟩; have n0_ := Aside0.mk (below_step (by repeat (first | (with_reducible first | exact HB.out | apply below_alloc | apply pw_below_drewN | apply below_drew1) | exact HB.out)) hb); clear HB; have HB := n0_; clear n0_; (try clear hb); (try clear hb2); (try clear hk); (try clear hi)))
  (try simp only [Act.put, List.setIfInBounds_toArray, List.set_cons_zero, List.set_cons_succ])
  go_cut [31] (fun v31 wc => ∃ (kq : Nat) (x31_2 : Bool), v31 = .bool x31_2 ∧ Aside0 (cleatlaw02_MaskSize.j0 kq a0 t226 x31_2 = some r) ∧ Aside0 (kq ≤ k) ∧ Aside0 (Below w.heap.size w wc))
  case first =>
    have H := HC3.out
    clear HC3
    by_cases c5 : t226 = 2
    · rw [if_pos c5] at H
      have c5b0 : (t226 == 2) = true := beq_iff_eq.mpr c5
      have c5b1 : (t226 != 2) = false := bne_eq_false_iff_eq.mpr c5
      clear c5
      (first | rw [c5b0] | (simp only [i64_w, i32_w]; rw [c5b0]) | skip)
      have H' := Aside0.mk H
      clear H
      go_wp2
      go_meet
      case rel => exact ⟨_, (false), (by first | rfl | (simp; done) | (simp [*]; done)), H', ⟨by first | omega | exact Nat.le_refl _⟩, ⟨by repeat (first | (with_reducible first | exact HB.out | apply below_alloc | apply pw_below_drewN | apply below_drew1) | exact HB.out)⟩⟩
    · rw [if_neg c5] at H
      have c5b0 : (t226 == 2) = false := beq_eq_false_iff_ne.mpr c5
      have c5b1 : (t226 != 2) = true := bne_iff_ne.mpr c5
      (first | rw [c5b0] | (simp only [i64_w, i32_w]; rw [c5b0]) | skip)
      by_cases c6 : t226 = 4
      · rw [if_pos c6] at H
        have c6b0 : (t226 == 4) = true := beq_iff_eq.mpr c6
        have c6b1 : (t226 != 4) = false := bne_eq_false_iff_eq.mpr c6
        clear c6
        have H' := Aside0.mk H
        clear H
        go_wp2
        go_meet
        case rel => exact ⟨_, (false), (by first | rfl | (simp; done) | (simp [*]; done)), H', ⟨by first | omega | exact Nat.le_refl _⟩, ⟨by repeat (first | (with_reducible first | exact HB.out | apply below_alloc | apply pw_below_drewN | apply below_drew1) | exact HB.out)⟩⟩
      · rw [if_neg c6] at H
        have c6b0 : (t226 == 4) = false := beq_eq_false_iff_ne.mpr c6
        have c6b1 : (t226 != 4) = true := bne_iff_ne.mpr c6
        by_cases c7 : t226 = 8
        · rw [if_pos c7] at H
          have c7b0 : (t226 == 8) = true := beq_iff_eq.mpr c7
          have c7b1 : (t226 != 8) = false := bne_eq_false_iff_eq.mpr c7
          clear c7
          have H' := Aside0.mk H
          clear H
          go_wp2
          go_meet
          case rel => exact ⟨_, (false), (by first | rfl | (simp; done) | (simp [*]; done)), H', ⟨by first | omega | exact Nat.le_refl _⟩, ⟨by repeat (first | (with_reducible first | exact HB.out | apply below_alloc | apply pw_below_drewN | apply below_drew1) | exact HB.out)⟩⟩
        · rw [if_neg c7] at H
          have c7b0 : (t226 == 8) = false := beq_eq_false_iff_ne.mpr c7
          have c7b1 : (t226 != 8) = true := bne_iff_ne.mpr c7
          by_cases c8 : t226 = 16
          · rw [if_pos c8] at H
            have c8b0 : (t226 == 16) = true := beq_iff_eq.mpr c8
            have c8b1 : (t226 != 16) = false := bne_eq_false_iff_eq.mpr c8
            clear c8
            have H' := Aside0.mk H
            clear H
            go_wp2
            go_meet
            case rel => exact ⟨_, (false), (by first | rfl | (simp; done) | (simp [*]; done)), H', ⟨by first | omega | exact Nat.le_refl _⟩, ⟨by repeat (first | (with_reducible first | exact HB.out | apply below_alloc | apply pw_below_drewN | apply below_drew1) | exact HB.out)⟩⟩
          · rw [if_neg c8] at H
            have c8b0 : (t226 == 16) = false := beq_eq_false_iff_ne.mpr c8
            have c8b1 : (t226 != 16) = true := bne_iff_ne.mpr c8
            by_cases c9 : t226 = 32
            · rw [if_pos c9] at H
              have c9b0 : (t226 == 32) = true := beq_iff_eq.mpr c9
              have c9b1 : (t226 != 32) = false := bne_eq_false_iff_eq.mpr c9
              clear c9
              have H' := Aside0.mk H
              clear H
              go_wp2
              go_meet
              case rel => exact ⟨_, (false), (by first | rfl | (simp; done) | (simp [*]; done)), H', ⟨by first | omega | exact Nat.le_refl _⟩, ⟨by repeat (first | (with_reducible first | exact HB.out | apply below_alloc | apply pw_below_drewN | apply below_drew1) | exact HB.out)⟩⟩
            · rw [if_neg c9] at H
              have c9b0 : (t226 == 32) = false := beq_eq_false_iff_ne.mpr c9
              have c9b1 : (t226 != 32) = true := bne_iff_ne.mpr c9
              have H' := Aside0.mk H
              clear H
              go_wp2
              go_meet
              case rel => exact ⟨_, ((t226 != 64)), (by first | rfl | (simp; done) | (simp [*]; done)), H', ⟨by first | omega | exact Nat.le_refl _⟩, ⟨by repeat (first | (with_reducible first | exact HB.out | apply below_alloc | apply pw_below_drewN | apply below_drew1) | exact HB.out)⟩⟩
  case rest =>
    clear HC3
    try clear c2
    try clear p2
    try clear c5
    try clear c5b0
    try clear c5b1
    try clear c6
    try clear c6b0
    try clear c6b1
    try clear c7
    try clear c7b0
    try clear c7b1
    try clear c8
    try clear c8b0
    try clear c8b1
    try clear c9
    try clear c9b0
    try clear c9b1
    obtain ⟨kq, x31_2, rfl, HA, HJ2, HB⟩ := hcut
    cases kq with
    | zero => exact absurd HA.out (by simp [cleatlaw02_MaskSize.j0])
    | succ kj2 =>
      have H := HA.out
      clear HA
      simp only [cleatlaw02_MaskSize.j0] at H
      by_cases c10 : x31_2 = true
      · subst c10
        have H1 : (none) = some r := by rw [if_pos rfl] at H; exact H
        clear H
        have H := H1
        clear H1
        exact absurd H (by simp)
      · replace c10 := Bool.eq_false_iff.mpr c10
        subst c10
        have H1 : ((bits_Rotate.f kj2 a0 (Int.tmod t226 64) 64).bind fun bt227 => (if bt227.2 = 0 then (cleatlaw02_MaskSize.j1 kj2 a0 t226 (bt227.1 != a0)) else (cleatlaw02_MaskSize.j1 kj2 a0 t226 true))) = some r := by rw [if_neg (show ¬ (false = true) by decide)] at H; exact H
        clear H
        have H := H1
        clear H1
        replace H := Option.bind_eq_some_iff.mp H
        obtain ⟨⟨t227, t228⟩, A110, H⟩ := H
        replace H : (if t228 = 0 then (cleatlaw02_MaskSize.j1 kj2 a0 t226 (t227 != a0)) else (cleatlaw02_MaskSize.j1 kj2 a0 t226 true)) = some r := H
        have A11 := Aside0.mk A110
        clear A110
        have HC12 := Aside0.mk H
        clear H
        go_upto_region 5 with (first | ((with_reducible refine gate_callee (f := 25) rfl ?_); refine goesL_ (some 36) rfl rfl Tryd.func25 (by kernel_rfl) rfl #[.int .u64 a0, .int .i64 (Int.tmod t226 64), .int .i64 64] rfl (by (try simp only [List.map_toArray, List.map_cons, List.map_nil]); first | done | rfl | (simp only [List.length_drop, List.length_take]; rfl)) ?_; (with_reducible refine (bits_Rotate.calls kj2 a0 (Int.tmod t226 64) 64 t227 t228 _ A11.out).mono ?_); rintro e w13 ⟨rfl, hb⟩; refine ⟨_, rfl, ?_⟩; have n0_ := Aside0.mk (below_step (by repeat (first | (with_reducible first | exact HB.out | apply below_alloc | apply pw_below_drewN | apply below_drew1) | exact HB.out)) hb); clear HB; have HB := n0_; clear n0_; (try clear hb); (try clear hb2); (try clear hk); (try clear hi)))
        (try simp only [Act.put, List.setIfInBounds_toArray, List.set_cons_zero, List.set_cons_succ])
        go_cut [45] (fun v45 wc => ∃ (kq : Nat) (x45_11 : Bool), v45 = .bool x45_11 ∧ Aside0 (cleatlaw02_MaskSize.j1 kq a0 t226 x45_11 = some r) ∧ Aside0 (kq ≤ kj2) ∧ Aside0 (Below w.heap.size w wc))
        case first =>
          have H := HC12.out
          clear HC12
          by_cases c14 : t228 = 0
          · rw [if_pos c14] at H
            have c14b0 : (t228 == 0) = true := beq_iff_eq.mpr c14
            have c14b1 : (t228 != 0) = false := bne_eq_false_iff_eq.mpr c14
            clear c14
            (first | rw [c14b0] | (simp only [i64_w, i32_w]; rw [c14b0]) | skip)
            have H' := Aside0.mk H
            clear H
            go_wp2
            go_meet
            case rel => exact ⟨_, ((t227 != a0)), (by first | rfl | (simp; done) | (simp [*]; done)), H', ⟨by have := HJ2.out; first | omega | exact Nat.le_refl _⟩, ⟨by repeat (first | (with_reducible first | exact HB.out | apply below_alloc | apply pw_below_drewN | apply below_drew1) | exact HB.out)⟩⟩
          · rw [if_neg c14] at H
            have c14b0 : (t228 == 0) = false := beq_eq_false_iff_ne.mpr c14
            have c14b1 : (t228 != 0) = true := bne_iff_ne.mpr c14
            (first | rw [c14b0] | (simp only [i64_w, i32_w]; rw [c14b0]) | skip)
            have H' := Aside0.mk H
            clear H
            go_wp2
            go_meet
            case rel => exact ⟨_, (true), (by first | rfl | (simp; done) | (simp [*]; done)), H', ⟨by have := HJ2.out; first | omega | exact Nat.le_refl _⟩, ⟨by repeat (first | (with_reducible first | exact HB.out | apply below_alloc | apply pw_below_drewN | apply below_drew1) | exact HB.out)⟩⟩
        case rest =>
          clear HC12
          try clear c1
          try clear c2
          try clear p2
          try clear c5
          try clear c5b0
          try clear c5b1
          try clear c6
          try clear c6b0
          try clear c6b1
          try clear c7
          try clear c7b0
          try clear c7b1
          try clear c8
          try clear c8b0
          try clear c8b1
          try clear c9
          try clear c9b0
          try clear c9b1
          try clear c10
          try clear c14
          try clear c14b0
          try clear c14b1
          try clear p2
          obtain ⟨kq, x45_11, rfl, HA, HJ11, HB⟩ := hcut
          cases kq with
          | zero => exact absurd HA.out (by simp [cleatlaw02_MaskSize.j1])
          | succ kj11 =>
            have H := HA.out
            clear HA
            simp only [cleatlaw02_MaskSize.j1] at H
            by_cases c15 : x45_11 = true
            · subst c15
              have H1 : (none) = some r := by rw [if_pos rfl] at H; exact H
              clear H
              have H := H1
              clear H1
              exact absurd H (by simp)
            · replace c15 := Bool.eq_false_iff.mpr c15
              subst c15
              have H1 : (if t226 = 2 then ((cleatlaw02_masked.f kj11).bind fun t229 => (some t229)) else ((bits_Rotate.f kj11 a0 (wrap64 (Int.tdiv t226 2)) 64).bind fun bt230 => ((cleatlaw02_masked.f kj11).bind fun t232 => (if t232 = true then (if bt230.2 = 0 then (some (bt230.1 != a0)) else (none)) else (none))))) = some r := by rw [if_neg (show ¬ (false = true) by decide)] at H; exact H
              clear H
              have H := H1
              clear H1
              by_cases c16 : t226 = 2
              · rw [if_pos c16] at H
                have c16b0 : (t226 == 2) = true := beq_iff_eq.mpr c16
                have c16b1 : (t226 != 2) = false := bne_eq_false_iff_eq.mpr c16
                clear c16
                replace H := Option.bind_eq_some_iff.mp H
                obtain ⟨t229, A170, H⟩ := H
                replace H : (some t229) = some r := H
                have A17 := Aside0.mk A170
                clear A170
                obtain rfl := Option.some.inj H
                go_wp2_with (first | ((with_reducible refine gate_callee (f := 18) rfl ?_); refine goesL_ (some 48) rfl rfl Tryd.func18 (by kernel_rfl) rfl #[] rfl (by (try simp only [List.map_toArray, List.map_cons, List.map_nil]); first | done | rfl | (simp only [List.length_drop, List.length_take]; rfl)) ?_; (with_reducible refine (cleatlaw02_masked.calls kj11  t229 _ A17.out).mono ?_); rintro e w18 ⟨rfl, hb⟩; refine ⟨_, rfl, ?_⟩; have n0_ := Aside0.mk (below_step (by repeat (first | (with_reducible first | exact HB.out | apply below_alloc | apply pw_below_drewN | apply below_drew1) | exact HB.out)) hb); clear HB; have HB := n0_; clear n0_; (try clear hb); (try clear hb2); (try clear hk); (try clear hi)))
                go_ret
                exact ⟨by first | rfl | (simp [errW_none, errW_some] <;> rfl) | (simp [*, errW_none, errW_some] <;> rfl), by repeat (first | (with_reducible first | exact HB.out | apply below_alloc | apply pw_below_drewN | apply below_drew1) | exact HB.out)⟩
              · rw [if_neg c16] at H
                have c16b0 : (t226 == 2) = false := beq_eq_false_iff_ne.mpr c16
                have c16b1 : (t226 != 2) = true := bne_iff_ne.mpr c16
                replace H := Option.bind_eq_some_iff.mp H
                obtain ⟨⟨t230, t231⟩, A190, H⟩ := H
                replace H : ((cleatlaw02_masked.f kj11).bind fun t232 => (if t232 = true then (if t231 = 0 then (some (t230 != a0)) else (none)) else (none))) = some r := H
                have A19 := Aside0.mk A190
                clear A190
                replace H := Option.bind_eq_some_iff.mp H
                obtain ⟨t232, A200, H⟩ := H
                replace H : (if t232 = true then (if t231 = 0 then (some (t230 != a0)) else (none)) else (none)) = some r := H
                have A20 := Aside0.mk A200
                clear A200
                by_cases c21 : t232 = true
                · subst c21
                  have H1 : (if t231 = 0 then (some (t230 != a0)) else (none)) = some r := by rw [if_pos rfl] at H; exact H
                  clear H
                  have H := H1
                  clear H1
                  by_cases c22 : t231 = 0
                  · rw [if_pos c22] at H
                    have c22b0 : (t231 == 0) = true := beq_iff_eq.mpr c22
                    have c22b1 : (t231 != 0) = false := bne_eq_false_iff_eq.mpr c22
                    clear c22
                    obtain rfl := Option.some.inj H
                    go_wp2_with (first | ((with_reducible refine gate_callee (f := 25) rfl ?_); refine goesL_ (some 53) rfl rfl Tryd.func25 (by kernel_rfl) rfl #[.int .u64 a0, .int .i64 (wrap64 (Int.tdiv t226 2)), .int .i64 64] rfl (by (try simp only [List.map_toArray, List.map_cons, List.map_nil]); first | done | rfl | (simp only [List.length_drop, List.length_take]; rfl)) ?_; (with_reducible refine (bits_Rotate.calls kj11 a0 (wrap64 (Int.tdiv t226 2)) 64 t230 t231 _ A19.out).mono ?_); rintro e w23 ⟨rfl, hb⟩; refine ⟨_, rfl, ?_⟩; have n0_ := Aside0.mk (below_step (by repeat (first | (with_reducible first | exact HB.out | apply below_alloc | apply pw_below_drewN | apply below_drew1) | exact HB.out)) hb); clear HB; have HB := n0_; clear n0_; (try clear hb); (try clear hb2); (try clear hk); (try clear hi)) | ((with_reducible refine gate_callee (f := 18) rfl ?_); refine goesL_ (some 56) rfl rfl Tryd.func18 (by kernel_rfl) rfl #[] rfl (by (try simp only [List.map_toArray, List.map_cons, List.map_nil]); first | done | rfl | (simp only [List.length_drop, List.length_take]; rfl)) ?_; (with_reducible refine (cleatlaw02_masked.calls kj11  true _ A20.out).mono ?_); rintro e w24 ⟨rfl, hb⟩; refine ⟨_, rfl, ?_⟩; have n0_ := Aside0.mk (below_step (by repeat (first | (with_reducible first | exact HB.out | apply below_alloc | apply pw_below_drewN | apply below_drew1) | exact HB.out)) hb); clear HB; have HB := n0_; clear n0_; (try clear hb); (try clear hb2); (try clear hk); (try clear hi)))
                    go_ret
                    exact ⟨by first | rfl | (simp [errW_none, errW_some] <;> rfl) | (simp [*, errW_none, errW_some] <;> rfl), by repeat (first | (with_reducible first | exact HB.out | apply below_alloc | apply pw_below_drewN | apply below_drew1) | exact HB.out)⟩
                  · rw [if_neg c22] at H
                    exact absurd H (by simp)
                · replace c21 := Bool.eq_false_iff.mpr c21
                  subst c21
                  have H1 : (none) = some r := by rw [if_neg (show ¬ (false = true) by decide)] at H; exact H
                  clear H
                  have H := H1
                  clear H1
                  exact absurd H (by simp)

/-- THE ONE PURE STATEMENT of cleatlaw02_MaskSize: yours. -/
def cleatlaw02_MaskSize.Pure : Prop := ∀ (a0 : Int), (Lit.int .u64 a0).wf = true → ∃ k, cleatlaw02_MaskSize.f k a0 = some true
theorem cleatlaw02_MaskSize.walk (P : cleatlaw02_MaskSize.Pure) (a0 : Int) (w : World) (w0 : (Lit.int .u64 a0).wf = true) (hTab : TabW w) :
    Calls Tryd.prog 7 #[.int .u64 a0] w fun e w' => e = .returned (.bool true) ∧ Below w.heap.size w w' := by
  obtain ⟨k, h⟩ := P a0 w0
  refine (cleatlaw02_MaskSize.calls k a0 true w h).mono ?_
  rintro e w' ⟨rfl, hd⟩
  exact ⟨rfl, hd⟩

end Go.Proofs.YtbklmlbmbnnjkaaDoor.P
