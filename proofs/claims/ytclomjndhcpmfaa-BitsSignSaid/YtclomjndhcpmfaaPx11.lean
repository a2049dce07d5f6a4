/- Written for this claim by a program of this session (drive.py, over the print of the kit): Lean functions with the answers of Go functions, and the proofs that the Go code comes to these answers, under no condition but the readings of the arguments that each theorem names. -/
import Derived.Test.YtclomjndhcpmfaaPx0
import Derived.Test.YtclomjndhcpmfaaPx8
import Derived.Test.YtclomjndhcpmfaaPx10
namespace Go.Proofs.Ytclomjndhcpmfaa.P
open Go.RowKit Go.Proofs.YtclomjndhcpmfaaW.PrintWords Go.Proofs.YtclomjndhcpmfaaW.PrintLast Go.Proofs.YtclomjndhcpmfaaW.PrintMore
attribute [local go_sem] max2_int min2_int max_two min_two max_three min_three max_four min_four   -- for this text's walks alone
set_option linter.unusedVariables false
set_option linter.unusedSimpArgs false

/-! ### cleatlaw01_BitsSign: function 9 -/
mutual
def cleatlaw01_BitsSign.j0 : Nat → Int → Int → Int → Option (Bool)
  | 0, _, _, _ => none
  | k + 1, x1, x2, x3 => (bits_Pack.f k x1 x2).bind fun bt336 => (if bt336.2 = 0 then ((bits_Signed.f k bt336.1 x2).bind fun bt339 => (if bt339.2 = 0 then (cleatlaw01_BitsSign.j1 k x1 x2 x3 bt336.1 (bt339.1 != x1)) else (cleatlaw01_BitsSign.j1 k x1 x2 x3 bt336.1 true))) else ((cleatlaw01_told.f k).bind fun t338 => (if t338 = true then (some (bt336.1 == 0)) else (none))))
def cleatlaw01_BitsSign.j1 : Nat → Int → Int → Int → Int → Bool → Option (Bool)
  | 0, _, _, _, _, _ => none
  | k + 1, x1, x2, x3, x13, x67 => if x67 = true then (none) else (if x3 < x2 then (cleatlaw01_BitsSign.j2 k x1 x2 x3 x13 true) else (cleatlaw01_BitsSign.j2 k x1 x2 x3 x13 (decide (x3 > 32))))
def cleatlaw01_BitsSign.j2 : Nat → Int → Int → Int → Int → Bool → Option (Bool)
  | 0, _, _, _, _, _ => none
  | k + 1, x1, x2, x3, x13, x74 => if x74 = true then ((cleatlaw01_told.f k).bind fun t341 => (some t341)) else ((bits_Pack.f k x1 x3).bind fun bt342 => ((bits_Signed.f k bt342.1 x3).bind fun bt344 => ((cleatlaw01_told.f k).bind fun t346 => (if t346 = true then (if bt342.2 = 0 then (if bt344.2 = 0 then (if bt344.1 = x1 then ((bits_Low.f (IntKind.u64.wrap (bt342.1)) x2).bind fun t347 => (some (t347 == (IntKind.u64.wrap (x13))))) else (none)) else (none)) else (none)) else (none)))))
end
def cleatlaw01_BitsSign.f (k : Nat) (a0 : Int) (a1 : Int) (a2 : Int) (a3 : Int) : Option (Bool) := (bits_Signed.f k a0 a2).bind fun bt332 => (if bt332.2 = 0 then ((bits_Pack.f k bt332.1 a2).bind fun bt334 => (if bt334.2 = 0 then (if bt334.1 = a0 then (cleatlaw01_BitsSign.j0 k a1 a2 a3) else (none)) else (none))) else (cleatlaw01_BitsSign.j0 k a1 a2 a3))
theorem cleatlaw01_BitsSign.mono_l : ∀ k, (∀ y0 y1 y2, LeO (cleatlaw01_BitsSign.j0 k y0 y1 y2) (cleatlaw01_BitsSign.j0 (k + 1) y0 y1 y2)) ∧ (∀ y0 y1 y2 y3 y4, LeO (cleatlaw01_BitsSign.j1 k y0 y1 y2 y3 y4) (cleatlaw01_BitsSign.j1 (k + 1) y0 y1 y2 y3 y4)) ∧ (∀ y0 y1 y2 y3 y4, LeO (cleatlaw01_BitsSign.j2 k y0 y1 y2 y3 y4) (cleatlaw01_BitsSign.j2 (k + 1) y0 y1 y2 y3 y4))
  | 0 => ⟨fun _ _ _ r h => by simp [cleatlaw01_BitsSign.j0] at h, fun _ _ _ _ _ r h => by simp [cleatlaw01_BitsSign.j1] at h, fun _ _ _ _ _ r h => by simp [cleatlaw01_BitsSign.j2] at h⟩
  | k + 1 => by
    obtain ⟨ih0, ih1, ih2⟩ := cleatlaw01_BitsSign.mono_l k
    refine ⟨?_, ?_, ?_⟩
    · intro y0 y1 y2
      unfold cleatlaw01_BitsSign.j0
      repeat' first
      | (with_reducible exact ih0 _ _ _)
      | (with_reducible exact ih1 _ _ _ _ _)
      | (with_reducible exact ih2 _ _ _ _ _)
      | (with_reducible exact bits_Pack.mono _ _ _)
      | (with_reducible exact bits_Signed.mono _ _ _)
      | (with_reducible exact cleatlaw01_told.mono _)
      | (with_reducible exact LeO.refl _)
      | (with_reducible exact LeO.none _)
      | (with_reducible refine LeO.ite ?_ ?_)
      | (with_reducible refine LeO.bind ?_ (fun _ => ?_))
      | exact ih0 _ _ _
      | exact ih1 _ _ _ _ _
      | exact ih2 _ _ _ _ _
      | exact bits_Pack.mono _ _ _
      | exact bits_Signed.mono _ _ _
      | exact cleatlaw01_told.mono _
      | exact LeO.none _
      | refine LeO.ite ?_ ?_
      | refine LeO.bind ?_ (fun _ => ?_)
    · intro y0 y1 y2 y3 y4
      unfold cleatlaw01_BitsSign.j1
      repeat' first
      | (with_reducible exact ih0 _ _ _)
      | (with_reducible exact ih1 _ _ _ _ _)
      | (with_reducible exact ih2 _ _ _ _ _)
      | (with_reducible exact bits_Pack.mono _ _ _)
      | (with_reducible exact bits_Signed.mono _ _ _)
      | (with_reducible exact cleatlaw01_told.mono _)
      | (with_reducible exact LeO.refl _)
      | (with_reducible exact LeO.none _)
      | (with_reducible refine LeO.ite ?_ ?_)
      | (with_reducible refine LeO.bind ?_ (fun _ => ?_))
      | exact ih0 _ _ _
      | exact ih1 _ _ _ _ _
      | exact ih2 _ _ _ _ _
      | exact bits_Pack.mono _ _ _
      | exact bits_Signed.mono _ _ _
      | exact cleatlaw01_told.mono _
      | exact LeO.none _
      | refine LeO.ite ?_ ?_
      | refine LeO.bind ?_ (fun _ => ?_)
    · intro y0 y1 y2 y3 y4
      unfold cleatlaw01_BitsSign.j2
      repeat' first
      | (with_reducible exact ih0 _ _ _)
      | (with_reducible exact ih1 _ _ _ _ _)
      | (with_reducible exact ih2 _ _ _ _ _)
      | (with_reducible exact bits_Pack.mono _ _ _)
      | (with_reducible exact bits_Signed.mono _ _ _)
      | (with_reducible exact cleatlaw01_told.mono _)
      | (with_reducible exact LeO.refl _)
      | (with_reducible exact LeO.none _)
      | (with_reducible refine LeO.ite ?_ ?_)
      | (with_reducible refine LeO.bind ?_ (fun _ => ?_))
      | exact ih0 _ _ _
      | exact ih1 _ _ _ _ _
      | exact ih2 _ _ _ _ _
      | exact bits_Pack.mono _ _ _
      | exact bits_Signed.mono _ _ _
      | exact cleatlaw01_told.mono _
      | exact LeO.none _
      | refine LeO.ite ?_ ?_
      | refine LeO.bind ?_ (fun _ => ?_)
theorem cleatlaw01_BitsSign.mono : ∀ a0 a1 a2 a3 k, LeO (cleatlaw01_BitsSign.f k a0 a1 a2 a3) (cleatlaw01_BitsSign.f (k + 1) a0 a1 a2 a3) := by
  intro a0 a1 a2 a3 k
  obtain ⟨ih0, ih1, ih2⟩ := cleatlaw01_BitsSign.mono_l k
  unfold cleatlaw01_BitsSign.f
  repeat' first
      | (with_reducible exact ih0 _ _ _)
      | (with_reducible exact ih1 _ _ _ _ _)
      | (with_reducible exact ih2 _ _ _ _ _)
      | (with_reducible exact bits_Pack.mono _ _ _)
      | (with_reducible exact bits_Signed.mono _ _ _)
      | (with_reducible exact cleatlaw01_told.mono _)
      | (with_reducible exact LeO.refl _)
      | (with_reducible exact LeO.none _)
      | (with_reducible refine LeO.ite ?_ ?_)
      | (with_reducible refine LeO.bind ?_ (fun _ => ?_))
      | exact ih0 _ _ _
      | exact ih1 _ _ _ _ _
      | exact ih2 _ _ _ _ _
      | exact bits_Pack.mono _ _ _
      | exact bits_Signed.mono _ _ _
      | exact cleatlaw01_told.mono _
      | exact LeO.none _
      | refine LeO.ite ?_ ?_
      | refine LeO.bind ?_ (fun _ => ?_)
set_option maxHeartbeats 8000000 in
set_option maxRecDepth 100000 in
theorem cleatlaw01_BitsSign.calls (k : Nat) (a0 : Int) (a1 : Int) (a2 : Int) (a3 : Int) (r : Bool) (w : World) (h : cleatlaw01_BitsSign.f k a0 a1 a2 a3 = some r) :
    Calls Try.prog 9 #[.int .u32 a0, .int .i64 a1, .int .i64 a2, .int .i64 a3] w fun e w' => e = .returned (.bool r) ∧ Below w.heap.size w w' := by
  have HB := Aside0.mk (Below.refl w.heap.size w)
  have H : ((bits_Signed.f k a0 a2).bind fun bt332 => (if bt332.2 = 0 then ((bits_Pack.f k bt332.1 a2).bind fun bt334 => (if bt334.2 = 0 then (if bt334.1 = a0 then (cleatlaw01_BitsSign.j0 k a1 a2 a3) else (none)) else (none))) else (cleatlaw01_BitsSign.j0 k a1 a2 a3))) = some r := h
  clear h
  replace H := Option.bind_eq_some_iff.mp H
  obtain ⟨⟨t332, t333⟩, A50, H⟩ := H
  replace H : (if t333 = 0 then ((bits_Pack.f k t332 a2).bind fun bt334 => (if bt334.2 = 0 then (if bt334.1 = a0 then (cleatlaw01_BitsSign.j0 k a1 a2 a3) else (none)) else (none))) else (cleatlaw01_BitsSign.j0 k a1 a2 a3)) = some r := H
  have A5 := Aside0.mk A50
  clear A50
  have HC6 := Aside0.mk H
  clear H
  go_enter Try.func9, Try.ntmps9
  go_upto_if 28 with (first | ((with_reducible refine gate_callee (f := 26) rfl ?_); refine goesL_ (some 24) rfl rfl Try.func26 (by kernel_rfl) rfl #[.int .u32 a0, .int .i64 a2] rfl (by (try simp only [List.map_toArray, List.map_cons, List.map_nil]); first | done | rfl | (simp only [List.length_drop, List.length_take]; rfl)) ?_; (with_reducible refine (bits_Signed.calls k a0 a2 t332 t333 _ A5.out).mono ?_); rintro e w' ⟨rfl, ⟨nd, rfl⟩⟩; refine ⟨_, rfl, ?_⟩))
  (try simp only [Act.put, List.setIfInBounds_toArray, List.set_cons_zero, List.set_cons_succ])
  go_cut [] (fun wc => ∃ (kq : Nat), Aside0 (cleatlaw01_BitsSign.j0 kq a1 a2 a3 = some r) ∧ Aside0 (kq ≤ k) ∧ Aside0 (Below w.heap.size w wc))
  case first =>
    have H := HC6.out
    clear HC6
    by_cases c7 : t333 = 0
    · rw [if_pos c7] at H
      have c7b0 : (t333 == 0) = true := beq_iff_eq.mpr c7
      have c7b1 : (t333 != 0) = false := bne_eq_false_iff_eq.mpr c7
      clear c7
      (first | rw [c7b0] | (simp only [i64_w, i32_w]; rw [c7b0]) | skip)
      replace H := Option.bind_eq_some_iff.mp H
      obtain ⟨⟨t334, t335⟩, A80, H⟩ := H
      replace H : (if t335 = 0 then (if t334 = a0 then (cleatlaw01_BitsSign.j0 k a1 a2 a3) else (none)) else (none)) = some r := H
      have A8 := Aside0.mk A80
      clear A80
      by_cases c9 : t335 = 0
      · rw [if_pos c9] at H
        have c9b0 : (t335 == 0) = true := beq_iff_eq.mpr c9
        have c9b1 : (t335 != 0) = false := bne_eq_false_iff_eq.mpr c9
        clear c9
        by_cases c10 : t334 = a0
        · rw [if_pos c10] at H
          have c10b0 : (t334 == a0) = true := beq_iff_eq.mpr c10
          have c10b1 : (t334 != a0) = false := bne_eq_false_iff_eq.mpr c10
          clear c10
          have H' := Aside0.mk H
          clear H
          go_wp2_with (first | ((with_reducible refine gate_callee (f := 28) rfl ?_); refine goesL_ (some 32) rfl rfl Try.func28 (by kernel_rfl) rfl #[.int .i64 t332, .int .i64 a2] rfl (by (try simp only [List.map_toArray, List.map_cons, List.map_nil]); first | done | rfl | (simp only [List.length_drop, List.length_take]; rfl)) ?_; (with_reducible refine (bits_Pack.calls k t332 a2 t334 t335 _ A8.out).mono ?_); rintro e w' ⟨rfl, ⟨nd, rfl⟩⟩; refine ⟨_, rfl, ?_⟩))
          go_meet
          case rel => exact ⟨_, H', ⟨by first | omega | exact Nat.le_refl _⟩, ⟨by repeat (first | (with_reducible first | exact HB.out | apply below_alloc | apply pw_below_drewN | apply below_drew1) | exact HB.out)⟩⟩
        · rw [if_neg c10] at H
          exact absurd H (by simp)
      · rw [if_neg c9] at H
        exact absurd H (by simp)
    · rw [if_neg c7] at H
      have c7b0 : (t333 == 0) = false := beq_eq_false_iff_ne.mpr c7
      have c7b1 : (t333 != 0) = true := bne_iff_ne.mpr c7
      (first | rw [c7b0] | (simp only [i64_w, i32_w]; rw [c7b0]) | skip)
      have H' := Aside0.mk H
      clear H
      go_wp2
      go_meet
      case rel => exact ⟨_, H', ⟨by first | omega | exact Nat.le_refl _⟩, ⟨by repeat (first | (with_reducible first | exact HB.out | apply below_alloc | apply pw_below_drewN | apply below_drew1) | exact HB.out)⟩⟩
  case rest =>
    clear HC6
    try clear c1
    try clear c2
    try clear p2
    try clear c7
    try clear c7b0
    try clear c7b1
    try clear c9
    try clear c9b0
    try clear c9b1
    try clear c10
    try clear c10b0
    try clear c10b1
    obtain ⟨kq, HA, HJ5, HB⟩ := hcut
    cases kq with
    | zero => exact absurd HA.out (by simp [cleatlaw01_BitsSign.j0])
    | succ kj5 =>
      have H := HA.out
      clear HA
      simp only [cleatlaw01_BitsSign.j0] at H
      replace H := Option.bind_eq_some_iff.mp H
      obtain ⟨⟨t336, t337⟩, A110, H⟩ := H
      replace H : (if t337 = 0 then ((bits_Signed.f kj5 t336 a2).bind fun bt339 => (if bt339.2 = 0 then (cleatlaw01_BitsSign.j1 kj5 a1 a2 a3 t336 (bt339.1 != a1)) else (cleatlaw01_BitsSign.j1 kj5 a1 a2 a3 t336 true))) else ((cleatlaw01_told.f kj5).bind fun t338 => (if t338 = true then (some (t336 == 0)) else (none)))) = some r := H
      have A11 := Aside0.mk A110
      clear A110
      by_cases c12 : t337 = 0
      · rw [if_pos c12] at H
        have c12b0 : (t337 == 0) = true := beq_iff_eq.mpr c12
        have c12b1 : (t337 != 0) = false := bne_eq_false_iff_eq.mpr c12
        clear c12
        replace H := Option.bind_eq_some_iff.mp H
        obtain ⟨⟨t339, t340⟩, A130, H⟩ := H
        replace H : (if t340 = 0 then (cleatlaw01_BitsSign.j1 kj5 a1 a2 a3 t336 (t339 != a1)) else (cleatlaw01_BitsSign.j1 kj5 a1 a2 a3 t336 true)) = some r := H
        have A13 := Aside0.mk A130
        clear A130
        have HC14 := Aside0.mk H
        clear H
        go_upto_region 10 with (first | ((with_reducible refine gate_callee (f := 28) rfl ?_); refine goesL_ (some 45) rfl rfl Try.func28 (by kernel_rfl) rfl #[.int .i64 a1, .int .i64 a2] rfl (by (try simp only [List.map_toArray, List.map_cons, List.map_nil]); first | done | rfl | (simp only [List.length_drop, List.length_take]; rfl)) ?_; (with_reducible refine (bits_Pack.calls kj5 a1 a2 t336 t337 _ A11.out).mono ?_); rintro e w' ⟨rfl, ⟨nd, rfl⟩⟩; refine ⟨_, rfl, ?_⟩) | ((with_reducible refine gate_callee (f := 26) rfl ?_); refine goesL_ (some 58) rfl rfl Try.func26 (by kernel_rfl) rfl #[.int .u32 t336, .int .i64 a2] rfl (by (try simp only [List.map_toArray, List.map_cons, List.map_nil]); first | done | rfl | (simp only [List.length_drop, List.length_take]; rfl)) ?_; (with_reducible refine (bits_Signed.calls kj5 t336 a2 t339 t340 _ A13.out).mono ?_); rintro e w' ⟨rfl, ⟨nd, rfl⟩⟩; refine ⟨_, rfl, ?_⟩))
        (try simp only [Act.put, List.setIfInBounds_toArray, List.set_cons_zero, List.set_cons_succ])
        go_cut [67] (fun v67 wc => ∃ (kq : Nat) (x67_13 : Bool), v67 = .bool x67_13 ∧ Aside0 (cleatlaw01_BitsSign.j1 kq a1 a2 a3 t336 x67_13 = some r) ∧ Aside0 (kq ≤ kj5) ∧ Aside0 (Below w.heap.size w wc))
        case first =>
          have H := HC14.out
          clear HC14
          by_cases c15 : t340 = 0
          · rw [if_pos c15] at H
            have c15b0 : (t340 == 0) = true := beq_iff_eq.mpr c15
            have c15b1 : (t340 != 0) = false := bne_eq_false_iff_eq.mpr c15
            clear c15
            (first | rw [c15b0] | (simp only [i64_w, i32_w]; rw [c15b0]) | skip)
            have H' := Aside0.mk H
            clear H
            go_wp2
            go_meet
            case rel => exact ⟨_, ((t339 != a1)), (by first | rfl | (simp; done) | (simp [*]; done)), H', ⟨by have := HJ5.out; first | omega | exact Nat.le_refl _⟩, ⟨by repeat (first | (with_reducible first | exact HB.out | apply below_alloc | apply pw_below_drewN | apply below_drew1) | exact HB.out)⟩⟩
          · rw [if_neg c15] at H
            have c15b0 : (t340 == 0) = false := beq_eq_false_iff_ne.mpr c15
            have c15b1 : (t340 != 0) = true := bne_iff_ne.mpr c15
            (first | rw [c15b0] | (simp only [i64_w, i32_w]; rw [c15b0]) | skip)
            have H' := Aside0.mk H
            clear H
            go_wp2
            go_meet
            case rel => exact ⟨_, (true), (by first | rfl | (simp; done) | (simp [*]; done)), H', ⟨by have := HJ5.out; first | omega | exact Nat.le_refl _⟩, ⟨by repeat (first | (with_reducible first | exact HB.out | apply below_alloc | apply pw_below_drewN | apply below_drew1) | exact HB.out)⟩⟩
        case rest =>
          clear HC14
          try clear c1
          try clear c2
          try clear p2
          try clear c7
          try clear c7b0
          try clear c7b1
          try clear c9
          try clear c9b0
          try clear c9b1
          try clear c10
          try clear c10b0
          try clear c10b1
          try clear c12
          try clear c12b0
          try clear c12b1
          try clear c15
          try clear c15b0
          try clear c15b1
          try clear p2
          obtain ⟨kq, x67_13, rfl, HA, HJ13, HB⟩ := hcut
          cases kq with
          | zero => exact absurd HA.out (by simp [cleatlaw01_BitsSign.j1])
          | succ kj13 =>
            have H := HA.out
            clear HA
            simp only [cleatlaw01_BitsSign.j1] at H
            by_cases c16 : x67_13 = true
            · subst c16
              have H1 : (none) = some r := by rw [if_pos rfl] at H; exact H
              clear H
              have H := H1
              clear H1
              exact absurd H (by simp)
            · replace c16 := Bool.eq_false_iff.mpr c16
              subst c16
              have H1 : (if a3 < a2 then (cleatlaw01_BitsSign.j2 kj13 a1 a2 a3 t336 true) else (cleatlaw01_BitsSign.j2 kj13 a1 a2 a3 t336 (decide (a3 > 32)))) = some r := by rw [if_neg (show ¬ (false = true) by decide)] at H; exact H
              clear H
              have H := H1
              clear H1
              have HC17 := Aside0.mk H
              clear H
              go_upto_region 12 with (fail)
              go_cut [74] (fun v74 wc => ∃ (kq : Nat) (x74_16 : Bool), v74 = .bool x74_16 ∧ Aside0 (cleatlaw01_BitsSign.j2 kq a1 a2 a3 t336 x74_16 = some r) ∧ Aside0 (kq ≤ kj13) ∧ Aside0 (Below w.heap.size w wc))
              case first =>
                have H := HC17.out
                clear HC17
                by_cases c18 : a3 < a2
                · rw [if_pos c18] at H
                  have c18b0 : decide (a3 < a2) = true := decide_eq_true c18
                  clear c18
                  (first | rw [c18b0] | (simp only [i64_w, i32_w]; rw [c18b0]) | skip)
                  have H' := Aside0.mk H
                  clear H
                  go_wp2
                  go_meet
                  case rel => exact ⟨_, (true), (by first | rfl | (simp; done) | (simp [*]; done)), H', ⟨by have := HJ5.out; have := HJ13.out; first | omega | exact Nat.le_refl _⟩, ⟨by repeat (first | (with_reducible first | exact HB.out | apply below_alloc | apply pw_below_drewN | apply below_drew1) | exact HB.out)⟩⟩
                · rw [if_neg c18] at H
                  have c18b0 : decide (a3 < a2) = false := decide_eq_false c18
                  clear c18
                  (first | rw [c18b0] | (simp only [i64_w, i32_w]; rw [c18b0]) | skip)
                  have H' := Aside0.mk H
                  clear H
                  go_wp2
                  go_meet
                  case rel => exact ⟨_, (decide (a3 > 32)), (by first | rfl | (simp; done) | (simp [*]; done)), H', ⟨by have := HJ5.out; have := HJ13.out; first | omega | exact Nat.le_refl _⟩, ⟨by repeat (first | (with_reducible first | exact HB.out | apply below_alloc | apply pw_below_drewN | apply below_drew1) | exact HB.out)⟩⟩
              case rest =>
                clear HC17
                try clear c1
                try clear c2
                try clear p2
                try clear c7
                try clear c7b0
                try clear c7b1
                try clear c9
                try clear c9b0
                try clear c9b1
                try clear c10
                try clear c10b0
                try clear c10b1
                try clear c12
                try clear c12b0
                try clear c12b1
                try clear c15
                try clear c15b0
                try clear c15b1
                try clear c16
                try clear c18
                try clear c18b0
                try clear p2
                obtain ⟨kq, x74_16, rfl, HA, HJ16, HB⟩ := hcut
                cases kq with
                | zero => exact absurd HA.out (by simp [cleatlaw01_BitsSign.j2])
                | succ kj16 =>
                  have H := HA.out
                  clear HA
                  simp only [cleatlaw01_BitsSign.j2] at H
                  by_cases c19 : x74_16 = true
                  · subst c19
                    have H1 : ((cleatlaw01_told.f kj16).bind fun t341 => (some t341)) = some r := by rw [if_pos rfl] at H; exact H
                    clear H
                    have H := H1
                    clear H1
                    replace H := Option.bind_eq_some_iff.mp H
                    obtain ⟨t341, A200, H⟩ := H
                    replace H : (some t341) = some r := H
                    have A20 := Aside0.mk A200
                    clear A200
                    obtain rfl := Option.some.inj H
                    go_wp2_with (first | ((with_reducible refine gate_callee (f := 30) rfl ?_); refine goesL_ (some 75) rfl rfl Try.func30 (by kernel_rfl) rfl #[] rfl (by (try simp only [List.map_toArray, List.map_cons, List.map_nil]); first | done | rfl | (simp only [List.length_drop, List.length_take]; rfl)) ?_; (with_reducible refine (cleatlaw01_told.calls kj16  t341 _ A20.out).mono ?_); rintro e w21 ⟨rfl, hb⟩; refine ⟨_, rfl, ?_⟩; have n0_ := Aside0.mk (below_step (by repeat (first | (with_reducible first | exact HB.out | apply below_alloc | apply pw_below_drewN | apply below_drew1) | exact HB.out)) hb); clear HB; have HB := n0_; clear n0_; (try clear hb); (try clear hb2); (try clear hk); (try clear hi)))
                    go_ret
                    exact ⟨by first | rfl | (simp [errW_none, errW_some] <;> rfl) | (simp [*, errW_none, errW_some] <;> rfl), by repeat (first | (with_reducible first | exact HB.out | apply below_alloc | apply pw_below_drewN | apply below_drew1) | exact HB.out)⟩
                  · replace c19 := Bool.eq_false_iff.mpr c19
                    subst c19
                    have H1 : ((bits_Pack.f kj16 a1 a3).bind fun bt342 => ((bits_Signed.f kj16 bt342.1 a3).bind fun bt344 => ((cleatlaw01_told.f kj16).bind fun t346 => (if t346 = true then (if bt342.2 = 0 then (if bt344.2 = 0 then (if bt344.1 = a1 then ((bits_Low.f (IntKind.u64.wrap (bt342.1)) a2).bind fun t347 => (some (t347 == (IntKind.u64.wrap (t336))))) else (none)) else (none)) else (none)) else (none))))) = some r := by rw [if_neg (show ¬ (false = true) by decide)] at H; exact H
                    clear H
                    have H := H1
                    clear H1
                    replace H := Option.bind_eq_some_iff.mp H
                    obtain ⟨⟨t342, t343⟩, A220, H⟩ := H
                    replace H : ((bits_Signed.f kj16 t342 a3).bind fun bt344 => ((cleatlaw01_told.f kj16).bind fun t346 => (if t346 = true then (if t343 = 0 then (if bt344.2 = 0 then (if bt344.1 = a1 then ((bits_Low.f (IntKind.u64.wrap (t342)) a2).bind fun t347 => (some (t347 == (IntKind.u64.wrap (t336))))) else (none)) else (none)) else (none)) else (none)))) = some r := H
                    have A22 := Aside0.mk A220
                    clear A220
                    replace H := Option.bind_eq_some_iff.mp H
                    obtain ⟨⟨t344, t345⟩, A230, H⟩ := H
                    replace H : ((cleatlaw01_told.f kj16).bind fun t346 => (if t346 = true then (if t343 = 0 then (if t345 = 0 then (if t344 = a1 then ((bits_Low.f (IntKind.u64.wrap (t342)) a2).bind fun t347 => (some (t347 == (IntKind.u64.wrap (t336))))) else (none)) else (none)) else (none)) else (none))) = some r := H
                    have A23 := Aside0.mk A230
                    clear A230
                    replace H := Option.bind_eq_some_iff.mp H
                    obtain ⟨t346, A240, H⟩ := H
                    replace H : (if t346 = true then (if t343 = 0 then (if t345 = 0 then (if t344 = a1 then ((bits_Low.f (IntKind.u64.wrap (t342)) a2).bind fun t347 => (some (t347 == (IntKind.u64.wrap (t336))))) else (none)) else (none)) else (none)) else (none)) = some r := H
                    have A24 := Aside0.mk A240
                    clear A240
                    by_cases c25 : t346 = true
                    · subst c25
                      have H1 : (if t343 = 0 then (if t345 = 0 then (if t344 = a1 then ((bits_Low.f (IntKind.u64.wrap (t342)) a2).bind fun t347 => (some (t347 == (IntKind.u64.wrap (t336))))) else (none)) else (none)) else (none)) = some r := by rw [if_pos rfl] at H; exact H
                      clear H
                      have H := H1
                      clear H1
                      by_cases c26 : t343 = 0
                      · rw [if_pos c26] at H
                        have c26b0 : (t343 == 0) = true := beq_iff_eq.mpr c26
                        have c26b1 : (t343 != 0) = false := bne_eq_false_iff_eq.mpr c26
                        clear c26
                        by_cases c27 : t345 = 0
                        · rw [if_pos c27] at H
                          have c27b0 : (t345 == 0) = true := beq_iff_eq.mpr c27
                          have c27b1 : (t345 != 0) = false := bne_eq_false_iff_eq.mpr c27
                          clear c27
                          by_cases c28 : t344 = a1
                          · rw [if_pos c28] at H
                            have c28b0 : (t344 == a1) = true := beq_iff_eq.mpr c28
                            have c28b1 : (t344 != a1) = false := bne_eq_false_iff_eq.mpr c28
                            clear c28
                            replace H := Option.bind_eq_some_iff.mp H
                            obtain ⟨t347, A290, H⟩ := H
                            replace H : (some (t347 == (IntKind.u64.wrap (t336)))) = some r := H
                            have A29 := Aside0.mk A290
                            clear A290
                            obtain rfl := Option.some.inj H
                            go_wp2_with (first | ((with_reducible refine gate_callee (f := 28) rfl ?_); refine goesL_ (some 79) rfl rfl Try.func28 (by kernel_rfl) rfl #[.int .i64 a1, .int .i64 a3] rfl (by (try simp only [List.map_toArray, List.map_cons, List.map_nil]); first | done | rfl | (simp only [List.length_drop, List.length_take]; rfl)) ?_; (with_reducible refine (bits_Pack.calls kj16 a1 a3 t342 t343 _ A22.out).mono ?_); rintro e w' ⟨rfl, ⟨nd, rfl⟩⟩; refine ⟨_, rfl, ?_⟩) | ((with_reducible refine gate_callee (f := 26) rfl ?_); refine goesL_ (some 85) rfl rfl Try.func26 (by kernel_rfl) rfl #[.int .u32 t342, .int .i64 a3] rfl (by (try simp only [List.map_toArray, List.map_cons, List.map_nil]); first | done | rfl | (simp only [List.length_drop, List.length_take]; rfl)) ?_; (with_reducible refine (bits_Signed.calls kj16 t342 a3 t344 t345 _ A23.out).mono ?_); rintro e w' ⟨rfl, ⟨nd, rfl⟩⟩; refine ⟨_, rfl, ?_⟩) | ((with_reducible refine gate_callee (f := 30) rfl ?_); refine goesL_ (some 88) rfl rfl Try.func30 (by kernel_rfl) rfl #[] rfl (by (try simp only [List.map_toArray, List.map_cons, List.map_nil]); first | done | rfl | (simp only [List.length_drop, List.length_take]; rfl)) ?_; (with_reducible refine (cleatlaw01_told.calls kj16  true _ A24.out).mono ?_); rintro e w30 ⟨rfl, hb⟩; refine ⟨_, rfl, ?_⟩; have n0_ := Aside0.mk (below_step (by repeat (first | (with_reducible first | exact HB.out | apply below_alloc | apply pw_below_drewN | apply below_drew1) | exact HB.out)) hb); clear HB; have HB := n0_; clear n0_; (try clear hb); (try clear hb2); (try clear hk); (try clear hi)) | (go_at_call 33; (with_reducible refine (bits_Low.calls (IntKind.u64.wrap (t342)) a2 t347 _ A29.out).mono ?_); rintro e w31 ⟨rfl, hb⟩; have n0_ := Aside0.mk (below_step (by repeat (first | (with_reducible first | exact HB.out | apply below_alloc | apply pw_below_drewN | apply below_drew1) | exact HB.out)) hb); clear HB; have HB := n0_; clear n0_; (try clear hb); (try clear hb2); (try clear hk); (try clear hi)))
                            go_ret
                            exact ⟨by first | rfl | (simp [errW_none, errW_some] <;> rfl) | (simp [*, errW_none, errW_some] <;> rfl), by repeat (first | (with_reducible first | exact HB.out | apply below_alloc | apply pw_below_drewN | apply below_drew1) | exact HB.out)⟩
                          · rw [if_neg c28] at H
                            exact absurd H (by simp)
                        · rw [if_neg c27] at H
                          exact absurd H (by simp)
                      · rw [if_neg c26] at H
                        exact absurd H (by simp)
                    · replace c25 := Bool.eq_false_iff.mpr c25
                      subst c25
                      have H1 : (none) = some r := by rw [if_neg (show ¬ (false = true) by decide)] at H; exact H
                      clear H
                      have H := H1
                      clear H1
                      exact absurd H (by simp)
      · rw [if_neg c12] at H
        have c12b0 : (t337 == 0) = false := beq_eq_false_iff_ne.mpr c12
        have c12b1 : (t337 != 0) = true := bne_iff_ne.mpr c12
        replace H := Option.bind_eq_some_iff.mp H
        obtain ⟨t338, A320, H⟩ := H
        replace H : (if t338 = true then (some (t336 == 0)) else (none)) = some r := H
        have A32 := Aside0.mk A320
        clear A320
        by_cases c33 : t338 = true
        · subst c33
          have H1 : (some (t336 == 0)) = some r := by rw [if_pos rfl] at H; exact H
          clear H
          have H := H1
          clear H1
          obtain rfl := Option.some.inj H
          go_wp2_with (first | ((with_reducible refine gate_callee (f := 28) rfl ?_); refine goesL_ (some 45) rfl rfl Try.func28 (by kernel_rfl) rfl #[.int .i64 a1, .int .i64 a2] rfl (by (try simp only [List.map_toArray, List.map_cons, List.map_nil]); first | done | rfl | (simp only [List.length_drop, List.length_take]; rfl)) ?_; (with_reducible refine (bits_Pack.calls kj5 a1 a2 t336 t337 _ A11.out).mono ?_); rintro e w' ⟨rfl, ⟨nd, rfl⟩⟩; refine ⟨_, rfl, ?_⟩) | ((with_reducible refine gate_callee (f := 30) rfl ?_); refine goesL_ (some 50) rfl rfl Try.func30 (by kernel_rfl) rfl #[] rfl (by (try simp only [List.map_toArray, List.map_cons, List.map_nil]); first | done | rfl | (simp only [List.length_drop, List.length_take]; rfl)) ?_; (with_reducible refine (cleatlaw01_told.calls kj5  true _ A32.out).mono ?_); rintro e w34 ⟨rfl, hb⟩; refine ⟨_, rfl, ?_⟩; have n0_ := Aside0.mk (below_step (by repeat (first | (with_reducible first | exact HB.out | apply below_alloc | apply pw_below_drewN | apply below_drew1) | exact HB.out)) hb); clear HB; have HB := n0_; clear n0_; (try clear hb); (try clear hb2); (try clear hk); (try clear hi)))
          go_ret
          exact ⟨by first | rfl | (simp [errW_none, errW_some] <;> rfl) | (simp [*, errW_none, errW_some] <;> rfl), by repeat (first | (with_reducible first | exact HB.out | apply below_alloc | apply pw_below_drewN | apply below_drew1) | exact HB.out)⟩
        · replace c33 := Bool.eq_false_iff.mpr c33
          subst c33
          have H1 : (none) = some r := by rw [if_neg (show ¬ (false = true) by decide)] at H; exact H
          clear H
          have H := H1
          clear H1
          exact absurd H (by simp)

/-- THE ONE PURE STATEMENT of cleatlaw01_BitsSign: yours. -/
def cleatlaw01_BitsSign.Pure : Prop := ∀ (a0 : Int) (a1 : Int) (a2 : Int) (a3 : Int), (Lit.int .u32 a0).wf = true → (Lit.int .i64 a1).wf = true → (Lit.int .i64 a2).wf = true → (Lit.int .i64 a3).wf = true → ∃ k, cleatlaw01_BitsSign.f k a0 a1 a2 a3 = some true
theorem cleatlaw01_BitsSign.walk (P : cleatlaw01_BitsSign.Pure) (a0 : Int) (a1 : Int) (a2 : Int) (a3 : Int) (w : World) (w0 : (Lit.int .u32 a0).wf = true) (w1 : (Lit.int .i64 a1).wf = true) (w2 : (Lit.int .i64 a2).wf = true) (w3 : (Lit.int .i64 a3).wf = true) :
    Calls Try.prog 9 #[.int .u32 a0, .int .i64 a1, .int .i64 a2, .int .i64 a3] w fun e w' => e = .returned (.bool true) ∧ Below w.heap.size w w' := by
  obtain ⟨k, h⟩ := P a0 a1 a2 a3 w0 w1 w2 w3
  refine (cleatlaw01_BitsSign.calls k a0 a1 a2 a3 true w h).mono ?_
  rintro e w' ⟨rfl, hd⟩
  exact ⟨rfl, hd⟩

end Go.Proofs.Ytclomjndhcpmfaa.P
