/- Written for this claim by a program of this session (drive.py, over the print of the kit): Lean functions with the answers of Go functions, and the proofs that the Go code comes to these answers, under no condition but the readings of the arguments that each theorem names. -/
import Derived.Test.YtclomjndhcpmfaaPx0
import Derived.Test.YtclomjndhcpmfaaPx9
import Derived.Test.YtclomjndhcpmfaaPx10
import Derived.Test.YtclomjndhcpmfaaPx12
namespace Go.Proofs.Ytclomjndhcpmfaa.P
open Go.RowKit Go.Proofs.YtclomjndhcpmfaaW.PrintWords Go.Proofs.YtclomjndhcpmfaaW.PrintLast Go.Proofs.YtclomjndhcpmfaaW.PrintMore
attribute [local go_sem] max2_int min2_int max_two min_two max_three min_three max_four min_four   -- for this text's walks alone
set_option linter.unusedVariables false
set_option linter.unusedSimpArgs false

/-! ### cleatlaw01_BitsBack: function 12 -/
mutual
def cleatlaw01_BitsBack.l0 : Nat → List (S56) → Int → Int → Int → Int → Int → Int → Option (Bool)
  | 0, _, _, _, _, _, _, _ => none
  | k + 1, x0, x1, x2, x3, x9, x10, x11 => if x11 < (x0.length : Int) then (cleatlaw01_BitsBack.j1 k x0 x1 x2 x3 x9 x10 x11 (x10 == 0)) else (cleatlaw01_BitsBack.j1 k x0 x1 x2 x3 x9 x10 x11 false)
def cleatlaw01_BitsBack.j1 : Nat → List (S56) → Int → Int → Int → Int → Int → Int → Bool → Option (Bool)
  | 0, _, _, _, _, _, _, _, _ => none
  | k + 1, x0, x1, x2, x3, x9, x10, x11, x37 => if x37 = true then (if 0 ≤ x11 then (if x11 < (x0.length : Int) then ((bits_Field.f x9 ((rd_T56 x0 x11).f0) ((rd_T56 x0 x11).f1)).bind fun bt404 => (if bt404.2 = 0 then (if bt404.1 = ((rd_T56 x0 x11).f2) then (cleatlaw01_BitsBack.l0 k x0 x1 x2 x3 x9 x10 (wrap64 (x11 + 1))) else (none)) else (none))) else (none)) else (none)) else (if x2 < 1 then (cleatlaw01_BitsBack.j2 k x1 x2 x3 true) else (if x2 > 30 then (cleatlaw01_BitsBack.j2 k x1 x2 x3 true) else (if x3 < 1 then (cleatlaw01_BitsBack.j2 k x1 x2 x3 true) else (cleatlaw01_BitsBack.j2 k x1 x2 x3 (decide (x3 > (wrap64 (31 - x2))))))))
def cleatlaw01_BitsBack.j2 : Nat → Int → Int → Int → Bool → Option (Bool)
  | 0, _, _, _, _ => none
  | k + 1, x1, x2, x3, x81 => if x81 = true then ((cleatlaw01_told.f k).bind fun t407 => (some t407)) else ((bits_Field.f x1 0 x2).bind fun bt408 => ((bits_Field.f x1 x2 x3).bind fun bt410 => ((bits_Field.f x1 (wrap64 (x2 + x3)) (wrap64 ((wrap64 (32 - x2)) - x3))).bind fun bt412 => ((bits_Word.f k (([(⟨0, x2, bt408.1⟩ : S56), (⟨x2, x3, bt410.1⟩ : S56), (⟨wrap64 (x2 + x3), wrap64 ((wrap64 (32 - x2)) - x3), bt412.1⟩ : S56)] : List (S56)))).bind fun bt417 => ((cleatlaw01_told.f k).bind fun t419 => (if t419 = true then (if bt408.2 = 0 then (if bt410.2 = 0 then (if bt412.2 = 0 then (if bt417.2 = 0 then (some (bt417.1 == x1)) else (none)) else (none)) else (none)) else (none)) else (none)))))))
end
def cleatlaw01_BitsBack.f (k : Nat) (l0 : List (S56)) (a1 : Int) (a2 : Int) (a3 : Int) : Option (Bool) := if (l0.length : Int) > 40 then (some true) else ((bits_Word.f k l0).bind fun bt400 => (cleatlaw01_BitsBack.l0 k l0 a1 a2 a3 bt400.1 bt400.2 0))
theorem cleatlaw01_BitsBack.mono_l : ∀ k, (∀ y0 y1 y2 y3 y4 y5 y6, LeO (cleatlaw01_BitsBack.l0 k y0 y1 y2 y3 y4 y5 y6) (cleatlaw01_BitsBack.l0 (k + 1) y0 y1 y2 y3 y4 y5 y6)) ∧ (∀ y0 y1 y2 y3 y4 y5 y6 y7, LeO (cleatlaw01_BitsBack.j1 k y0 y1 y2 y3 y4 y5 y6 y7) (cleatlaw01_BitsBack.j1 (k + 1) y0 y1 y2 y3 y4 y5 y6 y7)) ∧ (∀ y0 y1 y2 y3, LeO (cleatlaw01_BitsBack.j2 k y0 y1 y2 y3) (cleatlaw01_BitsBack.j2 (k + 1) y0 y1 y2 y3))
  | 0 => ⟨fun _ _ _ _ _ _ _ r h => by simp [cleatlaw01_BitsBack.l0] at h, fun _ _ _ _ _ _ _ _ r h => by simp [cleatlaw01_BitsBack.j1] at h, fun _ _ _ _ r h => by simp [cleatlaw01_BitsBack.j2] at h⟩
  | k + 1 => by
    obtain ⟨ih0, ih1, ih2⟩ := cleatlaw01_BitsBack.mono_l k
    refine ⟨?_, ?_, ?_⟩
    · intro y0 y1 y2 y3 y4 y5 y6
      unfold cleatlaw01_BitsBack.l0
      repeat' first
      | (with_reducible exact ih0 _ _ _ _ _ _ _)
      | (with_reducible exact ih1 _ _ _ _ _ _ _ _)
      | (with_reducible exact ih2 _ _ _ _)
      | (with_reducible exact bits_Word.mono _ _)
      | (with_reducible exact cleatlaw01_told.mono _)
      | (with_reducible exact LeO.refl _)
      | (with_reducible exact LeO.none _)
      | (with_reducible refine LeO.ite ?_ ?_)
      | (with_reducible refine LeO.bind ?_ (fun _ => ?_))
      | exact ih0 _ _ _ _ _ _ _
      | exact ih1 _ _ _ _ _ _ _ _
      | exact ih2 _ _ _ _
      | exact bits_Word.mono _ _
      | exact cleatlaw01_told.mono _
      | exact LeO.none _
      | refine LeO.ite ?_ ?_
      | refine LeO.bind ?_ (fun _ => ?_)
    · intro y0 y1 y2 y3 y4 y5 y6 y7
      unfold cleatlaw01_BitsBack.j1
      repeat' first
      | (with_reducible exact ih0 _ _ _ _ _ _ _)
      | (with_reducible exact ih1 _ _ _ _ _ _ _ _)
      | (with_reducible exact ih2 _ _ _ _)
      | (with_reducible exact bits_Word.mono _ _)
      | (with_reducible exact cleatlaw01_told.mono _)
      | (with_reducible exact LeO.refl _)
      | (with_reducible exact LeO.none _)
      | (with_reducible refine LeO.ite ?_ ?_)
      | (with_reducible refine LeO.bind ?_ (fun _ => ?_))
      | exact ih0 _ _ _ _ _ _ _
      | exact ih1 _ _ _ _ _ _ _ _
      | exact ih2 _ _ _ _
      | exact bits_Word.mono _ _
      | exact cleatlaw01_told.mono _
      | exact LeO.none _
      | refine LeO.ite ?_ ?_
      | refine LeO.bind ?_ (fun _ => ?_)
    · intro y0 y1 y2 y3
      unfold cleatlaw01_BitsBack.j2
      repeat' first
      | (with_reducible exact ih0 _ _ _ _ _ _ _)
      | (with_reducible exact ih1 _ _ _ _ _ _ _ _)
      | (with_reducible exact ih2 _ _ _ _)
      | (with_reducible exact bits_Word.mono _ _)
      | (with_reducible exact cleatlaw01_told.mono _)
      | (with_reducible exact LeO.refl _)
      | (with_reducible exact LeO.none _)
      | (with_reducible refine LeO.ite ?_ ?_)
      | (with_reducible refine LeO.bind ?_ (fun _ => ?_))
      | exact ih0 _ _ _ _ _ _ _
      | exact ih1 _ _ _ _ _ _ _ _
      | exact ih2 _ _ _ _
      | exact bits_Word.mono _ _
      | exact cleatlaw01_told.mono _
      | exact LeO.none _
      | refine LeO.ite ?_ ?_
      | refine LeO.bind ?_ (fun _ => ?_)
theorem cleatlaw01_BitsBack.mono : ∀ a0 a1 a2 a3 k, LeO (cleatlaw01_BitsBack.f k a0 a1 a2 a3) (cleatlaw01_BitsBack.f (k + 1) a0 a1 a2 a3) := by
  intro a0 a1 a2 a3 k
  obtain ⟨ih0, ih1, ih2⟩ := cleatlaw01_BitsBack.mono_l k
  unfold cleatlaw01_BitsBack.f
  repeat' first
      | (with_reducible exact ih0 _ _ _ _ _ _ _)
      | (with_reducible exact ih1 _ _ _ _ _ _ _ _)
      | (with_reducible exact ih2 _ _ _ _)
      | (with_reducible exact bits_Word.mono _ _)
      | (with_reducible exact cleatlaw01_told.mono _)
      | (with_reducible exact LeO.refl _)
      | (with_reducible exact LeO.none _)
      | (with_reducible refine LeO.ite ?_ ?_)
      | (with_reducible refine LeO.bind ?_ (fun _ => ?_))
      | exact ih0 _ _ _ _ _ _ _
      | exact ih1 _ _ _ _ _ _ _ _
      | exact ih2 _ _ _ _
      | exact bits_Word.mono _ _
      | exact cleatlaw01_told.mono _
      | exact LeO.none _
      | refine LeO.ite ?_ ?_
      | refine LeO.bind ?_ (fun _ => ?_)
set_option maxHeartbeats 8000000 in
set_option maxRecDepth 100000 in
theorem cleatlaw01_BitsBack.calls (k : Nat) (A0 : Option Addr) (c0 : Nat) (l0 : List (S56)) (a1 : Int) (a2 : Int) (a3 : Int) (r : Bool) (w : World) (hr0 : Kd.C k56 w A0 l0.length l0) (hc0 : l0.length ≤ c0) (h : cleatlaw01_BitsBack.f k l0 a1 a2 a3 = some r) :
    Calls Try.prog 12 #[.slice A0 l0.length c0, .int .u32 a1, .int .i64 a2, .int .i64 a3] w fun e w' => e = .returned (.bool r) ∧ Below w.heap.size w w' := by
  have hu56 := Try.underlying56
  have HR0 := Aside0.mk hr0
  have HC0 := Aside0.mk hc0
  clear hr0 hc0
  have HB := Aside0.mk (Below.refl w.heap.size w)
  have H : (if (l0.length : Int) > 40 then (some true) else ((bits_Word.f k l0).bind fun bt400 => (cleatlaw01_BitsBack.l0 k l0 a1 a2 a3 bt400.1 bt400.2 0))) = some r := h
  clear h
  by_cases c5 : (l0.length : Int) > 40
  · rw [if_pos c5] at H
    have c5b0 : decide (40 < (l0.length : Int)) = true := decide_eq_true c5
    have c5b1 : decide (40 < l0.length) = true := decide_eq_true (by omega)
    clear c5
    obtain rfl := Option.some.inj H
    go_enter Try.func12, Try.ntmps12
    go_wp2
    repeat (go_quiet (fail); try go_wp2)
    go_ret
    exact ⟨by first | rfl | (simp [errW_none, errW_some] <;> rfl) | (simp [*, errW_none, errW_some] <;> rfl), by repeat (first | (with_reducible first | exact HB.out | apply below_alloc | apply pw_below_drewN | apply below_drew1) | exact HB.out)⟩
  · rw [if_neg c5] at H
    have c5b0 : decide (40 < (l0.length : Int)) = false := decide_eq_false c5
    have c5b1 : decide (40 < l0.length) = false := decide_eq_false (by omega)
    clear c5
    replace H := Option.bind_eq_some_iff.mp H
    obtain ⟨⟨t400, t401⟩, A60, H⟩ := H
    replace H : (cleatlaw01_BitsBack.l0 k l0 a1 a2 a3 t400 t401 0) = some r := H
    have A6 := Aside0.mk A60
    clear A60
    have H' := Aside0.mk H
    clear H
    go_enter Try.func12, Try.ntmps12
    go_wp2_with (first | (go_at_call 38; (with_reducible refine (bits_Word.calls k _ _ l0 t400 t401 _ ?side1 ?side2 A6.out).mono ?_); (case side1 => repeat (first | exact HR0.out | (with_reducible refine Kd.C_alloc ?_ _) | (with_reducible refine Kd.C_drewN ?_ _) | (with_reducible refine Kd.C_drew ?_))); (case side2 => exact HC0.out); rintro e w7 ⟨rfl, hb⟩; have n0_ := Aside0.mk (below_step (by repeat (first | (with_reducible first | exact HB.out | apply below_alloc | apply pw_below_drewN | apply below_drew1) | exact HB.out)) hb); clear HB; have HB := n0_; clear n0_; (try clear hb); (try clear hb2); (try clear hk); (try clear hi)))
    repeat (go_quiet (first | (go_at_call 38; (with_reducible refine (bits_Word.calls k _ _ l0 t400 t401 _ ?side1 ?side2 A6.out).mono ?_); (case side1 => repeat (first | exact HR0.out | (with_reducible refine Kd.C_alloc ?_ _) | (with_reducible refine Kd.C_drewN ?_ _) | (with_reducible refine Kd.C_drew ?_))); (case side2 => exact HC0.out); rintro e w7 ⟨rfl, hb⟩; have n0_ := Aside0.mk (below_step (by repeat (first | (with_reducible first | exact HB.out | apply below_alloc | apply pw_below_drewN | apply below_drew1) | exact HB.out)) hb); clear HB; have HB := n0_; clear n0_; (try clear hb); (try clear hb2); (try clear hk); (try clear hi))); try go_wp2_with (first | (go_at_call 38; (with_reducible refine (bits_Word.calls k _ _ l0 t400 t401 _ ?side1 ?side2 A6.out).mono ?_); (case side1 => repeat (first | exact HR0.out | (with_reducible refine Kd.C_alloc ?_ _) | (with_reducible refine Kd.C_drewN ?_ _) | (with_reducible refine Kd.C_drew ?_))); (case side2 => exact HC0.out); rintro e w7 ⟨rfl, hb⟩; have n0_ := Aside0.mk (below_step (by repeat (first | (with_reducible first | exact HB.out | apply below_alloc | apply pw_below_drewN | apply below_drew1) | exact HB.out)) hb); clear HB; have HB := n0_; clear n0_; (try clear hb); (try clear hb2); (try clear hk); (try clear hi))))
    go_loopg [11] k (fun kq v11 w' => ∃ (x11_1 : Int), v11 = .int .i64 x11_1 ∧ Aside0 (cleatlaw01_BitsBack.l0 kq l0 a1 a2 a3 t400 t401 x11_1 = some r) ∧ Aside0 (kq ≤ k) ∧ Aside0 (Below w.heap.size w w'))
    case atStart => exact ⟨(0), (by first | rfl | (simp; done) | (simp [*]; done)), H', ⟨Nat.le_refl _⟩, ⟨by repeat (first | (with_reducible first | exact HB.out | apply below_alloc | apply pw_below_drewN | apply below_drew1) | exact HB.out)⟩⟩
    case round =>
      clear H'
      try clear c1
      try clear p2
      try clear c5
      try clear c5b0
      try clear c5b1
      obtain ⟨x11_1, rfl, HA, HK1, HB⟩ := hrel
      cases gk with
      | zero => exact absurd HA.out (by simp [cleatlaw01_BitsBack.l0])
      | succ k1 =>
        have H := HA.out
        clear HA
        simp only [cleatlaw01_BitsBack.l0] at H
        have HC8 := Aside0.mk H
        clear H
        go_upto_region 5 with (fail)
        repeat (go_quiet (fail); go_upto_region 5 with (fail))
        go_cut [37] (fun v37 wc => ∃ (kq : Nat) (x37_7 : Bool), v37 = .bool x37_7 ∧ Aside0 (cleatlaw01_BitsBack.j1 kq l0 a1 a2 a3 t400 t401 x11_1 x37_7 = some r) ∧ Aside0 (kq ≤ k1) ∧ Aside0 (Below w.heap.size w wc))
        case first =>
          have H := HC8.out
          clear HC8
          by_cases c9 : x11_1 < (l0.length : Int)
          · rw [if_pos c9] at H
            have c9b0 : decide (x11_1 < (l0.length : Int)) = true := decide_eq_true c9
            clear c9
            (first | rw [c9b0] | (simp only [i64_w, i32_w]; rw [c9b0]) | skip)
            have H' := Aside0.mk H
            clear H
            go_wp2
            repeat (go_quiet (fail); try go_wp2)
            go_meet
            case rel => exact ⟨_, ((t401 == 0)), (by first | rfl | (simp; done) | (simp [*]; done)), H', ⟨by have := HK1.out; first | omega | exact Nat.le_refl _⟩, ⟨by repeat (first | (with_reducible first | exact HB.out | apply below_alloc | apply pw_below_drewN | apply below_drew1) | exact HB.out)⟩⟩
          · rw [if_neg c9] at H
            have c9b0 : decide (x11_1 < (l0.length : Int)) = false := decide_eq_false c9
            clear c9
            (first | rw [c9b0] | (simp only [i64_w, i32_w]; rw [c9b0]) | skip)
            have H' := Aside0.mk H
            clear H
            go_wp2
            repeat (go_quiet (fail); try go_wp2)
            go_meet
            case rel => exact ⟨_, (false), (by first | rfl | (simp; done) | (simp [*]; done)), H', ⟨by have := HK1.out; first | omega | exact Nat.le_refl _⟩, ⟨by repeat (first | (with_reducible first | exact HB.out | apply below_alloc | apply pw_below_drewN | apply below_drew1) | exact HB.out)⟩⟩
        case rest =>
          clear HC8
          try clear c1
          try clear p2
          try clear c5
          try clear c5b0
          try clear c5b1
          try clear c9
          try clear c9b0
          try clear p2
          obtain ⟨kq, x37_7, rfl, HA, HJ7, HB⟩ := hcut
          cases kq with
          | zero => exact absurd HA.out (by simp [cleatlaw01_BitsBack.j1])
          | succ kj7 =>
            have H := HA.out
            clear HA
            simp only [cleatlaw01_BitsBack.j1] at H
            by_cases c10 : x37_7 = true
            · subst c10
              have H1 : (if 0 ≤ x11_1 then (if x11_1 < (l0.length : Int) then ((bits_Field.f t400 ((rd_T56 l0 x11_1).f0) ((rd_T56 l0 x11_1).f1)).bind fun bt404 => (if bt404.2 = 0 then (if bt404.1 = ((rd_T56 l0 x11_1).f2) then (cleatlaw01_BitsBack.l0 kj7 l0 a1 a2 a3 t400 t401 (wrap64 (x11_1 + 1))) else (none)) else (none))) else (none)) else (none)) = some r := by rw [if_pos rfl] at H; exact H
              clear H
              have H := H1
              clear H1
              by_cases c11 : 0 ≤ x11_1
              · rw [if_pos c11] at H
                have c11b0 : decide (0 ≤ x11_1) = true := decide_eq_true c11
                clear c11
                by_cases c12 : x11_1 < (l0.length : Int)
                · rw [if_pos c12] at H
                  have c12b0 : decide (x11_1 < (l0.length : Int)) = true := decide_eq_true c12
                  clear c12
                  replace H := Option.bind_eq_some_iff.mp H
                  obtain ⟨⟨t404, t405⟩, A130, H⟩ := H
                  replace H : (if t405 = 0 then (if t404 = ((rd_T56 l0 x11_1).f2) then (cleatlaw01_BitsBack.l0 kj7 l0 a1 a2 a3 t400 t401 (wrap64 (x11_1 + 1))) else (none)) else (none)) = some r := H
                  have A13 := Aside0.mk A130
                  clear A130
                  by_cases c14 : t405 = 0
                  · rw [if_pos c14] at H
                    have c14b0 : (t405 == 0) = true := beq_iff_eq.mpr c14
                    have c14b1 : (t405 != 0) = false := bne_eq_false_iff_eq.mpr c14
                    clear c14
                    by_cases c15 : t404 = ((rd_T56 l0 x11_1).f2)
                    · rw [if_pos c15] at H
                      have c15b0 : (t404 == ((rd_T56 l0 x11_1).f2)) = true := beq_iff_eq.mpr c15
                      have c15b1 : (t404 != ((rd_T56 l0 x11_1).f2)) = false := bne_eq_false_iff_eq.mpr c15
                      clear c15
                      have H' := Aside0.mk H
                      clear H
                      have p402 : 0 ≤ (x11_1 : Int) := of_decide_eq_true (by first | (with_reducible assumption) | assumption)
                      have q402 : x11_1 < (l0.length : Int) := of_decide_eq_true (by first | (with_reducible assumption) | assumption)
                      obtain ⟨ad402, e402, hx402_0, hx402_1, hx402_2⟩ := at_T56 HR0.out x11_1 p402 q402
                      cases e402
                      replace hx402_0 := (HB.out.cell (World.block_lt_of_cell? w _ hx402_0)).trans hx402_0
                      replace hx402_1 := (HB.out.cell (World.block_lt_of_cell? w _ hx402_1)).trans hx402_1
                      replace hx402_2 := (HB.out.cell (World.block_lt_of_cell? w _ hx402_2)).trans hx402_2
                      replace p402 := eq_true p402
                      replace q402 := eq_true q402
                      have p403 : 0 ≤ (x11_1 : Int) := of_decide_eq_true (by first | (with_reducible assumption) | assumption)
                      have q403 : x11_1 < (l0.length : Int) := of_decide_eq_true (by first | (with_reducible assumption) | assumption)
                      obtain ⟨ad403, e403, hx403_0, hx403_1, hx403_2⟩ := at_T56 HR0.out x11_1 p403 q403
                      obtain rfl : ad402 = ad403 := (by injection e403)
                      replace hx403_0 := (HB.out.cell (World.block_lt_of_cell? w _ hx403_0)).trans hx403_0
                      replace hx403_1 := (HB.out.cell (World.block_lt_of_cell? w _ hx403_1)).trans hx403_1
                      replace hx403_2 := (HB.out.cell (World.block_lt_of_cell? w _ hx403_2)).trans hx403_2
                      replace p403 := eq_true p403
                      replace q403 := eq_true q403
                      go_wp2_with (first | (go_at_call 36; (with_reducible refine (bits_Field.calls t400 ((rd_T56 l0 x11_1).f0) ((rd_T56 l0 x11_1).f1) t404 t405 _ A13.out).mono ?_); rintro e w' ⟨rfl, ⟨nd, rfl⟩⟩; (try first | exact ⟨rfl, _, World.drewN_drewN _ _ _⟩ | exact ⟨rfl, _, Eq.trans (World.drewN_drewN _ _ _) (congrArg (World.drewN _) (Nat.add_assoc _ _ _))⟩); have p406 : 0 ≤ (x11_1 : Int) := of_decide_eq_true (by first | (with_reducible assumption) | assumption); have q406 : x11_1 < (l0.length : Int) := of_decide_eq_true (by first | (with_reducible assumption) | assumption); obtain ⟨ad406, e406, hx406_0, hx406_1, hx406_2⟩ := at_T56 HR0.out x11_1 p406 q406; obtain rfl : ad402 = ad406 := (by injection e406); replace hx406_0 := (HB.out.cell (World.block_lt_of_cell? w _ hx406_0)).trans hx406_0; replace hx406_1 := (HB.out.cell (World.block_lt_of_cell? w _ hx406_1)).trans hx406_1; replace hx406_2 := (HB.out.cell (World.block_lt_of_cell? w _ hx406_2)).trans hx406_2; replace p406 := eq_true p406; replace q406 := eq_true q406))
                      repeat (go_quiet (first | (go_at_call 36; (with_reducible refine (bits_Field.calls t400 ((rd_T56 l0 x11_1).f0) ((rd_T56 l0 x11_1).f1) t404 t405 _ A13.out).mono ?_); rintro e w' ⟨rfl, ⟨nd, rfl⟩⟩; (try first | exact ⟨rfl, _, World.drewN_drewN _ _ _⟩ | exact ⟨rfl, _, Eq.trans (World.drewN_drewN _ _ _) (congrArg (World.drewN _) (Nat.add_assoc _ _ _))⟩); have p406 : 0 ≤ (x11_1 : Int) := of_decide_eq_true (by first | (with_reducible assumption) | assumption); have q406 : x11_1 < (l0.length : Int) := of_decide_eq_true (by first | (with_reducible assumption) | assumption); obtain ⟨ad406, e406, hx406_0, hx406_1, hx406_2⟩ := at_T56 HR0.out x11_1 p406 q406; obtain rfl : ad402 = ad406 := (by injection e406); replace hx406_0 := (HB.out.cell (World.block_lt_of_cell? w _ hx406_0)).trans hx406_0; replace hx406_1 := (HB.out.cell (World.block_lt_of_cell? w _ hx406_1)).trans hx406_1; replace hx406_2 := (HB.out.cell (World.block_lt_of_cell? w _ hx406_2)).trans hx406_2; replace p406 := eq_true p406; replace q406 := eq_true q406)); try go_wp2_with (first | (go_at_call 36; (with_reducible refine (bits_Field.calls t400 ((rd_T56 l0 x11_1).f0) ((rd_T56 l0 x11_1).f1) t404 t405 _ A13.out).mono ?_); rintro e w' ⟨rfl, ⟨nd, rfl⟩⟩; (try first | exact ⟨rfl, _, World.drewN_drewN _ _ _⟩ | exact ⟨rfl, _, Eq.trans (World.drewN_drewN _ _ _) (congrArg (World.drewN _) (Nat.add_assoc _ _ _))⟩); have p406 : 0 ≤ (x11_1 : Int) := of_decide_eq_true (by first | (with_reducible assumption) | assumption); have q406 : x11_1 < (l0.length : Int) := of_decide_eq_true (by first | (with_reducible assumption) | assumption); obtain ⟨ad406, e406, hx406_0, hx406_1, hx406_2⟩ := at_T56 HR0.out x11_1 p406 q406; obtain rfl : ad402 = ad406 := (by injection e406); replace hx406_0 := (HB.out.cell (World.block_lt_of_cell? w _ hx406_0)).trans hx406_0; replace hx406_1 := (HB.out.cell (World.block_lt_of_cell? w _ hx406_1)).trans hx406_1; replace hx406_2 := (HB.out.cell (World.block_lt_of_cell? w _ hx406_2)).trans hx406_2; replace p406 := eq_true p406; replace q406 := eq_true q406)))
                      go_roundg kj7
                      case measure => have := HK1.out; have := HJ7.out; omega
                      case rel => exact ⟨(wrap64 (x11_1 + 1)), (by first | rfl | (simp; done) | (simp [*]; done)), H', ⟨by have := HK1.out; have := HJ7.out; omega⟩, ⟨by repeat (first | (with_reducible first | exact HB.out | apply below_alloc | apply pw_below_drewN | apply below_drew1) | exact HB.out)⟩⟩
                    · rw [if_neg c15] at H
                      exact absurd H (by simp)
                  · rw [if_neg c14] at H
                    exact absurd H (by simp)
                · rw [if_neg c12] at H
                  exact absurd H (by simp)
              · rw [if_neg c11] at H
                exact absurd H (by simp)
            · replace c10 := Bool.eq_false_iff.mpr c10
              subst c10
              have H1 : (if a2 < 1 then (cleatlaw01_BitsBack.j2 kj7 a1 a2 a3 true) else (if a2 > 30 then (cleatlaw01_BitsBack.j2 kj7 a1 a2 a3 true) else (if a3 < 1 then (cleatlaw01_BitsBack.j2 kj7 a1 a2 a3 true) else (cleatlaw01_BitsBack.j2 kj7 a1 a2 a3 (decide (a3 > (wrap64 (31 - a2)))))))) = some r := by rw [if_neg (show ¬ (false = true) by decide)] at H; exact H
              clear H
              have H := H1
              clear H1
              have HC16 := Aside0.mk H
              clear H
              go_upto_region 10 with (fail)
              repeat (go_quiet (fail); go_upto_region 10 with (fail))
              go_cut [81] (fun v81 wc => ∃ (kq : Nat) (x81_15 : Bool), v81 = .bool x81_15 ∧ Aside0 (cleatlaw01_BitsBack.j2 kq a1 a2 a3 x81_15 = some r) ∧ Aside0 (kq ≤ kj7) ∧ Aside0 (Below w.heap.size w wc))
              case first =>
                have H := HC16.out
                clear HC16
                by_cases c17 : a2 < 1
                · rw [if_pos c17] at H
                  have c17b0 : decide (a2 < 1) = true := decide_eq_true c17
                  clear c17
                  (first | rw [c17b0] | (simp only [i64_w, i32_w]; rw [c17b0]) | skip)
                  have H' := Aside0.mk H
                  clear H
                  go_wp2
                  repeat (go_quiet (fail); try go_wp2)
                  go_meet
                  case rel => exact ⟨_, (true), (by first | rfl | (simp; done) | (simp [*]; done)), H', ⟨by have := HK1.out; have := HJ7.out; first | omega | exact Nat.le_refl _⟩, ⟨by repeat (first | (with_reducible first | exact HB.out | apply below_alloc | apply pw_below_drewN | apply below_drew1) | exact HB.out)⟩⟩
                · rw [if_neg c17] at H
                  have c17b0 : decide (a2 < 1) = false := decide_eq_false c17
                  clear c17
                  (first | rw [c17b0] | (simp only [i64_w, i32_w]; rw [c17b0]) | skip)
                  by_cases c18 : a2 > 30
                  · rw [if_pos c18] at H
                    have c18b0 : decide (30 < a2) = true := decide_eq_true c18
                    clear c18
                    have H' := Aside0.mk H
                    clear H
                    go_wp2
                    repeat (go_quiet (fail); try go_wp2)
                    go_meet
                    case rel => exact ⟨_, (true), (by first | rfl | (simp; done) | (simp [*]; done)), H', ⟨by have := HK1.out; have := HJ7.out; first | omega | exact Nat.le_refl _⟩, ⟨by repeat (first | (with_reducible first | exact HB.out | apply below_alloc | apply pw_below_drewN | apply below_drew1) | exact HB.out)⟩⟩
                  · rw [if_neg c18] at H
                    have c18b0 : decide (30 < a2) = false := decide_eq_false c18
                    clear c18
                    by_cases c19 : a3 < 1
                    · rw [if_pos c19] at H
                      have c19b0 : decide (a3 < 1) = true := decide_eq_true c19
                      clear c19
                      have H' := Aside0.mk H
                      clear H
                      go_wp2
                      repeat (go_quiet (fail); try go_wp2)
                      go_meet
                      case rel => exact ⟨_, (true), (by first | rfl | (simp; done) | (simp [*]; done)), H', ⟨by have := HK1.out; have := HJ7.out; first | omega | exact Nat.le_refl _⟩, ⟨by repeat (first | (with_reducible first | exact HB.out | apply below_alloc | apply pw_below_drewN | apply below_drew1) | exact HB.out)⟩⟩
                    · rw [if_neg c19] at H
                      have c19b0 : decide (a3 < 1) = false := decide_eq_false c19
                      clear c19
                      have H' := Aside0.mk H
                      clear H
                      go_wp2
                      repeat (go_quiet (fail); try go_wp2)
                      go_meet
                      case rel => exact ⟨_, (decide (a3 > (wrap64 (31 - a2)))), (by first | rfl | (simp; done) | (simp [*]; done)), H', ⟨by have := HK1.out; have := HJ7.out; first | omega | exact Nat.le_refl _⟩, ⟨by repeat (first | (with_reducible first | exact HB.out | apply below_alloc | apply pw_below_drewN | apply below_drew1) | exact HB.out)⟩⟩
              case rest =>
                clear HC16
                try clear c1
                try clear p2
                try clear p4
                try clear q4
                try clear hx4
                try clear c5
                try clear c5b0
                try clear c5b1
                try clear p6
                try clear c9
                try clear c9b0
                try clear c10
                try clear c11
                try clear c11b0
                try clear c12
                try clear c12b0
                try clear c14
                try clear c14b0
                try clear c14b1
                try clear c15
                try clear c15b0
                try clear c15b1
                try clear c17
                try clear c17b0
                try clear c18
                try clear c18b0
                try clear c19
                try clear c19b0
                try clear hx402_0
                try clear hx402_1
                try clear hx402_2
                try clear hx403_0
                try clear hx403_1
                try clear hx403_2
                try clear hx406_0
                try clear hx406_1
                try clear hx406_2
                try clear p2
                try clear p402
                try clear p403
                try clear p406
                try clear q402
                try clear q403
                try clear q406
                obtain ⟨kq, x81_15, rfl, HA, HJ15, HB⟩ := hcut
                cases kq with
                | zero => exact absurd HA.out (by simp [cleatlaw01_BitsBack.j2])
                | succ kj15 =>
                  have H := HA.out
                  clear HA
                  simp only [cleatlaw01_BitsBack.j2] at H
                  by_cases c20 : x81_15 = true
                  · subst c20
                    have H1 : ((cleatlaw01_told.f kj15).bind fun t407 => (some t407)) = some r := by rw [if_pos rfl] at H; exact H
                    clear H
                    have H := H1
                    clear H1
                    replace H := Option.bind_eq_some_iff.mp H
                    obtain ⟨t407, A210, H⟩ := H
                    replace H : (some t407) = some r := H
                    have A21 := Aside0.mk A210
                    clear A210
                    obtain rfl := Option.some.inj H
                    go_wp2_with (first | (go_at_call 30; (with_reducible refine (cleatlaw01_told.calls kj15  t407 _ A21.out).mono ?_); rintro e w22 ⟨rfl, hb⟩; have n0_ := Aside0.mk (below_step (by repeat (first | (with_reducible first | exact HB.out | apply below_alloc | apply pw_below_drewN | apply below_drew1) | exact HB.out)) hb); clear HB; have HB := n0_; clear n0_; (try clear hb); (try clear hb2); (try clear hk); (try clear hi)))
                    repeat (go_quiet (first | (go_at_call 30; (with_reducible refine (cleatlaw01_told.calls kj15  t407 _ A21.out).mono ?_); rintro e w22 ⟨rfl, hb⟩; have n0_ := Aside0.mk (below_step (by repeat (first | (with_reducible first | exact HB.out | apply below_alloc | apply pw_below_drewN | apply below_drew1) | exact HB.out)) hb); clear HB; have HB := n0_; clear n0_; (try clear hb); (try clear hb2); (try clear hk); (try clear hi))); try go_wp2_with (first | (go_at_call 30; (with_reducible refine (cleatlaw01_told.calls kj15  t407 _ A21.out).mono ?_); rintro e w22 ⟨rfl, hb⟩; have n0_ := Aside0.mk (below_step (by repeat (first | (with_reducible first | exact HB.out | apply below_alloc | apply pw_below_drewN | apply below_drew1) | exact HB.out)) hb); clear HB; have HB := n0_; clear n0_; (try clear hb); (try clear hb2); (try clear hk); (try clear hi))))
                    go_ret
                    exact ⟨by first | rfl | (simp [errW_none, errW_some] <;> rfl) | (simp [*, errW_none, errW_some] <;> rfl), by repeat (first | (with_reducible first | exact HB.out | apply below_alloc | apply pw_below_drewN | apply below_drew1) | exact HB.out)⟩
                  · replace c20 := Bool.eq_false_iff.mpr c20
                    subst c20
                    have H1 : ((bits_Field.f a1 0 a2).bind fun bt408 => ((bits_Field.f a1 a2 a3).bind fun bt410 => ((bits_Field.f a1 (wrap64 (a2 + a3)) (wrap64 ((wrap64 (32 - a2)) - a3))).bind fun bt412 => ((bits_Word.f kj15 (([(⟨0, a2, bt408.1⟩ : S56), (⟨a2, a3, bt410.1⟩ : S56), (⟨wrap64 (a2 + a3), wrap64 ((wrap64 (32 - a2)) - a3), bt412.1⟩ : S56)] : List (S56)))).bind fun bt417 => ((cleatlaw01_told.f kj15).bind fun t419 => (if t419 = true then (if bt408.2 = 0 then (if bt410.2 = 0 then (if bt412.2 = 0 then (if bt417.2 = 0 then (some (bt417.1 == a1)) else (none)) else (none)) else (none)) else (none)) else (none))))))) = some r := by rw [if_neg (show ¬ (false = true) by decide)] at H; exact H
                    clear H
                    have H := H1
                    clear H1
                    replace H := Option.bind_eq_some_iff.mp H
                    obtain ⟨⟨t408, t409⟩, A230, H⟩ := H
                    replace H : ((bits_Field.f a1 a2 a3).bind fun bt410 => ((bits_Field.f a1 (wrap64 (a2 + a3)) (wrap64 ((wrap64 (32 - a2)) - a3))).bind fun bt412 => ((bits_Word.f kj15 (([(⟨0, a2, t408⟩ : S56), (⟨a2, a3, bt410.1⟩ : S56), (⟨wrap64 (a2 + a3), wrap64 ((wrap64 (32 - a2)) - a3), bt412.1⟩ : S56)] : List (S56)))).bind fun bt417 => ((cleatlaw01_told.f kj15).bind fun t419 => (if t419 = true then (if t409 = 0 then (if bt410.2 = 0 then (if bt412.2 = 0 then (if bt417.2 = 0 then (some (bt417.1 == a1)) else (none)) else (none)) else (none)) else (none)) else (none)))))) = some r := H
                    have A23 := Aside0.mk A230
                    clear A230
                    replace H := Option.bind_eq_some_iff.mp H
                    obtain ⟨⟨t410, t411⟩, A240, H⟩ := H
                    replace H : ((bits_Field.f a1 (wrap64 (a2 + a3)) (wrap64 ((wrap64 (32 - a2)) - a3))).bind fun bt412 => ((bits_Word.f kj15 (([(⟨0, a2, t408⟩ : S56), (⟨a2, a3, t410⟩ : S56), (⟨wrap64 (a2 + a3), wrap64 ((wrap64 (32 - a2)) - a3), bt412.1⟩ : S56)] : List (S56)))).bind fun bt417 => ((cleatlaw01_told.f kj15).bind fun t419 => (if t419 = true then (if t409 = 0 then (if t411 = 0 then (if bt412.2 = 0 then (if bt417.2 = 0 then (some (bt417.1 == a1)) else (none)) else (none)) else (none)) else (none)) else (none))))) = some r := H
                    have A24 := Aside0.mk A240
                    clear A240
                    replace H := Option.bind_eq_some_iff.mp H
                    obtain ⟨⟨t412, t413⟩, A250, H⟩ := H
                    replace H : ((bits_Word.f kj15 (([(⟨0, a2, t408⟩ : S56), (⟨a2, a3, t410⟩ : S56), (⟨wrap64 (a2 + a3), wrap64 ((wrap64 (32 - a2)) - a3), t412⟩ : S56)] : List (S56)))).bind fun bt417 => ((cleatlaw01_told.f kj15).bind fun t419 => (if t419 = true then (if t409 = 0 then (if t411 = 0 then (if t413 = 0 then (if bt417.2 = 0 then (some (bt417.1 == a1)) else (none)) else (none)) else (none)) else (none)) else (none)))) = some r := H
                    have A25 := Aside0.mk A250
                    clear A250
                    obtain ⟨y414, hy414⟩ : ∃ y_ : List (S56), y_ = (([(⟨0, a2, t408⟩ : S56), (⟨a2, a3, t410⟩ : S56), (⟨wrap64 (a2 + a3), wrap64 ((wrap64 (32 - a2)) - a3), t412⟩ : S56)] : List (S56))) := ⟨_, rfl⟩
                    replace H : ((bits_Word.f kj15 y414).bind fun bt417 => ((cleatlaw01_told.f kj15).bind fun t419 => (if t419 = true then (if t409 = 0 then (if t411 = 0 then (if t413 = 0 then (if bt417.2 = 0 then (some (bt417.1 == a1)) else (none)) else (none)) else (none)) else (none)) else (none)))) = some r := by first | (rw [hy414]; with_reducible exact H) | (have H2_ := (Option.bind_some _ _).symm.trans H; rw [hy414]; with_reducible exact H2_) | (have H2_ := (Option.bind_some _ _).symm.trans H; with_reducible exact H2_) | with_reducible exact H | (rw [hy414]; exact H) | exact H
                    have Ny414 := Aside0.mk hy414
                    clear hy414
                    replace H := Option.bind_eq_some_iff.mp H
                    obtain ⟨⟨t417, t418⟩, A260, H⟩ := H
                    replace H : ((cleatlaw01_told.f kj15).bind fun t419 => (if t419 = true then (if t409 = 0 then (if t411 = 0 then (if t413 = 0 then (if t418 = 0 then (some (t417 == a1)) else (none)) else (none)) else (none)) else (none)) else (none))) = some r := H
                    have A26 := Aside0.mk A260
                    clear A260
                    replace H := Option.bind_eq_some_iff.mp H
                    obtain ⟨t419, A270, H⟩ := H
                    replace H : (if t419 = true then (if t409 = 0 then (if t411 = 0 then (if t413 = 0 then (if t418 = 0 then (some (t417 == a1)) else (none)) else (none)) else (none)) else (none)) else (none)) = some r := H
                    have A27 := Aside0.mk A270
                    clear A270
                    by_cases c28 : t419 = true
                    · subst c28
                      have H1 : (if t409 = 0 then (if t411 = 0 then (if t413 = 0 then (if t418 = 0 then (some (t417 == a1)) else (none)) else (none)) else (none)) else (none)) = some r := by rw [if_pos rfl] at H; exact H
                      clear H
                      have H := H1
                      clear H1
                      by_cases c29 : t409 = 0
                      · rw [if_pos c29] at H
                        have c29b0 : (t409 == 0) = true := beq_iff_eq.mpr c29
                        have c29b1 : (t409 != 0) = false := bne_eq_false_iff_eq.mpr c29
                        clear c29
                        by_cases c30 : t411 = 0
                        · rw [if_pos c30] at H
                          have c30b0 : (t411 == 0) = true := beq_iff_eq.mpr c30
                          have c30b1 : (t411 != 0) = false := bne_eq_false_iff_eq.mpr c30
                          clear c30
                          by_cases c31 : t413 = 0
                          · rw [if_pos c31] at H
                            have c31b0 : (t413 == 0) = true := beq_iff_eq.mpr c31
                            have c31b1 : (t413 != 0) = false := bne_eq_false_iff_eq.mpr c31
                            clear c31
                            by_cases c32 : t418 = 0
                            · rw [if_pos c32] at H
                              have c32b0 : (t418 == 0) = true := beq_iff_eq.mpr c32
                              have c32b1 : (t418 != 0) = false := bne_eq_false_iff_eq.mpr c32
                              clear c32
                              obtain rfl := Option.some.inj H
                              go_wp2_with (first | (go_at_call 36; (with_reducible refine (bits_Field.calls a1 0 a2 t408 t409 _ A23.out).mono ?_); rintro e w' ⟨rfl, ⟨nd, rfl⟩⟩; (try first | exact ⟨rfl, _, World.drewN_drewN _ _ _⟩ | exact ⟨rfl, _, Eq.trans (World.drewN_drewN _ _ _) (congrArg (World.drewN _) (Nat.add_assoc _ _ _))⟩)) | (go_at_call 36; (with_reducible refine (bits_Field.calls a1 a2 a3 t410 t411 _ A24.out).mono ?_); rintro e w' ⟨rfl, ⟨nd, rfl⟩⟩; (try first | exact ⟨rfl, _, World.drewN_drewN _ _ _⟩ | exact ⟨rfl, _, Eq.trans (World.drewN_drewN _ _ _) (congrArg (World.drewN _) (Nat.add_assoc _ _ _))⟩)) | (go_at_call 36; (with_reducible refine (bits_Field.calls a1 (wrap64 (a2 + a3)) (wrap64 ((wrap64 (32 - a2)) - a3)) t412 t413 _ A25.out).mono ?_); rintro e w' ⟨rfl, ⟨nd, rfl⟩⟩; (try first | exact ⟨rfl, _, World.drewN_drewN _ _ _⟩ | exact ⟨rfl, _, Eq.trans (World.drewN_drewN _ _ _) (congrArg (World.drewN _) (Nat.add_assoc _ _ _))⟩)) | ((with_reducible refine gate_dst (N := 125) rfl ?_); refine Kd.R_lit k56 _ 56 ?hg (N := 125) ?hd (xs := ([(⟨0, a2, t408⟩ : S56), (⟨a2, a3, t410⟩ : S56), (⟨wrap64 (a2 + a3), wrap64 ((wrap64 (32 - a2)) - a3), t412⟩ : S56)] : List (S56))) (inner := [.int .i64 0, .int .i64 a2, .int .u32 t408, .int .i64 a2, .int .i64 a3, .int .u32 t410, .int .i64 (wrap64 (a2 + a3)), .int .i64 (wrap64 ((wrap64 (32 - a2)) - a3)), .int .u32 t412]) (ok := fun _ => True) (okp := fun _ => True) ?hr ?hp (fun _ hk => hk) trivial (Below.refl _ _) (Nat.le_refl _) (by simp) ?_; (case hd => rfl); (case hg => rfl); (case hr => first | (go_simp; done) | (go_simp; rfl)); (case hp => exact (Reps.c3 (show Kd.M k56 _ _ _ (⟨0, a2, t408⟩ : S56) [.int .i64 0, .int .i64 a2, .int .u32 t408] from (k56_mkM _ _ _ (⟨0, a2, t408⟩ : S56) )) (Reps.c3 (show Kd.M k56 _ _ _ (⟨a2, a3, t410⟩ : S56) [.int .i64 a2, .int .i64 a3, .int .u32 t410] from (k56_mkM _ _ _ (⟨a2, a3, t410⟩ : S56) )) (Reps.c3 (show Kd.M k56 _ _ _ (⟨wrap64 (a2 + a3), wrap64 ((wrap64 (32 - a2)) - a3), t412⟩ : S56) [.int .i64 (wrap64 (a2 + a3)), .int .i64 (wrap64 ((wrap64 (32 - a2)) - a3)), .int .u32 t412] from (k56_mkM _ _ _ (⟨wrap64 (a2 + a3), wrap64 ((wrap64 (32 - a2)) - a3), t412⟩ : S56) )) (Reps.none _ _))))); intro v415 w33 ho34 hb hg_ hnew_; clear hg_ hnew_; (first | rw [← Ny414.out] at ho34 | (simp only [Int.reduceToNat] at ho34; rw [← Ny414.out] at ho34)); have n0_ := Aside0.mk (Kd.R_lower ho34 (below_size (by repeat (first | (with_reducible first | exact HB.out | apply below_alloc | apply pw_below_drewN | apply below_drew1) | exact HB.out)))); have n1_ := Aside0.mk (below_step (by repeat (first | (with_reducible first | exact HB.out | apply below_alloc | apply pw_below_drewN | apply below_drew1) | exact HB.out)) hb); clear HB; have HO416 := n0_; have HB := n1_; clear n0_ n1_; clear hb ho34; obtain ⟨Ao35, co35, eo35⟩ := Kd.R_slice HO416.out; subst eo35) | (go_at_call 38; (with_reducible refine (bits_Word.calls kj15 _ _ y414 t417 t418 _ ?side1 ?side2 A26.out).mono ?_); (case side1 => repeat (first | exact (Kd.R_reads' HO416.out).2.2 | (with_reducible refine Kd.C_alloc ?_ _) | (with_reducible refine Kd.C_drewN ?_ _) | (with_reducible refine Kd.C_drew ?_))); (case side2 => exact (Kd.R_reads' HO416.out).2.1); rintro e w36 ⟨rfl, hb⟩; have n0_ := Aside0.mk (Kd.R_below (by (with_reducible repeat (first | apply Kd.R_alloc | apply Kd.R_drewN | apply Kd.R_drew)); exact HO416.out) hb); have n1_ := Aside0.mk (below_step (by repeat (first | (with_reducible first | exact HB.out | apply below_alloc | apply pw_below_drewN | apply below_drew1) | exact HB.out)) hb); clear HO416; clear HB; have HO416 := n0_; have HB := n1_; clear n0_ n1_; (try clear hb); (try clear hb2); (try clear hk); (try clear hi)) | (go_at_call 30; (with_reducible refine (cleatlaw01_told.calls kj15  true _ A27.out).mono ?_); rintro e w37 ⟨rfl, hb⟩; have n0_ := Aside0.mk (Kd.R_below (by (with_reducible repeat (first | apply Kd.R_alloc | apply Kd.R_drewN | apply Kd.R_drew)); exact HO416.out) hb); have n1_ := Aside0.mk (below_step (by repeat (first | (with_reducible first | exact HB.out | apply below_alloc | apply pw_below_drewN | apply below_drew1) | exact HB.out)) hb); clear HO416; clear HB; have HO416 := n0_; have HB := n1_; clear n0_ n1_; (try clear hb); (try clear hb2); (try clear hk); (try clear hi)))
                              repeat (go_quiet (first | (go_at_call 36; (with_reducible refine (bits_Field.calls a1 0 a2 t408 t409 _ A23.out).mono ?_); rintro e w' ⟨rfl, ⟨nd, rfl⟩⟩; (try first | exact ⟨rfl, _, World.drewN_drewN _ _ _⟩ | exact ⟨rfl, _, Eq.trans (World.drewN_drewN _ _ _) (congrArg (World.drewN _) (Nat.add_assoc _ _ _))⟩)) | (go_at_call 36; (with_reducible refine (bits_Field.calls a1 a2 a3 t410 t411 _ A24.out).mono ?_); rintro e w' ⟨rfl, ⟨nd, rfl⟩⟩; (try first | exact ⟨rfl, _, World.drewN_drewN _ _ _⟩ | exact ⟨rfl, _, Eq.trans (World.drewN_drewN _ _ _) (congrArg (World.drewN _) (Nat.add_assoc _ _ _))⟩)) | (go_at_call 36; (with_reducible refine (bits_Field.calls a1 (wrap64 (a2 + a3)) (wrap64 ((wrap64 (32 - a2)) - a3)) t412 t413 _ A25.out).mono ?_); rintro e w' ⟨rfl, ⟨nd, rfl⟩⟩; (try first | exact ⟨rfl, _, World.drewN_drewN _ _ _⟩ | exact ⟨rfl, _, Eq.trans (World.drewN_drewN _ _ _) (congrArg (World.drewN _) (Nat.add_assoc _ _ _))⟩)) | ((with_reducible refine gate_dst (N := 125) rfl ?_); refine Kd.R_lit k56 _ 56 ?hg (N := 125) ?hd (xs := ([(⟨0, a2, t408⟩ : S56), (⟨a2, a3, t410⟩ : S56), (⟨wrap64 (a2 + a3), wrap64 ((wrap64 (32 - a2)) - a3), t412⟩ : S56)] : List (S56))) (inner := [.int .i64 0, .int .i64 a2, .int .u32 t408, .int .i64 a2, .int .i64 a3, .int .u32 t410, .int .i64 (wrap64 (a2 + a3)), .int .i64 (wrap64 ((wrap64 (32 - a2)) - a3)), .int .u32 t412]) (ok := fun _ => True) (okp := fun _ => True) ?hr ?hp (fun _ hk => hk) trivial (Below.refl _ _) (Nat.le_refl _) (by simp) ?_; (case hd => rfl); (case hg => rfl); (case hr => first | (go_simp; done) | (go_simp; rfl)); (case hp => exact (Reps.c3 (show Kd.M k56 _ _ _ (⟨0, a2, t408⟩ : S56) [.int .i64 0, .int .i64 a2, .int .u32 t408] from (k56_mkM _ _ _ (⟨0, a2, t408⟩ : S56) )) (Reps.c3 (show Kd.M k56 _ _ _ (⟨a2, a3, t410⟩ : S56) [.int .i64 a2, .int .i64 a3, .int .u32 t410] from (k56_mkM _ _ _ (⟨a2, a3, t410⟩ : S56) )) (Reps.c3 (show Kd.M k56 _ _ _ (⟨wrap64 (a2 + a3), wrap64 ((wrap64 (32 - a2)) - a3), t412⟩ : S56) [.int .i64 (wrap64 (a2 + a3)), .int .i64 (wrap64 ((wrap64 (32 - a2)) - a3)), .int .u32 t412] from (k56_mkM _ _ _ (⟨wrap64 (a2 + a3), wrap64 ((wrap64 (32 - a2)) - a3), t412⟩ : S56) )) (Reps.none _ _))))); intro v415 w33 ho34 hb hg_ hnew_; clear hg_ hnew_; (first | rw [← Ny414.out] at ho34 | (simp only [Int.reduceToNat] at ho34; rw [← Ny414.out] at ho34)); have n0_ := Aside0.mk (Kd.R_lower ho34 (below_size (by repeat (first | (with_reducible first | exact HB.out | apply below_alloc | apply pw_below_drewN | apply below_drew1) | exact HB.out)))); have n1_ := Aside0.mk (below_step (by repeat (first | (with_reducible first | exact HB.out | apply below_alloc | apply pw_below_drewN | apply below_drew1) | exact HB.out)) hb); clear HB; have HO416 := n0_; have HB := n1_; clear n0_ n1_; clear hb ho34; obtain ⟨Ao35, co35, eo35⟩ := Kd.R_slice HO416.out; subst eo35) | (go_at_call 38; (with_reducible refine (bits_Word.calls kj15 _ _ y414 t417 t418 _ ?side1 ?side2 A26.out).mono ?_); (case side1 => repeat (first | exact (Kd.R_reads' HO416.out).2.2 | (with_reducible refine Kd.C_alloc ?_ _) | (with_reducible refine Kd.C_drewN ?_ _) | (with_reducible refine Kd.C_drew ?_))); (case side2 => exact (Kd.R_reads' HO416.out).2.1); rintro e w36 ⟨rfl, hb⟩; have n0_ := Aside0.mk (Kd.R_below (by (with_reducible repeat (first | apply Kd.R_alloc | apply Kd.R_drewN | apply Kd.R_drew)); exact HO416.out) hb); have n1_ := Aside0.mk (below_step (by repeat (first | (with_reducible first | exact HB.out | apply below_alloc | apply pw_below_drewN | apply below_drew1) | exact HB.out)) hb); clear HO416; clear HB; have HO416 := n0_; have HB := n1_; clear n0_ n1_; (try clear hb); (try clear hb2); (try clear hk); (try clear hi)) | (go_at_call 30; (with_reducible refine (cleatlaw01_told.calls kj15  true _ A27.out).mono ?_); rintro e w37 ⟨rfl, hb⟩; have n0_ := Aside0.mk (Kd.R_below (by (with_reducible repeat (first | apply Kd.R_alloc | apply Kd.R_drewN | apply Kd.R_drew)); exact HO416.out) hb); have n1_ := Aside0.mk (below_step (by repeat (first | (with_reducible first | exact HB.out | apply below_alloc | apply pw_below_drewN | apply below_drew1) | exact HB.out)) hb); clear HO416; clear HB; have HO416 := n0_; have HB := n1_; clear n0_ n1_; (try clear hb); (try clear hb2); (try clear hk); (try clear hi))); try go_wp2_with (first | (go_at_call 36; (with_reducible refine (bits_Field.calls a1 0 a2 t408 t409 _ A23.out).mono ?_); rintro e w' ⟨rfl, ⟨nd, rfl⟩⟩; (try first | exact ⟨rfl, _, World.drewN_drewN _ _ _⟩ | exact ⟨rfl, _, Eq.trans (World.drewN_drewN _ _ _) (congrArg (World.drewN _) (Nat.add_assoc _ _ _))⟩)) | (go_at_call 36; (with_reducible refine (bits_Field.calls a1 a2 a3 t410 t411 _ A24.out).mono ?_); rintro e w' ⟨rfl, ⟨nd, rfl⟩⟩; (try first | exact ⟨rfl, _, World.drewN_drewN _ _ _⟩ | exact ⟨rfl, _, Eq.trans (World.drewN_drewN _ _ _) (congrArg (World.drewN _) (Nat.add_assoc _ _ _))⟩)) | (go_at_call 36; (with_reducible refine (bits_Field.calls a1 (wrap64 (a2 + a3)) (wrap64 ((wrap64 (32 - a2)) - a3)) t412 t413 _ A25.out).mono ?_); rintro e w' ⟨rfl, ⟨nd, rfl⟩⟩; (try first | exact ⟨rfl, _, World.drewN_drewN _ _ _⟩ | exact ⟨rfl, _, Eq.trans (World.drewN_drewN _ _ _) (congrArg (World.drewN _) (Nat.add_assoc _ _ _))⟩)) | ((with_reducible refine gate_dst (N := 125) rfl ?_); refine Kd.R_lit k56 _ 56 ?hg (N := 125) ?hd (xs := ([(⟨0, a2, t408⟩ : S56), (⟨a2, a3, t410⟩ : S56), (⟨wrap64 (a2 + a3), wrap64 ((wrap64 (32 - a2)) - a3), t412⟩ : S56)] : List (S56))) (inner := [.int .i64 0, .int .i64 a2, .int .u32 t408, .int .i64 a2, .int .i64 a3, .int .u32 t410, .int .i64 (wrap64 (a2 + a3)), .int .i64 (wrap64 ((wrap64 (32 - a2)) - a3)), .int .u32 t412]) (ok := fun _ => True) (okp := fun _ => True) ?hr ?hp (fun _ hk => hk) trivial (Below.refl _ _) (Nat.le_refl _) (by simp) ?_; (case hd => rfl); (case hg => rfl); (case hr => first | (go_simp; done) | (go_simp; rfl)); (case hp => exact (Reps.c3 (show Kd.M k56 _ _ _ (⟨0, a2, t408⟩ : S56) [.int .i64 0, .int .i64 a2, .int .u32 t408] from (k56_mkM _ _ _ (⟨0, a2, t408⟩ : S56) )) (Reps.c3 (show Kd.M k56 _ _ _ (⟨a2, a3, t410⟩ : S56) [.int .i64 a2, .int .i64 a3, .int .u32 t410] from (k56_mkM _ _ _ (⟨a2, a3, t410⟩ : S56) )) (Reps.c3 (show Kd.M k56 _ _ _ (⟨wrap64 (a2 + a3), wrap64 ((wrap64 (32 - a2)) - a3), t412⟩ : S56) [.int .i64 (wrap64 (a2 + a3)), .int .i64 (wrap64 ((wrap64 (32 - a2)) - a3)), .int .u32 t412] from (k56_mkM _ _ _ (⟨wrap64 (a2 + a3), wrap64 ((wrap64 (32 - a2)) - a3), t412⟩ : S56) )) (Reps.none _ _))))); intro v415 w33 ho34 hb hg_ hnew_; clear hg_ hnew_; (first | rw [← Ny414.out] at ho34 | (simp only [Int.reduceToNat] at ho34; rw [← Ny414.out] at ho34)); have n0_ := Aside0.mk (Kd.R_lower ho34 (below_size (by repeat (first | (with_reducible first | exact HB.out | apply below_alloc | apply pw_below_drewN | apply below_drew1) | exact HB.out)))); have n1_ := Aside0.mk (below_step (by repeat (first | (with_reducible first | exact HB.out | apply below_alloc | apply pw_below_drewN | apply below_drew1) | exact HB.out)) hb); clear HB; have HO416 := n0_; have HB := n1_; clear n0_ n1_; clear hb ho34; obtain ⟨Ao35, co35, eo35⟩ := Kd.R_slice HO416.out; subst eo35) | (go_at_call 38; (with_reducible refine (bits_Word.calls kj15 _ _ y414 t417 t418 _ ?side1 ?side2 A26.out).mono ?_); (case side1 => repeat (first | exact (Kd.R_reads' HO416.out).2.2 | (with_reducible refine Kd.C_alloc ?_ _) | (with_reducible refine Kd.C_drewN ?_ _) | (with_reducible refine Kd.C_drew ?_))); (case side2 => exact (Kd.R_reads' HO416.out).2.1); rintro e w36 ⟨rfl, hb⟩; have n0_ := Aside0.mk (Kd.R_below (by (with_reducible repeat (first | apply Kd.R_alloc | apply Kd.R_drewN | apply Kd.R_drew)); exact HO416.out) hb); have n1_ := Aside0.mk (below_step (by repeat (first | (with_reducible first | exact HB.out | apply below_alloc | apply pw_below_drewN | apply below_drew1) | exact HB.out)) hb); clear HO416; clear HB; have HO416 := n0_; have HB := n1_; clear n0_ n1_; (try clear hb); (try clear hb2); (try clear hk); (try clear hi)) | (go_at_call 30; (with_reducible refine (cleatlaw01_told.calls kj15  true _ A27.out).mono ?_); rintro e w37 ⟨rfl, hb⟩; have n0_ := Aside0.mk (Kd.R_below (by (with_reducible repeat (first | apply Kd.R_alloc | apply Kd.R_drewN | apply Kd.R_drew)); exact HO416.out) hb); have n1_ := Aside0.mk (below_step (by repeat (first | (with_reducible first | exact HB.out | apply below_alloc | apply pw_below_drewN | apply below_drew1) | exact HB.out)) hb); clear HO416; clear HB; have HO416 := n0_; have HB := n1_; clear n0_ n1_; (try clear hb); (try clear hb2); (try clear hk); (try clear hi))))
                              go_ret
                              exact ⟨by first | rfl | (simp [errW_none, errW_some] <;> rfl) | (simp [*, errW_none, errW_some] <;> rfl), by repeat (first | (with_reducible first | exact HB.out | apply below_alloc | apply pw_below_drewN | apply below_drew1) | exact HB.out)⟩
                            · rw [if_neg c32] at H
                              exact absurd H (by simp)
                          · rw [if_neg c31] at H
                            exact absurd H (by simp)
                        · rw [if_neg c30] at H
                          exact absurd H (by simp)
                      · rw [if_neg c29] at H
                        exact absurd H (by simp)
                    · replace c28 := Bool.eq_false_iff.mpr c28
                      subst c28
                      have H1 : (none) = some r := by rw [if_neg (show ¬ (false = true) by decide)] at H; exact H
                      clear H
                      have H := H1
                      clear H1
                      exact absurd H (by simp)

end Go.Proofs.Ytclomjndhcpmfaa.P
