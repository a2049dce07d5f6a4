/- Written for this claim by a program of this session (drive.py, over the print of the kit): Lean functions with the answers of Go functions, and the proofs that the Go code comes to these answers, under no condition but the readings of the arguments that each theorem names. -/
import Derived.Test.YtbklmlbmbnnjkaaDoorRx0
import Derived.Test.YtbklmlbmbnnjkaaDoorRx2
import Derived.Test.YtbklmlbmbnnjkaaDoorRx5
import Derived.Test.YtbklmlbmbnnjkaaDoorRx14
import Derived.Test.YtbklmlbmbnnjkaaDoorRx19
namespace Go.Proofs.YtbklmlbmbnnjkaaDoor.R
open Go.RowKit Go.Proofs.YtbklmlbmbnnjkaaDoorW.PrintWords Go.Proofs.YtbklmlbmbnnjkaaDoorW.PrintLast Go.Proofs.YtbklmlbmbnnjkaaDoorW.PrintMore
attribute [local go_sem] max2_int min2_int max_two min_two max_three min_three max_four min_four   -- for this text's walks alone
set_option linter.unusedVariables false
set_option linter.unusedSimpArgs false

/-! ### cleatlaw04_InstBack: function 13 -/
mutual
def cleatlaw04_InstBack.l0 : Nat → Int → ByteArray → Bool → List Int → Int → Option (Bool)
 | 0, _, _, _, _, _ => none
 | k + 1, x0, x1, x7, x8, x9 => if x9 < (x8.length : Int) then (if x7 = true then (cleatlaw04_InstBack.l0 k x0 x1 true x8 (wrap64 (x9 + 1))) else (if 0 ≤ x9 then (cleatlaw04_InstBack.l0 k x0 x1 ((rd x8 x9) == x0) x8 (wrap64 (x9 + 1))) else (none))) else ((inst_Ops.f x1).bind fun t389 => (cleatlaw04_InstBack.l1 k x0 x1 x7 t389 0))
def cleatlaw04_InstBack.l1 : Nat → Int → ByteArray → Bool → List Int → Int → Option (Bool)
 | 0, _, _, _, _, _ => none
 | k + 1, x0, x1, x7, x10, x11 => if x11 < (x10.length : Int) then (if 0 ≤ x11 then ((inst_Name.f (rd x10 x11)).bind fun bt393 => (if bt393.2 = 0 then (if bt393.1.toList = x1.toList then (if x11 > 0 then (if 0 ≤ (wrap64 (x11 - 1)) then (if (wrap64 (x11 - 1)) < (x10.length : Int) then (cleatlaw04_InstBack.j2 k x0 x1 x7 x10 x11 (decide ((rd x10 (wrap64 (x11 - 1))) ≥ (rd x10 x11)))) else (none)) else (none)) else (cleatlaw04_InstBack.j2 k x0 x1 x7 x10 x11 false)) else (cleatlaw04_InstBack.j2 k x0 x1 x7 x10 x11 true)) else (cleatlaw04_InstBack.j2 k x0 x1 x7 x10 x11 true))) else (none)) else ((cleatlaw04_shaped.f k).bind fun t397 => (if t397 = true then (if x7 = true then ((inst_Shape.f x0).bind fun t398 => (if t398 ≥ 1 then ((inst_Shape.f x0).bind fun t399 => (some (decide (t399 ≤ 16)))) else (none))) else (none)) else (none)))
def cleatlaw04_InstBack.j2 : Nat → Int → ByteArray → Bool → List Int → Int → Bool → Option (Bool)
 | 0, _, _, _, _, _, _ => none
 | k + 1, x0, x1, x7, x10, x11, x94 => if x94 = true then (none) else (cleatlaw04_InstBack.l1 k x0 x1 x7 x10 (wrap64 (x11 + 1)))
end
def cleatlaw04_InstBack.f (k : Nat) (a0 : Int) (a1 : ByteArray) : Option (Bool) := (inst_Name.f a0).bind fun bt381 => (if bt381.2 = 0 then ((inst_Ops.f bt381.1).bind fun t385 => (cleatlaw04_InstBack.l0 k a0 a1 false t385 0)) else ((cleatlaw04_shaped.f k).bind fun t383 => (if t383 = true then (if bt381.1.toList = ([] : List UInt8) then ((inst_Shape.f a0).bind fun t384 => (if t384 = 0 then (if a0 < 1 then (some true) else (some (decide (a0 > 39)))) else (none))) else (none)) else (none))))
theorem cleatlaw04_InstBack.mono_l : ∀ k, (∀ y0 y1 y2 y3 y4, LeO (cleatlaw04_InstBack.l0 k y0 y1 y2 y3 y4) (cleatlaw04_InstBack.l0 (k + 1) y0 y1 y2 y3 y4)) ∧ (∀ y0 y1 y2 y3 y4, LeO (cleatlaw04_InstBack.l1 k y0 y1 y2 y3 y4) (cleatlaw04_InstBack.l1 (k + 1) y0 y1 y2 y3 y4)) ∧ (∀ y0 y1 y2 y3 y4 y5, LeO (cleatlaw04_InstBack.j2 k y0 y1 y2 y3 y4 y5) (cleatlaw04_InstBack.j2 (k + 1) y0 y1 y2 y3 y4 y5))
 | 0 => ⟨fun _ _ _ _ _ r h => by simp [cleatlaw04_InstBack.l0] at h, fun _ _ _ _ _ r h => by simp [cleatlaw04_InstBack.l1] at h, fun _ _ _ _ _ _ r h => by simp [cleatlaw04_InstBack.j2] at h⟩
 | k + 1 => by
  obtain ⟨ih0, ih1, ih2⟩ := cleatlaw04_InstBack.mono_l k
  refine ⟨?_, ?_, ?_⟩
  ·
   intro y0 y1 y2 y3 y4
   unfold cleatlaw04_InstBack.l0
   repeat' first
   | (with_reducible exact ih0 _ _ _ _ _)
   | (with_reducible exact ih1 _ _ _ _ _)
   | (with_reducible exact ih2 _ _ _ _ _ _)
   | (with_reducible exact cleatlaw04_shaped.mono _)
   | (with_reducible exact LeO.refl _)
   | (with_reducible exact LeO.none _)
   | (with_reducible refine LeO.ite ?_ ?_)
   | (with_reducible refine LeO.bind ?_ (fun _ => ?_))
   | exact ih0 _ _ _ _ _
   | exact ih1 _ _ _ _ _
   | exact ih2 _ _ _ _ _ _
   | exact cleatlaw04_shaped.mono _
   | exact LeO.none _
   | refine LeO.ite ?_ ?_
   | refine LeO.bind ?_ (fun _ => ?_)
  ·
   intro y0 y1 y2 y3 y4
   unfold cleatlaw04_InstBack.l1
   repeat' first
   | (with_reducible exact ih0 _ _ _ _ _)
   | (with_reducible exact ih1 _ _ _ _ _)
   | (with_reducible exact ih2 _ _ _ _ _ _)
   | (with_reducible exact cleatlaw04_shaped.mono _)
   | (with_reducible exact LeO.refl _)
   | (with_reducible exact LeO.none _)
   | (with_reducible refine LeO.ite ?_ ?_)
   | (with_reducible refine LeO.bind ?_ (fun _ => ?_))
   | exact ih0 _ _ _ _ _
   | exact ih1 _ _ _ _ _
   | exact ih2 _ _ _ _ _ _
   | exact cleatlaw04_shaped.mono _
   | exact LeO.none _
   | refine LeO.ite ?_ ?_
   | refine LeO.bind ?_ (fun _ => ?_)
  ·
   intro y0 y1 y2 y3 y4 y5
   unfold cleatlaw04_InstBack.j2
   repeat' first
   | (with_reducible exact ih0 _ _ _ _ _)
   | (with_reducible exact ih1 _ _ _ _ _)
   | (with_reducible exact ih2 _ _ _ _ _ _)
   | (with_reducible exact cleatlaw04_shaped.mono _)
   | (with_reducible exact LeO.refl _)
   | (with_reducible exact LeO.none _)
   | (with_reducible refine LeO.ite ?_ ?_)
   | (with_reducible refine LeO.bind ?_ (fun _ => ?_))
   | exact ih0 _ _ _ _ _
   | exact ih1 _ _ _ _ _
   | exact ih2 _ _ _ _ _ _
   | exact cleatlaw04_shaped.mono _
   | exact LeO.none _
   | refine LeO.ite ?_ ?_
   | refine LeO.bind ?_ (fun _ => ?_)
theorem cleatlaw04_InstBack.mono : ∀ a0 a1 k, LeO (cleatlaw04_InstBack.f k a0 a1) (cleatlaw04_InstBack.f (k + 1) a0 a1) := by
 intro a0 a1 k
 obtain ⟨ih0, ih1, ih2⟩ := cleatlaw04_InstBack.mono_l k
 unfold cleatlaw04_InstBack.f
 repeat' first
   | (with_reducible exact ih0 _ _ _ _ _)
   | (with_reducible exact ih1 _ _ _ _ _)
   | (with_reducible exact ih2 _ _ _ _ _ _)
   | (with_reducible exact cleatlaw04_shaped.mono _)
   | (with_reducible exact LeO.refl _)
   | (with_reducible exact LeO.none _)
   | (with_reducible refine LeO.ite ?_ ?_)
   | (with_reducible refine LeO.bind ?_ (fun _ => ?_))
   | exact ih0 _ _ _ _ _
   | exact ih1 _ _ _ _ _
   | exact ih2 _ _ _ _ _ _
   | exact cleatlaw04_shaped.mono _
   | exact LeO.none _
   | refine LeO.ite ?_ ?_
   | refine LeO.bind ?_ (fun _ => ?_)
set_option maxHeartbeats 8000000 in
set_option maxRecDepth 100000 in
theorem cleatlaw04_InstBack.calls (k : Nat) (a0 : Int) (a1 : ByteArray) (r : Bool) (w : World) (h : cleatlaw04_InstBack.f k a0 a1 = some r) (hTab : TabW w := by first | exact hTab | exact TabW.drew hTab | exact TabW.drewN hTab _ | exact TabW.below hTab (by repeat (first | (with_reducible first | exact HB.out | apply below_alloc | apply pw_below_drewN | apply below_drew1) | refine Below.setCell ?_ (Aside0.out (by assumption)) _ | exact HB.out | exact Below.refl _ _))) :
    Calls Tryd.prog 13 #[.int .i64 a0, .string a1] w fun e w' => e = .returned (.bool r) ∧ Below w.heap.size w w' := by
 have HB := Aside0.mk (Below.refl w.heap.size w)
 have H : ((inst_Name.f a0).bind fun bt381 => (if bt381.2 = 0 then ((inst_Ops.f bt381.1).bind fun t385 => (cleatlaw04_InstBack.l0 k a0 a1 false t385 0)) else ((cleatlaw04_shaped.f k).bind fun t383 => (if t383 = true then (if bt381.1.toList = ([] : List UInt8) then ((inst_Shape.f a0).bind fun t384 => (if t384 = 0 then (if a0 < 1 then (some true) else (some (decide (a0 > 39)))) else (none))) else (none)) else (none))))) = some r := h
 clear h
 replace H := Option.bind_eq_some_iff.mp H
 obtain ⟨⟨t381, t382⟩, A30, H⟩ := H
 replace H : (if t382 = 0 then ((inst_Ops.f t381).bind fun t385 => (cleatlaw04_InstBack.l0 k a0 a1 false t385 0)) else ((cleatlaw04_shaped.f k).bind fun t383 => (if t383 = true then (if t381.toList = ([] : List UInt8) then ((inst_Shape.f a0).bind fun t384 => (if t384 = 0 then (if a0 < 1 then (some true) else (some (decide (a0 > 39)))) else (none))) else (none)) else (none)))) = some r := H
 have A3 := Aside0.mk A30
 clear A30
 by_cases c4 : t382 = 0
 ·
  rw [if_pos c4] at H
  have c4b0 : (t382 == 0) = true := beq_iff_eq.mpr c4
  have c4b1 : (t382 != 0) = false := bne_eq_false_iff_eq.mpr c4
  clear c4
  replace H := Option.bind_eq_some_iff.mp H
  obtain ⟨t385, A50, H⟩ := H
  replace H : (cleatlaw04_InstBack.l0 k a0 a1 false t385 0) = some r := H
  have A5 := Aside0.mk A50
  clear A50
  have H' := Aside0.mk H
  clear H
  go_enter Tryd.func13, Tryd.ntmps13
  go_wp2_with (first | (go_at_call 38; (with_reducible refine (inst_Name.calls a0 t381 t382 _ A3.out).mono ?_); rintro e w6 ⟨rfl, hb⟩; have n0_ := Aside0.mk (below_step (by repeat (first | (with_reducible first | exact HB.out | apply below_alloc | apply pw_below_drewN | apply below_drew1) | exact HB.out)) hb); clear HB; have HB := n0_; clear n0_; (try clear hb); (try clear hb2); (try clear hk); (try clear hi)) | (go_at_call 41; (with_reducible refine (inst_Ops.calls t381 t385 _ A5.out).mono ?_); rintro e w7 ⟨v386, rfl, ho0, hb⟩; have n0_ := Aside0.mk (Kd.R_lower ho0 (below_size (by repeat (first | (with_reducible first | exact HB.out | apply below_alloc | apply pw_below_drewN | apply below_drew1) | exact HB.out)))); have n1_ := Aside0.mk (below_step (by repeat (first | (with_reducible first | exact HB.out | apply below_alloc | apply pw_below_drewN | apply below_drew1) | exact HB.out)) hb); clear HB; have HO387 := n0_; have HB := n1_; clear n0_ n1_; (try clear hb); (try clear hb2); (try clear hk); (try clear hi); (try clear ho0)))
  repeat (go_quiet (first | (go_at_call 38; (with_reducible refine (inst_Name.calls a0 t381 t382 _ A3.out).mono ?_); rintro e w6 ⟨rfl, hb⟩; have n0_ := Aside0.mk (below_step (by repeat (first | (with_reducible first | exact HB.out | apply below_alloc | apply pw_below_drewN | apply below_drew1) | exact HB.out)) hb); clear HB; have HB := n0_; clear n0_; (try clear hb); (try clear hb2); (try clear hk); (try clear hi)) | (go_at_call 41; (with_reducible refine (inst_Ops.calls t381 t385 _ A5.out).mono ?_); rintro e w7 ⟨v386, rfl, ho0, hb⟩; have n0_ := Aside0.mk (Kd.R_lower ho0 (below_size (by repeat (first | (with_reducible first | exact HB.out | apply below_alloc | apply pw_below_drewN | apply below_drew1) | exact HB.out)))); have n1_ := Aside0.mk (below_step (by repeat (first | (with_reducible first | exact HB.out | apply below_alloc | apply pw_below_drewN | apply below_drew1) | exact HB.out)) hb); clear HB; have HO387 := n0_; have HB := n1_; clear n0_ n1_; (try clear hb); (try clear hb2); (try clear hk); (try clear hi); (try clear ho0))); try go_wp2_with (first | (go_at_call 38; (with_reducible refine (inst_Name.calls a0 t381 t382 _ A3.out).mono ?_); rintro e w6 ⟨rfl, hb⟩; have n0_ := Aside0.mk (below_step (by repeat (first | (with_reducible first | exact HB.out | apply below_alloc | apply pw_below_drewN | apply below_drew1) | exact HB.out)) hb); clear HB; have HB := n0_; clear n0_; (try clear hb); (try clear hb2); (try clear hk); (try clear hi)) | (go_at_call 41; (with_reducible refine (inst_Ops.calls t381 t385 _ A5.out).mono ?_); rintro e w7 ⟨v386, rfl, ho0, hb⟩; have n0_ := Aside0.mk (Kd.R_lower ho0 (below_size (by repeat (first | (with_reducible first | exact HB.out | apply below_alloc | apply pw_below_drewN | apply below_drew1) | exact HB.out)))); have n1_ := Aside0.mk (below_step (by repeat (first | (with_reducible first | exact HB.out | apply below_alloc | apply pw_below_drewN | apply below_drew1) | exact HB.out)) hb); clear HB; have HO387 := n0_; have HB := n1_; clear n0_ n1_; (try clear hb); (try clear hb2); (try clear hk); (try clear hi); (try clear ho0))))
  go_loopg [7, 9] k (fun kq v7 v9 w' => ∃ (x7_1 : Bool) (x9_1 : Int), v7 = .bool x7_1 ∧ v9 = .int .i64 x9_1 ∧ Aside0 (cleatlaw04_InstBack.l0 kq a0 a1 x7_1 t385 x9_1 = some r) ∧ Aside0 (kq ≤ k) ∧ Aside0 (Kd.R (Kd.int .i64) 3 w' w.heap.size (fun _ => True) v386 t385) ∧ Aside0 (Below w.heap.size w w'))
  case atStart => exact ⟨(false), (0), (by first | rfl | (simp; done) | (simp [*]; done)), (by first | rfl | (simp; done) | (simp [*]; done)), H', ⟨Nat.le_refl _⟩, ⟨by (with_reducible repeat (first | apply Kd.R_alloc | apply Kd.R_drewN | apply Kd.R_drew)); exact HO387.out⟩, ⟨by repeat (first | (with_reducible first | exact HB.out | apply below_alloc | apply pw_below_drewN | apply below_drew1) | exact HB.out)⟩⟩
  case round =>
   clear H'
   try clear c1
   try clear p2
   try clear c4
   try clear c4b0
   try clear c4b1
   obtain ⟨x7_1, x9_1, rfl, rfl, HA, HK1, HO_8, HB⟩ := hrel
   cases gk with
   | zero => exact absurd HA.out (by simp [cleatlaw04_InstBack.l0])
   | succ k1 =>
    have H := HA.out
    clear HA
    simp only [cleatlaw04_InstBack.l0] at H
    by_cases c8 : x9_1 < (t385.length : Int)
    ·
     rw [if_pos c8] at H
     have c8b0 : decide (x9_1 < (t385.length : Int)) = true := decide_eq_true c8
     clear c8
     by_cases c9 : x7_1 = true
     ·
      subst c9
      have H1 : (cleatlaw04_InstBack.l0 k1 a0 a1 true t385 (wrap64 (x9_1 + 1))) = some r := by rw [if_pos rfl] at H; exact H
      clear H
      have H := H1
      clear H1
      have H' := Aside0.mk H
      clear H
      obtain ⟨Ao10, co10, eo10⟩ := Kd.R_slice HO_8.out
      subst eo10
      go_wp2
      repeat (go_quiet (fail); try go_wp2)
      go_roundg k1
      case measure => have := HK1.out; omega
      case rel => exact ⟨(true), (wrap64 (x9_1 + 1)), (by first | rfl | (simp; done) | (simp [*]; done)), (by first | rfl | (simp; done) | (simp [*]; done)), H', ⟨by have := HK1.out; omega⟩, ⟨by (with_reducible repeat (first | apply Kd.R_alloc | apply Kd.R_drewN | apply Kd.R_drew)); exact HO_8.out⟩, ⟨by repeat (first | (with_reducible first | exact HB.out | apply below_alloc | apply pw_below_drewN | apply below_drew1) | exact HB.out)⟩⟩
     ·
      replace c9 := Bool.eq_false_iff.mpr c9
      subst c9
      have H1 : (if 0 ≤ x9_1 then (cleatlaw04_InstBack.l0 k1 a0 a1 ((rd t385 x9_1) == a0) t385 (wrap64 (x9_1 + 1))) else (none)) = some r := by rw [if_neg (show ¬ (false = true) by decide)] at H; exact H
      clear H
      have H := H1
      clear H1
      by_cases c11 : 0 ≤ x9_1
      ·
       rw [if_pos c11] at H
       have c11b0 : decide (0 ≤ x9_1) = true := decide_eq_true c11
       clear c11
       have H' := Aside0.mk H
       clear H
       obtain ⟨Ao12, co12, eo12⟩ := Kd.R_slice HO_8.out
       subst eo12
       have p388 : 0 ≤ (x9_1 : Int) := of_decide_eq_true (by first | (with_reducible assumption) | assumption)
       have q388 : x9_1 < (t385.length : Int) := of_decide_eq_true (by first | (with_reducible assumption) | assumption)
       obtain ⟨ad388, e388, hx388_0⟩ := Kd.at_int (Kd.R_reads' HO_8.out).2.2 x9_1 p388 q388
       cases e388
       replace p388 := eq_true p388
       replace q388 := eq_true q388
       go_wp2
       repeat (go_quiet (fail); try go_wp2)
       go_roundg k1
       case measure => have := HK1.out; omega
       case rel => exact ⟨(((rd t385 x9_1) == a0)), (wrap64 (x9_1 + 1)), (by first | rfl | (simp; done) | (simp [*]; done)), (by first | rfl | (simp; done) | (simp [*]; done)), H', ⟨by have := HK1.out; omega⟩, ⟨by (with_reducible repeat (first | apply Kd.R_alloc | apply Kd.R_drewN | apply Kd.R_drew)); exact HO_8.out⟩, ⟨by repeat (first | (with_reducible first | exact HB.out | apply below_alloc | apply pw_below_drewN | apply below_drew1) | exact HB.out)⟩⟩
      ·
       rw [if_neg c11] at H
       exact absurd H (by simp)
    ·
     rw [if_neg c8] at H
     have c8b0 : decide (x9_1 < (t385.length : Int)) = false := decide_eq_false c8
     clear c8
     replace H := Option.bind_eq_some_iff.mp H
     obtain ⟨t389, A130, H⟩ := H
     replace H : (cleatlaw04_InstBack.l1 k1 a0 a1 x7_1 t389 0) = some r := H
     have A13 := Aside0.mk A130
     clear A130
     have H' := Aside0.mk H
     clear H
     obtain ⟨Ao14, co14, eo14⟩ := Kd.R_slice HO_8.out
     subst eo14
     go_wp2_with (first | (go_at_call 41; (with_reducible refine (inst_Ops.calls a1 t389 _ A13.out).mono ?_); rintro e w15 ⟨v390, rfl, ho0, hb⟩; have n0_ := Aside0.mk (Kd.R_elder' (by (with_reducible repeat (first | apply Kd.R_alloc | apply Kd.R_drewN | apply Kd.R_drew)); exact HO_8.out) (Kd.R_base ho0) hb); have n1_ := Aside0.mk (Kd.R_lower (Kd.R_new' ho0 (Kd.R_lt (by (with_reducible repeat (first | apply Kd.R_alloc | apply Kd.R_drewN | apply Kd.R_drew)); exact HO_8.out))) (below_size (by repeat (first | (with_reducible first | exact HB.out | apply below_alloc | apply pw_below_drewN | apply below_drew1) | exact HB.out)))); have n2_ := Aside0.mk (below_step (by repeat (first | (with_reducible first | exact HB.out | apply below_alloc | apply pw_below_drewN | apply below_drew1) | exact HB.out)) hb); clear HO_8; clear HB; have HO_8 := n0_; have HO391 := n1_; have HB := n2_; clear n0_ n1_ n2_; (try clear hb); (try clear hb2); (try clear hk); (try clear hi); (try clear ho0)))
     repeat (go_quiet (first | (go_at_call 41; (with_reducible refine (inst_Ops.calls a1 t389 _ A13.out).mono ?_); rintro e w15 ⟨v390, rfl, ho0, hb⟩; have n0_ := Aside0.mk (Kd.R_elder' (by (with_reducible repeat (first | apply Kd.R_alloc | apply Kd.R_drewN | apply Kd.R_drew)); exact HO_8.out) (Kd.R_base ho0) hb); have n1_ := Aside0.mk (Kd.R_lower (Kd.R_new' ho0 (Kd.R_lt (by (with_reducible repeat (first | apply Kd.R_alloc | apply Kd.R_drewN | apply Kd.R_drew)); exact HO_8.out))) (below_size (by repeat (first | (with_reducible first | exact HB.out | apply below_alloc | apply pw_below_drewN | apply below_drew1) | exact HB.out)))); have n2_ := Aside0.mk (below_step (by repeat (first | (with_reducible first | exact HB.out | apply below_alloc | apply pw_below_drewN | apply below_drew1) | exact HB.out)) hb); clear HO_8; clear HB; have HO_8 := n0_; have HO391 := n1_; have HB := n2_; clear n0_ n1_ n2_; (try clear hb); (try clear hb2); (try clear hk); (try clear hi); (try clear ho0))); try go_wp2_with (first | (go_at_call 41; (with_reducible refine (inst_Ops.calls a1 t389 _ A13.out).mono ?_); rintro e w15 ⟨v390, rfl, ho0, hb⟩; have n0_ := Aside0.mk (Kd.R_elder' (by (with_reducible repeat (first | apply Kd.R_alloc | apply Kd.R_drewN | apply Kd.R_drew)); exact HO_8.out) (Kd.R_base ho0) hb); have n1_ := Aside0.mk (Kd.R_lower (Kd.R_new' ho0 (Kd.R_lt (by (with_reducible repeat (first | apply Kd.R_alloc | apply Kd.R_drewN | apply Kd.R_drew)); exact HO_8.out))) (below_size (by repeat (first | (with_reducible first | exact HB.out | apply below_alloc | apply pw_below_drewN | apply below_drew1) | exact HB.out)))); have n2_ := Aside0.mk (below_step (by repeat (first | (with_reducible first | exact HB.out | apply below_alloc | apply pw_below_drewN | apply below_drew1) | exact HB.out)) hb); clear HO_8; clear HB; have HO_8 := n0_; have HO391 := n1_; have HB := n2_; clear n0_ n1_ n2_; (try clear hb); (try clear hb2); (try clear hk); (try clear hi); (try clear ho0))))
     go_loopg [11] k1 (fun kq v11 w' => ∃ (x11_2 : Int), v11 = .int .i64 x11_2 ∧ Aside0 (cleatlaw04_InstBack.l1 kq a0 a1 x7_1 t389 x11_2 = some r) ∧ Aside0 (kq ≤ k1) ∧ Aside0 (Kd.R (Kd.int .i64) 3 w' w.heap.size (fun _ => True) v390 t389) ∧ Aside0 (Below w.heap.size w w'))
     case atStart => exact ⟨(0), (by first | rfl | (simp; done) | (simp [*]; done)), H', ⟨Nat.le_refl _⟩, ⟨by (with_reducible repeat (first | apply Kd.R_alloc | apply Kd.R_drewN | apply Kd.R_drew)); exact Kd.R_mono HO391.out (fun _ hk => trivial)⟩, ⟨by repeat (first | (with_reducible first | exact HB.out | apply below_alloc | apply pw_below_drewN | apply below_drew1) | exact HB.out)⟩⟩
     case round =>
      clear H'
      try clear c1
      try clear p2
      try clear p3
      try clear q3
      try clear hx3
      try clear c4
      try clear c4b0
      try clear c4b1
      try clear p6
      try clear c8
      try clear c8b0
      try clear c9
      try clear c11
      try clear c11b0
      try clear c13
      try clear hx388_0
      try clear p2
      try clear p388
      try clear q388
      obtain ⟨x11_2, rfl, HA, HK2, HO_10, HB⟩ := hrel
      cases gk with
      | zero => exact absurd HA.out (by simp [cleatlaw04_InstBack.l1])
      | succ k2 =>
       have H := HA.out
       clear HA
       simp only [cleatlaw04_InstBack.l1] at H
       by_cases c16 : x11_2 < (t389.length : Int)
       ·
        rw [if_pos c16] at H
        have c16b0 : decide (x11_2 < (t389.length : Int)) = true := decide_eq_true c16
        clear c16
        by_cases c17 : 0 ≤ x11_2
        ·
         rw [if_pos c17] at H
         have c17b0 : decide (0 ≤ x11_2) = true := decide_eq_true c17
         clear c17
         replace H := Option.bind_eq_some_iff.mp H
         obtain ⟨⟨t393, t394⟩, A180, H⟩ := H
         replace H : (if t394 = 0 then (if t393.toList = a1.toList then (if x11_2 > 0 then (if 0 ≤ (wrap64 (x11_2 - 1)) then (if (wrap64 (x11_2 - 1)) < (t389.length : Int) then (cleatlaw04_InstBack.j2 k2 a0 a1 x7_1 t389 x11_2 (decide ((rd t389 (wrap64 (x11_2 - 1))) ≥ (rd t389 x11_2)))) else (none)) else (none)) else (cleatlaw04_InstBack.j2 k2 a0 a1 x7_1 t389 x11_2 false)) else (cleatlaw04_InstBack.j2 k2 a0 a1 x7_1 t389 x11_2 true)) else (cleatlaw04_InstBack.j2 k2 a0 a1 x7_1 t389 x11_2 true)) = some r := H
         have A18 := Aside0.mk A180
         clear A180
         have HC19 := Aside0.mk H
         clear H
         obtain ⟨Ao20, co20, eo20⟩ := Kd.R_slice HO_10.out
         subst eo20
         have p392 : 0 ≤ (x11_2 : Int) := of_decide_eq_true (by first | (with_reducible assumption) | assumption)
         have q392 : x11_2 < (t389.length : Int) := of_decide_eq_true (by first | (with_reducible assumption) | assumption)
         obtain ⟨ad392, e392, hx392_0⟩ := Kd.at_int (Kd.R_reads' HO_10.out).2.2 x11_2 p392 q392
         cases e392
         replace p392 := eq_true p392
         replace q392 := eq_true q392
         go_upto_region 15 with (first | (go_at_call 38; (with_reducible refine (inst_Name.calls (rd t389 x11_2) t393 t394 _ A18.out).mono ?_); rintro e w21 ⟨rfl, hb⟩; have n0_ := Aside0.mk (Kd.R_below (by (with_reducible repeat (first | apply Kd.R_alloc | apply Kd.R_drewN | apply Kd.R_drew)); exact HO_10.out) hb); have n1_ := Aside0.mk (below_step (by repeat (first | (with_reducible first | exact HB.out | apply below_alloc | apply pw_below_drewN | apply below_drew1) | exact HB.out)) hb); clear HO_10; clear HB; have HO_10 := n0_; have HB := n1_; clear n0_ n1_; (try clear hb); (try clear hb2); (try clear hk); (try clear hi)))
         repeat (go_quiet (first | (go_at_call 38; (with_reducible refine (inst_Name.calls (rd t389 x11_2) t393 t394 _ A18.out).mono ?_); rintro e w21 ⟨rfl, hb⟩; have n0_ := Aside0.mk (Kd.R_below (by (with_reducible repeat (first | apply Kd.R_alloc | apply Kd.R_drewN | apply Kd.R_drew)); exact HO_10.out) hb); have n1_ := Aside0.mk (below_step (by repeat (first | (with_reducible first | exact HB.out | apply below_alloc | apply pw_below_drewN | apply below_drew1) | exact HB.out)) hb); clear HO_10; clear HB; have HO_10 := n0_; have HB := n1_; clear n0_ n1_; (try clear hb); (try clear hb2); (try clear hk); (try clear hi))); go_upto_region 15 with (first | (go_at_call 38; (with_reducible refine (inst_Name.calls (rd t389 x11_2) t393 t394 _ A18.out).mono ?_); rintro e w21 ⟨rfl, hb⟩; have n0_ := Aside0.mk (Kd.R_below (by (with_reducible repeat (first | apply Kd.R_alloc | apply Kd.R_drewN | apply Kd.R_drew)); exact HO_10.out) hb); have n1_ := Aside0.mk (below_step (by repeat (first | (with_reducible first | exact HB.out | apply below_alloc | apply pw_below_drewN | apply below_drew1) | exact HB.out)) hb); clear HO_10; clear HB; have HO_10 := n0_; have HB := n1_; clear n0_ n1_; (try clear hb); (try clear hb2); (try clear hk); (try clear hi))))
         (try simp only [Act.put, List.setIfInBounds_toArray, List.set_cons_zero, List.set_cons_succ])
         go_cut [94] (fun v94 wc => ∃ (kq : Nat) (x94_18 : Bool), v94 = .bool x94_18 ∧ Aside0 (cleatlaw04_InstBack.j2 kq a0 a1 x7_1 t389 x11_2 x94_18 = some r) ∧ Aside0 (kq ≤ k2) ∧ Aside0 (Kd.R (Kd.int .i64) 3 wc w.heap.size (fun _ => True) (.slice (some ad392) t389.length co20) t389) ∧ Aside0 (Below w.heap.size w wc))
         case first =>
          have H := HC19.out
          clear HC19
          (try (rw [drewN_self wc]; have n0_ := fun n_ => pw_below_drewN HB.out n_; clear HB; generalize hq_ : World.drewN wc _ = wc; have HB := Aside0.mk (hq_ ▸ n0_ _); clear hq_ n0_))
          by_cases c22 : t394 = 0
          ·
           rw [if_pos c22] at H
           have c22b0 : (t394 == 0) = true := beq_iff_eq.mpr c22
           have c22b1 : (t394 != 0) = false := bne_eq_false_iff_eq.mpr c22
           clear c22
           (first | rw [c22b0] | (simp only [i64_w, i32_w]; rw [c22b0]) | skip)
           by_cases c23 : t393.toList = a1.toList
           ·
            rw [if_pos c23] at H
            have c23b0 : (t393.toList == a1.toList) = true := beq_iff_eq.mpr c23
            have c23b1 : (t393.toList != a1.toList) = false := bne_eq_false_iff_eq.mpr c23
            clear c23
            by_cases c24 : x11_2 > 0
            ·
             rw [if_pos c24] at H
             have c24b0 : decide (0 < x11_2) = true := decide_eq_true c24
             clear c24
             obtain ⟨ji25, hji25⟩ : ∃ j_ : Int, (wrap64 (x11_2 - 1)) = j_ := ⟨_, rfl⟩
             replace H : (if 0 ≤ (ji25) then (if (ji25) < (t389.length : Int) then (cleatlaw04_InstBack.j2 k2 a0 a1 x7_1 t389 x11_2 (decide ((rd t389 (ji25)) ≥ (rd t389 x11_2)))) else (none)) else (none)) = some r := by first | (rw [hji25] at H; exact H) | (simp only [hji25] at H ⊢; exact H)
             have hji25w : (IntKind.i64.wrap (x11_2 - 1)) = ji25 := (i64_w _).trans hji25
             by_cases c26 : 0 ≤ (ji25)
             ·
              rw [if_pos c26] at H
              have c26b0 : decide (0 ≤ (ji25)) = true := decide_eq_true c26
              clear c26
              by_cases c27 : (ji25) < (t389.length : Int)
              ·
               rw [if_pos c27] at H
               have c27b0 : decide ((ji25) < (t389.length : Int)) = true := decide_eq_true c27
               clear c27
               have H' := Aside0.mk H
               clear H
               have p395 : 0 ≤ ((ji25) : Int) := of_decide_eq_true (by first | (with_reducible assumption) | assumption)
               have q395 : (ji25) < (t389.length : Int) := of_decide_eq_true (by first | (with_reducible assumption) | assumption)
               obtain ⟨ad395, e395, hx395_0⟩ := Kd.at_int (Kd.R_reads' HO_10.out).2.2 (ji25) p395 q395
               obtain rfl : ad392 = ad395 := (by injection e395)
               replace p395 := eq_true p395
               replace q395 := eq_true q395
               have p396 : 0 ≤ (x11_2 : Int) := of_decide_eq_true (by first | (with_reducible assumption) | assumption)
               have q396 : x11_2 < (t389.length : Int) := of_decide_eq_true (by first | (with_reducible assumption) | assumption)
               obtain ⟨ad396, e396, hx396_0⟩ := Kd.at_int (Kd.R_reads' HO_10.out).2.2 x11_2 p396 q396
               obtain rfl : ad392 = ad396 := (by injection e396)
               replace p396 := eq_true p396
               replace q396 := eq_true q396
               go_wp2
               repeat (go_quiet (fail); try go_wp2)
               go_meet
               case rel => exact ⟨_, (decide ((rd t389 (ji25)) ≥ (rd t389 x11_2))), (by first | rfl | (simp; done) | (simp only [← hji25] <;> (first | rfl | simp)) | (simp [*]; done)), H', ⟨by have := HK1.out; have := HK2.out; first | omega | exact Nat.le_refl _⟩, ⟨by (with_reducible repeat (first | apply Kd.R_alloc | apply Kd.R_drewN | apply Kd.R_drew)); exact HO_10.out⟩, ⟨by repeat (first | (with_reducible first | exact HB.out | apply below_alloc | apply pw_below_drewN | apply below_drew1) | exact HB.out)⟩⟩
              ·
               rw [if_neg c27] at H
               exact absurd H (by simp)
             ·
              rw [if_neg c26] at H
              exact absurd H (by simp)
            ·
             rw [if_neg c24] at H
             have c24b0 : decide (0 < x11_2) = false := decide_eq_false c24
             clear c24
             have H' := Aside0.mk H
             clear H
             go_wp2
             repeat (go_quiet (fail); try go_wp2)
             go_meet
             case rel => exact ⟨_, (false), (by first | rfl | (simp; done) | (simp [*]; done)), H', ⟨by have := HK1.out; have := HK2.out; first | omega | exact Nat.le_refl _⟩, ⟨by (with_reducible repeat (first | apply Kd.R_alloc | apply Kd.R_drewN | apply Kd.R_drew)); exact HO_10.out⟩, ⟨by repeat (first | (with_reducible first | exact HB.out | apply below_alloc | apply pw_below_drewN | apply below_drew1) | exact HB.out)⟩⟩
           ·
            rw [if_neg c23] at H
            have c23b0 : (t393.toList == a1.toList) = false := beq_eq_false_iff_ne.mpr c23
            have c23b1 : (t393.toList != a1.toList) = true := bne_iff_ne.mpr c23
            have H' := Aside0.mk H
            clear H
            go_wp2
            repeat (go_quiet (fail); try go_wp2)
            go_meet
            case rel => exact ⟨_, (true), (by first | rfl | (simp; done) | (simp [*]; done)), H', ⟨by have := HK1.out; have := HK2.out; first | omega | exact Nat.le_refl _⟩, ⟨by (with_reducible repeat (first | apply Kd.R_alloc | apply Kd.R_drewN | apply Kd.R_drew)); exact HO_10.out⟩, ⟨by repeat (first | (with_reducible first | exact HB.out | apply below_alloc | apply pw_below_drewN | apply below_drew1) | exact HB.out)⟩⟩
          ·
           rw [if_neg c22] at H
           have c22b0 : (t394 == 0) = false := beq_eq_false_iff_ne.mpr c22
           have c22b1 : (t394 != 0) = true := bne_iff_ne.mpr c22
           (first | rw [c22b0] | (simp only [i64_w, i32_w]; rw [c22b0]) | skip)
           have H' := Aside0.mk H
           clear H
           go_wp2
           repeat (go_quiet (fail); try go_wp2)
           go_meet
           case rel => exact ⟨_, (true), (by first | rfl | (simp; done) | (simp [*]; done)), H', ⟨by have := HK1.out; have := HK2.out; first | omega | exact Nat.le_refl _⟩, ⟨by (with_reducible repeat (first | apply Kd.R_alloc | apply Kd.R_drewN | apply Kd.R_drew)); exact HO_10.out⟩, ⟨by repeat (first | (with_reducible first | exact HB.out | apply below_alloc | apply pw_below_drewN | apply below_drew1) | exact HB.out)⟩⟩
         case rest =>
          clear HC19
          try clear c1
          try clear c2
          try clear p2
          try clear p3
          try clear q3
          try clear hx3
          try clear c4
          try clear c4b0
          try clear c4b1
          try clear p6
          try clear c8
          try clear c8b0
          try clear c9
          try clear c11
          try clear c11b0
          try clear c13
          try clear c16
          try clear c16b0
          try clear c17
          try clear c17b0
          try clear c22
          try clear c22b0
          try clear c22b1
          try clear c23
          try clear c23b0
          try clear c23b1
          try clear c24
          try clear c24b0
          try clear c26
          try clear c26b0
          try clear c27
          try clear c27b0
          try clear hx388_0
          try clear hx392_0
          try clear hx395_0
          try clear hx396_0
          try clear p2
          try clear p3
          try clear p388
          try clear p392
          try clear p395
          try clear p396
          try clear p6
          try clear q3
          try clear q388
          try clear q392
          try clear q395
          try clear q396
          obtain ⟨kq, x94_18, rfl, HA, HJ18, HO_10, HB⟩ := hcut
          cases kq with
          | zero => exact absurd HA.out (by simp [cleatlaw04_InstBack.j2])
          | succ kj18 =>
           have H := HA.out
           clear HA
           simp only [cleatlaw04_InstBack.j2] at H
           by_cases c28 : x94_18 = true
           ·
            subst c28
            have H1 : (none) = some r := by rw [if_pos rfl] at H; exact H
            clear H
            have H := H1
            clear H1
            exact absurd H (by simp)
           ·
            replace c28 := Bool.eq_false_iff.mpr c28
            subst c28
            have H1 : (cleatlaw04_InstBack.l1 kj18 a0 a1 x7_1 t389 (wrap64 (x11_2 + 1))) = some r := by rw [if_neg (show ¬ (false = true) by decide)] at H; exact H
            clear H
            have H := H1
            clear H1
            have H' := Aside0.mk H
            clear H
            go_wp2
            repeat (go_quiet (fail); try go_wp2)
            go_roundg kj18
            case measure => have := HK1.out; have := HK2.out; have := HJ18.out; omega
            case rel => exact ⟨(wrap64 (x11_2 + 1)), (by first | rfl | (simp; done) | (simp [*]; done)), H', ⟨by have := HK1.out; have := HK2.out; have := HJ18.out; omega⟩, ⟨by (with_reducible repeat (first | apply Kd.R_alloc | apply Kd.R_drewN | apply Kd.R_drew)); exact HO_10.out⟩, ⟨by repeat (first | (with_reducible first | exact HB.out | apply below_alloc | apply pw_below_drewN | apply below_drew1) | exact HB.out)⟩⟩
        ·
         rw [if_neg c17] at H
         exact absurd H (by simp)
       ·
        rw [if_neg c16] at H
        have c16b0 : decide (x11_2 < (t389.length : Int)) = false := decide_eq_false c16
        clear c16
        replace H := Option.bind_eq_some_iff.mp H
        obtain ⟨t397, A290, H⟩ := H
        replace H : (if t397 = true then (if x7_1 = true then ((inst_Shape.f a0).bind fun t398 => (if t398 ≥ 1 then ((inst_Shape.f a0).bind fun t399 => (some (decide (t399 ≤ 16)))) else (none))) else (none)) else (none)) = some r := H
        have A29 := Aside0.mk A290
        clear A290
        by_cases c30 : t397 = true
        ·
         subst c30
         have H1 : (if x7_1 = true then ((inst_Shape.f a0).bind fun t398 => (if t398 ≥ 1 then ((inst_Shape.f a0).bind fun t399 => (some (decide (t399 ≤ 16)))) else (none))) else (none)) = some r := by rw [if_pos rfl] at H; exact H
         clear H
         have H := H1
         clear H1
         by_cases c31 : x7_1 = true
         ·
          subst c31
          have H1 : ((inst_Shape.f a0).bind fun t398 => (if t398 ≥ 1 then ((inst_Shape.f a0).bind fun t399 => (some (decide (t399 ≤ 16)))) else (none))) = some r := by rw [if_pos rfl] at H; exact H
          clear H
          have H := H1
          clear H1
          replace H := Option.bind_eq_some_iff.mp H
          obtain ⟨t398, A320, H⟩ := H
          replace H : (if t398 ≥ 1 then ((inst_Shape.f a0).bind fun t399 => (some (decide (t399 ≤ 16)))) else (none)) = some r := H
          have A32 := Aside0.mk A320
          clear A320
          by_cases c33 : t398 ≥ 1
          ·
           rw [if_pos c33] at H
           have c33b0 : decide (1 ≤ t398) = true := decide_eq_true c33
           clear c33
           replace H := Option.bind_eq_some_iff.mp H
           obtain ⟨t399, A340, H⟩ := H
           replace H : (some (decide (t399 ≤ 16))) = some r := H
           have A34 := Aside0.mk A340
           clear A340
           have eA34_ : t399 = t398 := by have h1 := A32.out; have h2 := A34.out; rw [h1] at h2; exact (Option.some.inj h2).symm
           obtain rfl := Option.some.inj H
           obtain ⟨Ao35, co35, eo35⟩ := Kd.R_slice HO_10.out
           subst eo35
           go_wp2_with (first | (go_at_call 29; (with_reducible refine (cleatlaw04_shaped.calls k2  true _ A29.out).mono ?_); rintro e w36 ⟨rfl, hb⟩; have n0_ := Aside0.mk (Kd.R_below (by (with_reducible repeat (first | apply Kd.R_alloc | apply Kd.R_drewN | apply Kd.R_drew)); exact HO_10.out) hb); have n1_ := Aside0.mk (below_step (by repeat (first | (with_reducible first | exact HB.out | apply below_alloc | apply pw_below_drewN | apply below_drew1) | exact HB.out)) hb); clear HO_10; clear HB; have HO_10 := n0_; have HB := n1_; clear n0_ n1_; (try clear hb); (try clear hb2); (try clear hk); (try clear hi)) | (go_at_call 36; (with_reducible refine (inst_Shape.calls a0 t398 _ A32.out).mono ?_); rintro e w37 ⟨rfl, hb⟩; have n0_ := Aside0.mk (Kd.R_below (by (with_reducible repeat (first | apply Kd.R_alloc | apply Kd.R_drewN | apply Kd.R_drew)); exact HO_10.out) hb); have n1_ := Aside0.mk (below_step (by repeat (first | (with_reducible first | exact HB.out | apply below_alloc | apply pw_below_drewN | apply below_drew1) | exact HB.out)) hb); clear HO_10; clear HB; have HO_10 := n0_; have HB := n1_; clear n0_ n1_; (try clear hb); (try clear hb2); (try clear hk); (try clear hi)) | (go_at_call 36; (with_reducible refine (inst_Shape.calls a0 t399 _ A34.out).mono ?_); rintro e w38 ⟨rfl, hb⟩; have n0_ := Aside0.mk (Kd.R_below (by (with_reducible repeat (first | apply Kd.R_alloc | apply Kd.R_drewN | apply Kd.R_drew)); exact HO_10.out) hb); have n1_ := Aside0.mk (below_step (by repeat (first | (with_reducible first | exact HB.out | apply below_alloc | apply pw_below_drewN | apply below_drew1) | exact HB.out)) hb); clear HO_10; clear HB; have HO_10 := n0_; have HB := n1_; clear n0_ n1_; (try clear hb); (try clear hb2); (try clear hk); (try clear hi)))
           repeat (go_quiet (first | (go_at_call 29; (with_reducible refine (cleatlaw04_shaped.calls k2  true _ A29.out).mono ?_); rintro e w36 ⟨rfl, hb⟩; have n0_ := Aside0.mk (Kd.R_below (by (with_reducible repeat (first | apply Kd.R_alloc | apply Kd.R_drewN | apply Kd.R_drew)); exact HO_10.out) hb); have n1_ := Aside0.mk (below_step (by repeat (first | (with_reducible first | exact HB.out | apply below_alloc | apply pw_below_drewN | apply below_drew1) | exact HB.out)) hb); clear HO_10; clear HB; have HO_10 := n0_; have HB := n1_; clear n0_ n1_; (try clear hb); (try clear hb2); (try clear hk); (try clear hi)) | (go_at_call 36; (with_reducible refine (inst_Shape.calls a0 t398 _ A32.out).mono ?_); rintro e w37 ⟨rfl, hb⟩; have n0_ := Aside0.mk (Kd.R_below (by (with_reducible repeat (first | apply Kd.R_alloc | apply Kd.R_drewN | apply Kd.R_drew)); exact HO_10.out) hb); have n1_ := Aside0.mk (below_step (by repeat (first | (with_reducible first | exact HB.out | apply below_alloc | apply pw_below_drewN | apply below_drew1) | exact HB.out)) hb); clear HO_10; clear HB; have HO_10 := n0_; have HB := n1_; clear n0_ n1_; (try clear hb); (try clear hb2); (try clear hk); (try clear hi)) | (go_at_call 36; (with_reducible refine (inst_Shape.calls a0 t399 _ A34.out).mono ?_); rintro e w38 ⟨rfl, hb⟩; have n0_ := Aside0.mk (Kd.R_below (by (with_reducible repeat (first | apply Kd.R_alloc | apply Kd.R_drewN | apply Kd.R_drew)); exact HO_10.out) hb); have n1_ := Aside0.mk (below_step (by repeat (first | (with_reducible first | exact HB.out | apply below_alloc | apply pw_below_drewN | apply below_drew1) | exact HB.out)) hb); clear HO_10; clear HB; have HO_10 := n0_; have HB := n1_; clear n0_ n1_; (try clear hb); (try clear hb2); (try clear hk); (try clear hi))); try go_wp2_with (first | (go_at_call 29; (with_reducible refine (cleatlaw04_shaped.calls k2  true _ A29.out).mono ?_); rintro e w36 ⟨rfl, hb⟩; have n0_ := Aside0.mk (Kd.R_below (by (with_reducible repeat (first | apply Kd.R_alloc | apply Kd.R_drewN | apply Kd.R_drew)); exact HO_10.out) hb); have n1_ := Aside0.mk (below_step (by repeat (first | (with_reducible first | exact HB.out | apply below_alloc | apply pw_below_drewN | apply below_drew1) | exact HB.out)) hb); clear HO_10; clear HB; have HO_10 := n0_; have HB := n1_; clear n0_ n1_; (try clear hb); (try clear hb2); (try clear hk); (try clear hi)) | (go_at_call 36; (with_reducible refine (inst_Shape.calls a0 t398 _ A32.out).mono ?_); rintro e w37 ⟨rfl, hb⟩; have n0_ := Aside0.mk (Kd.R_below (by (with_reducible repeat (first | apply Kd.R_alloc | apply Kd.R_drewN | apply Kd.R_drew)); exact HO_10.out) hb); have n1_ := Aside0.mk (below_step (by repeat (first | (with_reducible first | exact HB.out | apply below_alloc | apply pw_below_drewN | apply below_drew1) | exact HB.out)) hb); clear HO_10; clear HB; have HO_10 := n0_; have HB := n1_; clear n0_ n1_; (try clear hb); (try clear hb2); (try clear hk); (try clear hi)) | (go_at_call 36; (with_reducible refine (inst_Shape.calls a0 t399 _ A34.out).mono ?_); rintro e w38 ⟨rfl, hb⟩; have n0_ := Aside0.mk (Kd.R_below (by (with_reducible repeat (first | apply Kd.R_alloc | apply Kd.R_drewN | apply Kd.R_drew)); exact HO_10.out) hb); have n1_ := Aside0.mk (below_step (by repeat (first | (with_reducible first | exact HB.out | apply below_alloc | apply pw_below_drewN | apply below_drew1) | exact HB.out)) hb); clear HO_10; clear HB; have HO_10 := n0_; have HB := n1_; clear n0_ n1_; (try clear hb); (try clear hb2); (try clear hk); (try clear hi))))
           go_ret
           exact ⟨by first | rfl | (simp [errW_none, errW_some] <;> rfl) | (simp [*, errW_none, errW_some] <;> rfl), by repeat (first | (with_reducible first | exact HB.out | apply below_alloc | apply pw_below_drewN | apply below_drew1) | exact HB.out)⟩
          ·
           rw [if_neg c33] at H
           exact absurd H (by simp)
         ·
          replace c31 := Bool.eq_false_iff.mpr c31
          subst c31
          have H1 : (none) = some r := by rw [if_neg (show ¬ (false = true) by decide)] at H; exact H
          clear H
          have H := H1
          clear H1
          exact absurd H (by simp)
        ·
         replace c30 := Bool.eq_false_iff.mpr c30
         subst c30
         have H1 : (none) = some r := by rw [if_neg (show ¬ (false = true) by decide)] at H; exact H
         clear H
         have H := H1
         clear H1
         exact absurd H (by simp)
 ·
  rw [if_neg c4] at H
  have c4b0 : (t382 == 0) = false := beq_eq_false_iff_ne.mpr c4
  have c4b1 : (t382 != 0) = true := bne_iff_ne.mpr c4
  replace H := Option.bind_eq_some_iff.mp H
  obtain ⟨t383, A390, H⟩ := H
  replace H : (if t383 = true then (if t381.toList = ([] : List UInt8) then ((inst_Shape.f a0).bind fun t384 => (if t384 = 0 then (if a0 < 1 then (some true) else (some (decide (a0 > 39)))) else (none))) else (none)) else (none)) = some r := H
  have A39 := Aside0.mk A390
  clear A390
  by_cases c40 : t383 = true
  ·
   subst c40
   have H1 : (if t381.toList = ([] : List UInt8) then ((inst_Shape.f a0).bind fun t384 => (if t384 = 0 then (if a0 < 1 then (some true) else (some (decide (a0 > 39)))) else (none))) else (none)) = some r := by rw [if_pos rfl] at H; exact H
   clear H
   have H := H1
   clear H1
   by_cases c41 : t381.toList = ([] : List UInt8)
   ·
    rw [if_pos c41] at H
    have c41b0 : (t381.toList == ([] : List UInt8)) = true := beq_iff_eq.mpr c41
    have c41b1 : (t381.toList != ([] : List UInt8)) = false := bne_eq_false_iff_eq.mpr c41
    clear c41
    replace H := Option.bind_eq_some_iff.mp H
    obtain ⟨t384, A420, H⟩ := H
    replace H : (if t384 = 0 then (if a0 < 1 then (some true) else (some (decide (a0 > 39)))) else (none)) = some r := H
    have A42 := Aside0.mk A420
    clear A420
    by_cases c43 : t384 = 0
    ·
     rw [if_pos c43] at H
     have c43b0 : (t384 == 0) = true := beq_iff_eq.mpr c43
     have c43b1 : (t384 != 0) = false := bne_eq_false_iff_eq.mpr c43
     clear c43
     by_cases c44 : a0 < 1
     ·
      rw [if_pos c44] at H
      have c44b0 : decide (a0 < 1) = true := decide_eq_true c44
      clear c44
      obtain rfl := Option.some.inj H
      go_enter Tryd.func13, Tryd.ntmps13
      go_wp2_with (first | (go_at_call 38; (with_reducible refine (inst_Name.calls a0 t381 t382 _ A3.out).mono ?_); rintro e w45 ⟨rfl, hb⟩; have n0_ := Aside0.mk (below_step (by repeat (first | (with_reducible first | exact HB.out | apply below_alloc | apply pw_below_drewN | apply below_drew1) | exact HB.out)) hb); clear HB; have HB := n0_; clear n0_; (try clear hb); (try clear hb2); (try clear hk); (try clear hi)) | (go_at_call 29; (with_reducible refine (cleatlaw04_shaped.calls k  true _ A39.out).mono ?_); rintro e w46 ⟨rfl, hb⟩; have n0_ := Aside0.mk (below_step (by repeat (first | (with_reducible first | exact HB.out | apply below_alloc | apply pw_below_drewN | apply below_drew1) | exact HB.out)) hb); clear HB; have HB := n0_; clear n0_; (try clear hb); (try clear hb2); (try clear hk); (try clear hi)) | (go_at_call 36; (with_reducible refine (inst_Shape.calls a0 t384 _ A42.out).mono ?_); rintro e w47 ⟨rfl, hb⟩; have n0_ := Aside0.mk (below_step (by repeat (first | (with_reducible first | exact HB.out | apply below_alloc | apply pw_below_drewN | apply below_drew1) | exact HB.out)) hb); clear HB; have HB := n0_; clear n0_; (try clear hb); (try clear hb2); (try clear hk); (try clear hi)))
      repeat (go_quiet (first | (go_at_call 38; (with_reducible refine (inst_Name.calls a0 t381 t382 _ A3.out).mono ?_); rintro e w45 ⟨rfl, hb⟩; have n0_ := Aside0.mk (below_step (by repeat (first | (with_reducible first | exact HB.out | apply below_alloc | apply pw_below_drewN | apply below_drew1) | exact HB.out)) hb); clear HB; have HB := n0_; clear n0_; (try clear hb); (try clear hb2); (try clear hk); (try clear hi)) | (go_at_call 29; (with_reducible refine (cleatlaw04_shaped.calls k  true _ A39.out).mono ?_); rintro e w46 ⟨rfl, hb⟩; have n0_ := Aside0.mk (below_step (by repeat (first | (with_reducible first | exact HB.out | apply below_alloc | apply pw_below_drewN | apply below_drew1) | exact HB.out)) hb); clear HB; have HB := n0_; clear n0_; (try clear hb); (try clear hb2); (try clear hk); (try clear hi)) | (go_at_call 36; (with_reducible refine (inst_Shape.calls a0 t384 _ A42.out).mono ?_); rintro e w47 ⟨rfl, hb⟩; have n0_ := Aside0.mk (below_step (by repeat (first | (with_reducible first | exact HB.out | apply below_alloc | apply pw_below_drewN | apply below_drew1) | exact HB.out)) hb); clear HB; have HB := n0_; clear n0_; (try clear hb); (try clear hb2); (try clear hk); (try clear hi))); try go_wp2_with (first | (go_at_call 38; (with_reducible refine (inst_Name.calls a0 t381 t382 _ A3.out).mono ?_); rintro e w45 ⟨rfl, hb⟩; have n0_ := Aside0.mk (below_step (by repeat (first | (with_reducible first | exact HB.out | apply below_alloc | apply pw_below_drewN | apply below_drew1) | exact HB.out)) hb); clear HB; have HB := n0_; clear n0_; (try clear hb); (try clear hb2); (try clear hk); (try clear hi)) | (go_at_call 29; (with_reducible refine (cleatlaw04_shaped.calls k  true _ A39.out).mono ?_); rintro e w46 ⟨rfl, hb⟩; have n0_ := Aside0.mk (below_step (by repeat (first | (with_reducible first | exact HB.out | apply below_alloc | apply pw_below_drewN | apply below_drew1) | exact HB.out)) hb); clear HB; have HB := n0_; clear n0_; (try clear hb); (try clear hb2); (try clear hk); (try clear hi)) | (go_at_call 36; (with_reducible refine (inst_Shape.calls a0 t384 _ A42.out).mono ?_); rintro e w47 ⟨rfl, hb⟩; have n0_ := Aside0.mk (below_step (by repeat (first | (with_reducible first | exact HB.out | apply below_alloc | apply pw_below_drewN | apply below_drew1) | exact HB.out)) hb); clear HB; have HB := n0_; clear n0_; (try clear hb); (try clear hb2); (try clear hk); (try clear hi))))
      go_ret
      exact ⟨by first | rfl | (simp [errW_none, errW_some] <;> rfl) | (simp [*, errW_none, errW_some] <;> rfl), by repeat (first | (with_reducible first | exact HB.out | apply below_alloc | apply pw_below_drewN | apply below_drew1) | exact HB.out)⟩
     ·
      rw [if_neg c44] at H
      have c44b0 : decide (a0 < 1) = false := decide_eq_false c44
      clear c44
      obtain rfl := Option.some.inj H
      go_enter Tryd.func13, Tryd.ntmps13
      go_wp2_with (first | (go_at_call 38; (with_reducible refine (inst_Name.calls a0 t381 t382 _ A3.out).mono ?_); rintro e w48 ⟨rfl, hb⟩; have n0_ := Aside0.mk (below_step (by repeat (first | (with_reducible first | exact HB.out | apply below_alloc | apply pw_below_drewN | apply below_drew1) | exact HB.out)) hb); clear HB; have HB := n0_; clear n0_; (try clear hb); (try clear hb2); (try clear hk); (try clear hi)) | (go_at_call 29; (with_reducible refine (cleatlaw04_shaped.calls k  true _ A39.out).mono ?_); rintro e w49 ⟨rfl, hb⟩; have n0_ := Aside0.mk (below_step (by repeat (first | (with_reducible first | exact HB.out | apply below_alloc | apply pw_below_drewN | apply below_drew1) | exact HB.out)) hb); clear HB; have HB := n0_; clear n0_; (try clear hb); (try clear hb2); (try clear hk); (try clear hi)) | (go_at_call 36; (with_reducible refine (inst_Shape.calls a0 t384 _ A42.out).mono ?_); rintro e w50 ⟨rfl, hb⟩; have n0_ := Aside0.mk (below_step (by repeat (first | (with_reducible first | exact HB.out | apply below_alloc | apply pw_below_drewN | apply below_drew1) | exact HB.out)) hb); clear HB; have HB := n0_; clear n0_; (try clear hb); (try clear hb2); (try clear hk); (try clear hi)))
      repeat (go_quiet (first | (go_at_call 38; (with_reducible refine (inst_Name.calls a0 t381 t382 _ A3.out).mono ?_); rintro e w48 ⟨rfl, hb⟩; have n0_ := Aside0.mk (below_step (by repeat (first | (with_reducible first | exact HB.out | apply below_alloc | apply pw_below_drewN | apply below_drew1) | exact HB.out)) hb); clear HB; have HB := n0_; clear n0_; (try clear hb); (try clear hb2); (try clear hk); (try clear hi)) | (go_at_call 29; (with_reducible refine (cleatlaw04_shaped.calls k  true _ A39.out).mono ?_); rintro e w49 ⟨rfl, hb⟩; have n0_ := Aside0.mk (below_step (by repeat (first | (with_reducible first | exact HB.out | apply below_alloc | apply pw_below_drewN | apply below_drew1) | exact HB.out)) hb); clear HB; have HB := n0_; clear n0_; (try clear hb); (try clear hb2); (try clear hk); (try clear hi)) | (go_at_call 36; (with_reducible refine (inst_Shape.calls a0 t384 _ A42.out).mono ?_); rintro e w50 ⟨rfl, hb⟩; have n0_ := Aside0.mk (below_step (by repeat (first | (with_reducible first | exact HB.out | apply below_alloc | apply pw_below_drewN | apply below_drew1) | exact HB.out)) hb); clear HB; have HB := n0_; clear n0_; (try clear hb); (try clear hb2); (try clear hk); (try clear hi))); try go_wp2_with (first | (go_at_call 38; (with_reducible refine (inst_Name.calls a0 t381 t382 _ A3.out).mono ?_); rintro e w48 ⟨rfl, hb⟩; have n0_ := Aside0.mk (below_step (by repeat (first | (with_reducible first | exact HB.out | apply below_alloc | apply pw_below_drewN | apply below_drew1) | exact HB.out)) hb); clear HB; have HB := n0_; clear n0_; (try clear hb); (try clear hb2); (try clear hk); (try clear hi)) | (go_at_call 29; (with_reducible refine (cleatlaw04_shaped.calls k  true _ A39.out).mono ?_); rintro e w49 ⟨rfl, hb⟩; have n0_ := Aside0.mk (below_step (by repeat (first | (with_reducible first | exact HB.out | apply below_alloc | apply pw_below_drewN | apply below_drew1) | exact HB.out)) hb); clear HB; have HB := n0_; clear n0_; (try clear hb); (try clear hb2); (try clear hk); (try clear hi)) | (go_at_call 36; (with_reducible refine (inst_Shape.calls a0 t384 _ A42.out).mono ?_); rintro e w50 ⟨rfl, hb⟩; have n0_ := Aside0.mk (below_step (by repeat (first | (with_reducible first | exact HB.out | apply below_alloc | apply pw_below_drewN | apply below_drew1) | exact HB.out)) hb); clear HB; have HB := n0_; clear n0_; (try clear hb); (try clear hb2); (try clear hk); (try clear hi))))
      go_ret
      exact ⟨by first | rfl | (simp [errW_none, errW_some] <;> rfl) | (simp [*, errW_none, errW_some] <;> rfl), by repeat (first | (with_reducible first | exact HB.out | apply below_alloc | apply pw_below_drewN | apply below_drew1) | exact HB.out)⟩
    ·
     rw [if_neg c43] at H
     exact absurd H (by simp)
   ·
    rw [if_neg c41] at H
    exact absurd H (by simp)
  ·
   replace c40 := Bool.eq_false_iff.mpr c40
   subst c40
   have H1 : (none) = some r := by rw [if_neg (show ¬ (false = true) by decide)] at H; exact H
   clear H
   have H := H1
   clear H1
   exact absurd H (by simp)

/-- THE ONE PURE STATEMENT of cleatlaw04_InstBack: yours. -/
def cleatlaw04_InstBack.Pure : Prop := ∀ (a0 : Int) (a1 : ByteArray), (Lit.int .i64 a0).wf = true → a1.size ≤ 140737488351232 → ∃ k, cleatlaw04_InstBack.f k a0 a1 = some true
theorem cleatlaw04_InstBack.walk (P : cleatlaw04_InstBack.Pure) (a0 : Int) (a1 : ByteArray) (w : World) (w0 : (Lit.int .i64 a0).wf = true) (w1 : a1.size ≤ 140737488351232) (hTab : TabW w) :
    Calls Tryd.prog 13 #[.int .i64 a0, .string a1] w fun e w' => e = .returned (.bool true) ∧ Below w.heap.size w w' := by
 obtain ⟨k, h⟩ := P a0 a1 w0 w1
 refine (cleatlaw04_InstBack.calls k a0 a1 true w h).mono ?_
 rintro e w' ⟨rfl, hd⟩
 exact ⟨rfl, hd⟩

/-! ### mask_Decode: function 14 -/
/-- May a size be it, for the third number? -/
def mask_askD.f (s size : Int) : Option Bool := if size < 64 then (mask_front.f size).bind fun f => some (decide (s ≥ f)) else some false
set_option maxHeartbeats 8000000 in
theorem mask_askD.calls (s size : Int) (r : Bool) (B : Nat) (w : World) (hc : w.cell? ⟨B, 0, none⟩ = some (.int .i64 s)) (h : mask_askD.f s size = some r) :
    Calls Tryd.prog 44 #[.int .i64 size, .pointer (some ⟨B, 0, none⟩)] w fun e w' => e = .returned (.bool r) ∧ Below w.heap.size w w' := by
  unfold mask_askD.f at h
  by_cases h64 : size < 64
  · rw [if_pos h64] at h
    obtain ⟨a, h1, h⟩ := Option.bind_eq_some_iff.mp h
    obtain rfl := Option.some.inj h
    have H1 := Aside0.mk h1
    clear h h1
    have d : decide (size < 64) = true := decide_eq_true h64
    go_enter Tryd.func44, Tryd.ntmps44
    go_wp2
    go_quiet ((go_at_call 45; refine quiet_drawn (mask_front.calls _ _ _ H1.out)))
    all_goals go_wp2
    all_goals go_ret
    exact ⟨rfl, by repeat (first | exact Below.refl _ _ | apply below_drew | apply pw_below_drewN | apply below_alloc)⟩
  · rw [if_neg h64] at h
    obtain rfl := Option.some.inj h
    clear h
    have d : decide (size < 64) = false := decide_eq_false h64
    go_enter Tryd.func44, Tryd.ntmps44
    go_wp2
    go_quiet (fail)
    all_goals go_wp2
    all_goals go_ret
    exact ⟨rfl, by repeat (first | exact Below.refl _ _ | apply below_drew | apply pw_below_drewN | apply below_alloc)⟩
set_option maxHeartbeats 8000000 in
theorem mask_Decode.sizes (v : Int) (r : Int) (B : Nat) (w : World) (hc0 : w.cell? ⟨B, 0, none⟩ = some (.int .i64 v)) (h : mask_sizes.f (mask_askD.f v) = some r) :
    Calls Tryd.prog 43 #[.func (.func 44) #[] #[.pointer (some ⟨B, 0, none⟩)]] w fun e w' => e = .returned (.int .i64 r) ∧ Below w.heap.size w w' := by
  have hb0 := Below.refl w.heap.size w
  unfold mask_sizes.f at h
  go_enter Tryd.func43, Tryd.ntmps43
  go_wp2
  refine wp_loop_rounds 8 ?_
  obtain ⟨b0, h0, h⟩ := Option.bind_eq_some_iff.mp h
  have H0 := Aside0.mk h0
  clear h0
  rw [rounds_succ]
  cases b0
  rotate_left
  · rw [if_pos rfl] at h
    obtain rfl := Option.some.inj h
    clear h
    go_wp2_with (first | (go_at_call 44; refine (mask_askD.calls v _ _ B _ hc0 H0.out).mono ?_; rintro e w1 ⟨rfl, hn1⟩; have hb1 := below_then hb0 hb0.size hn1; have hc1 := pw_cell_below hn1 hc0))
    go_ret
    exact ⟨rfl, hb1⟩
  rw [if_neg (by decide)] at h
  have H := Aside0.mk h
  clear h
  go_wp2_with (first | (go_at_call 44; refine (mask_askD.calls v _ _ B _ hc0 H0.out).mono ?_; rintro e w1 ⟨rfl, hn1⟩; have hb1 := below_then hb0 hb0.size hn1; have hc1 := pw_cell_below hn1 hc0))
  replace h := H.out
  clear H
  obtain ⟨b1, h1, h⟩ := Option.bind_eq_some_iff.mp h
  have H1 := Aside0.mk h1
  clear h1
  rw [rounds_succ]
  cases b1
  rotate_left
  · rw [if_pos rfl] at h
    obtain rfl := Option.some.inj h
    clear h
    go_wp2_with (first | (go_at_call 44; refine (mask_askD.calls v _ _ B _ hc1 H1.out).mono ?_; rintro e w2 ⟨rfl, hn2⟩; have hb2 := below_then hb1 hb1.size hn2; have hc2 := pw_cell_below hn2 hc1))
    go_ret
    exact ⟨rfl, hb2⟩
  rw [if_neg (by decide)] at h
  have H := Aside0.mk h
  clear h
  go_wp2_with (first | (go_at_call 44; refine (mask_askD.calls v _ _ B _ hc1 H1.out).mono ?_; rintro e w2 ⟨rfl, hn2⟩; have hb2 := below_then hb1 hb1.size hn2; have hc2 := pw_cell_below hn2 hc1))
  replace h := H.out
  clear H
  obtain ⟨b2, h2, h⟩ := Option.bind_eq_some_iff.mp h
  have H2 := Aside0.mk h2
  clear h2
  rw [rounds_succ]
  cases b2
  rotate_left
  · rw [if_pos rfl] at h
    obtain rfl := Option.some.inj h
    clear h
    go_wp2_with (first | (go_at_call 44; refine (mask_askD.calls v _ _ B _ hc2 H2.out).mono ?_; rintro e w3 ⟨rfl, hn3⟩; have hb3 := below_then hb2 hb2.size hn3; have hc3 := pw_cell_below hn3 hc2))
    go_ret
    exact ⟨rfl, hb3⟩
  rw [if_neg (by decide)] at h
  have H := Aside0.mk h
  clear h
  go_wp2_with (first | (go_at_call 44; refine (mask_askD.calls v _ _ B _ hc2 H2.out).mono ?_; rintro e w3 ⟨rfl, hn3⟩; have hb3 := below_then hb2 hb2.size hn3; have hc3 := pw_cell_below hn3 hc2))
  replace h := H.out
  clear H
  obtain ⟨b3, h3, h⟩ := Option.bind_eq_some_iff.mp h
  have H3 := Aside0.mk h3
  clear h3
  rw [rounds_succ]
  cases b3
  rotate_left
  · rw [if_pos rfl] at h
    obtain rfl := Option.some.inj h
    clear h
    go_wp2_with (first | (go_at_call 44; refine (mask_askD.calls v _ _ B _ hc3 H3.out).mono ?_; rintro e w4 ⟨rfl, hn4⟩; have hb4 := below_then hb3 hb3.size hn4; have hc4 := pw_cell_below hn4 hc3))
    go_ret
    exact ⟨rfl, hb4⟩
  rw [if_neg (by decide)] at h
  have H := Aside0.mk h
  clear h
  go_wp2_with (first | (go_at_call 44; refine (mask_askD.calls v _ _ B _ hc3 H3.out).mono ?_; rintro e w4 ⟨rfl, hn4⟩; have hb4 := below_then hb3 hb3.size hn4; have hc4 := pw_cell_below hn4 hc3))
  replace h := H.out
  clear H
  obtain ⟨b4, h4, h⟩ := Option.bind_eq_some_iff.mp h
  have H4 := Aside0.mk h4
  clear h4
  rw [rounds_succ]
  cases b4
  rotate_left
  · rw [if_pos rfl] at h
    obtain rfl := Option.some.inj h
    clear h
    go_wp2_with (first | (go_at_call 44; refine (mask_askD.calls v _ _ B _ hc4 H4.out).mono ?_; rintro e w5 ⟨rfl, hn5⟩; have hb5 := below_then hb4 hb4.size hn5; have hc5 := pw_cell_below hn5 hc4))
    go_ret
    exact ⟨rfl, hb5⟩
  rw [if_neg (by decide)] at h
  have H := Aside0.mk h
  clear h
  go_wp2_with (first | (go_at_call 44; refine (mask_askD.calls v _ _ B _ hc4 H4.out).mono ?_; rintro e w5 ⟨rfl, hn5⟩; have hb5 := below_then hb4 hb4.size hn5; have hc5 := pw_cell_below hn5 hc4))
  replace h := H.out
  clear H
  obtain ⟨b5, h5, h⟩ := Option.bind_eq_some_iff.mp h
  have H5 := Aside0.mk h5
  clear h5
  rw [rounds_succ]
  cases b5
  rotate_left
  · rw [if_pos rfl] at h
    obtain rfl := Option.some.inj h
    clear h
    go_wp2_with (first | (go_at_call 44; refine (mask_askD.calls v _ _ B _ hc5 H5.out).mono ?_; rintro e w6 ⟨rfl, hn6⟩; have hb6 := below_then hb5 hb5.size hn6; have hc6 := pw_cell_below hn6 hc5))
    go_ret
    exact ⟨rfl, hb6⟩
  rw [if_neg (by decide)] at h
  have H := Aside0.mk h
  clear h
  go_wp2_with (first | (go_at_call 44; refine (mask_askD.calls v _ _ B _ hc5 H5.out).mono ?_; rintro e w6 ⟨rfl, hn6⟩; have hb6 := below_then hb5 hb5.size hn6; have hc6 := pw_cell_below hn6 hc5))
  replace h := H.out
  clear H
  obtain rfl := Option.some.inj h
  rw [rounds_succ]
  go_wp2
  go_ret
  exact ⟨rfl, hb6⟩
def mask_Decode.size (a0 a2 : Int) : Option Int := if a0 = 0 then mask_sizes.f (mask_askD.f a2) else some 64
def mask_Decode.f (k : Nat) (a0 a1 a2 : Int) : Option (Int × Int) :=
  if 0 ≤ mn (mn a0 a1) a2 ∧ a0 ≤ 1 ∧ mx a1 a2 < 64 then (mask_Decode.size a0 a2).bind fun z => (mask_front.f z).bind fun fr =>
    if 1 ≤ wrap64 (wrap64 (a2 - fr) + 1) ∧ wrap64 (wrap64 (a2 - fr) + 1) < z ∧ a1 < z then
      (bits_Low.f 18446744073709551615 (wrap64 (wrap64 (a2 - fr) + 1))).bind fun u => (bits_Rotate.f k u a1 z).bind fun p => (mask_again.f k p.1 z).bind fun v => some (v, p.2)
    else some (0, 3)
  else some (0, 1)
theorem mask_Decode.mono : ∀ a0 a1 a2 k, LeO (mask_Decode.f k a0 a1 a2) (mask_Decode.f (k + 1) a0 a1 a2) := by
  intro a0 a1 a2 k
  unfold mask_Decode.f
  repeat' first
    | with_reducible exact LeO.refl _
    | with_reducible exact bits_Rotate.mono _ _ _ _
    | with_reducible exact mask_again.mono _ _ _
    | with_reducible refine LeO.ite ?_ ?_
    | with_reducible refine LeO.bind ?_ (fun _ => ?_)
set_option maxHeartbeats 8000000 in
theorem mask_Decode.calls (k : Nat) (a0 a1 a2 : Int) (r1 r2 : Int) (w : World) (h : mask_Decode.f k a0 a1 a2 = some (r1, r2)) :
    Calls Tryd.prog 14 #[.int .i64 a0, .int .i64 a1, .int .i64 a2] w fun e w' => e = .returned (.tuple #[.int .u64 r1, .int .i64 r2]) ∧ Below w.heap.size w w' := by
  unfold mask_Decode.f at h
  obtain ⟨m1, hm1⟩ : ∃ m1, mn a0 a1 = m1 := ⟨_, rfl⟩
  obtain ⟨m2, hm2⟩ : ∃ m2, mn m1 a2 = m2 := ⟨_, rfl⟩
  obtain ⟨m3, hm3⟩ : ∃ m3, mx a1 a2 = m3 := ⟨_, rfl⟩
  rw [hm1, hm2, hm3] at h
  have hm1_ : (if a1 < a0 then a1 else a0) = m1 := hm1
  have hm2_ : (if a2 < m1 then a2 else m1) = m2 := hm2
  have hm3_ : (if a1 < a2 then a2 else a1) = m3 := hm3
  clear hm1 hm2 hm3
  have hA := fun o => below_alloc (Below.refl w.heap.size w) o
  have hA1 := hA (.cells #[.int .i64 a2] 3)
  have hN : (w.alloc (.cells #[.int .i64 a2] 3)).cell? ⟨w.heap.size, 0, none⟩ = some (.int .i64 a2) := by simp
  by_cases hin : 0 ≤ m2 ∧ a0 ≤ 1 ∧ m3 < 64
  · rw [if_pos hin] at h
    obtain ⟨hi1, hi2, hi3⟩ := hin
    obtain ⟨z, hz, h⟩ := Option.bind_eq_some_iff.mp h
    obtain ⟨fr, hfr, h⟩ := Option.bind_eq_some_iff.mp h
    have HZ := Aside0.mk hz
    have HF := Aside0.mk hfr
    have H := Aside0.mk h
    clear h hz hfr
    obtain ⟨o, ho⟩ : ∃ o, wrap64 (wrap64 (a2 - fr) + 1) = o := ⟨_, rfl⟩
    have H2 := H.out
    rw [ho] at H2
    clear H
    by_cases hz0 : a0 = 0
    · subst hz0
      by_cases hok : 1 ≤ o ∧ o < z ∧ a1 < z
      · rw [if_pos hok] at H2
        obtain ⟨ho1, ho2, ho3⟩ := hok
        obtain ⟨u, h1, H2⟩ := Option.bind_eq_some_iff.mp H2
        obtain ⟨p, h2, H2⟩ := Option.bind_eq_some_iff.mp H2
        obtain ⟨v, h3, H2⟩ := Option.bind_eq_some_iff.mp H2
        obtain ⟨p1, p2⟩ := p
        obtain ⟨rfl, rfl⟩ := Prod.mk.inj (Option.some.inj H2)
        have G1 := Aside0.mk h1
        have G2 := Aside0.mk h2
        have G3 := Aside0.mk h3
        clear H2 h1 h2 h3
        go_enter Tryd.func14, Tryd.ntmps14
        go_wp2_with (first | (go_at_call 43; refine (mask_Decode.sizes a2 z w.heap.size _ hN HZ.out).mono ?_; rintro e w1 ⟨rfl, hb1⟩; have hc1 := pw_cell_below hb1 hN))
        all_goals go_quiet ((go_at_call 45; refine quiet_drawn (mask_front.calls _ _ _ HF.out)))
        go_wp2_with (first | (go_at_call 26; refine (bits_Low.calls _ _ _ _ G1.out).mono ?_; rintro e w2 ⟨rfl, hb2⟩) | (go_at_call 25; refine (bits_Rotate.calls _ _ _ _ _ _ _ G2.out).mono ?_; rintro e w3 ⟨rfl, hb3⟩) | (go_at_call 46; refine (mask_again.calls _ _ _ _ _ G3.out).mono ?_; rintro e w4 ⟨rfl, ⟨n4, rfl⟩⟩))
        go_ret2
        have B1 := fun n => pw_below_drewN (below_then hA1 hA1.size hb1) n
        have B2 := below_then (B1 _) (B1 _).size hb2
        exact ⟨rfl, pw_below_drewN (below_then B2 B2.size hb3) _⟩
      · rw [if_neg hok] at H2
        obtain ⟨rfl, rfl⟩ := Prod.mk.inj (Option.some.inj H2)
        clear H2
        rcases Int.lt_or_le o 1 with c1 | c1
        · go_enter Tryd.func14, Tryd.ntmps14
          go_wp2_with (first | (go_at_call 43; refine (mask_Decode.sizes a2 z w.heap.size _ hN HZ.out).mono ?_; rintro e w1 ⟨rfl, hb1⟩; have hc1 := pw_cell_below hb1 hN))
          all_goals go_quiet ((go_at_call 45; refine quiet_drawn (mask_front.calls _ _ _ HF.out)))
          all_goals go_wp2
          all_goals go_ret2
          all_goals exact ⟨rfl, pw_below_drewN (below_then hA1 hA1.size hb1) _⟩
        · rcases Int.lt_or_le o z with c2 | c2
          · have c3 : z ≤ a1 := by omega
            go_enter Tryd.func14, Tryd.ntmps14
            go_wp2_with (first | (go_at_call 43; refine (mask_Decode.sizes a2 z w.heap.size _ hN HZ.out).mono ?_; rintro e w1 ⟨rfl, hb1⟩; have hc1 := pw_cell_below hb1 hN))
            all_goals go_quiet ((go_at_call 45; refine quiet_drawn (mask_front.calls _ _ _ HF.out)))
            all_goals go_wp2
            all_goals go_ret2
            all_goals exact ⟨rfl, pw_below_drewN (below_then hA1 hA1.size hb1) _⟩
          · go_enter Tryd.func14, Tryd.ntmps14
            go_wp2_with (first | (go_at_call 43; refine (mask_Decode.sizes a2 z w.heap.size _ hN HZ.out).mono ?_; rintro e w1 ⟨rfl, hb1⟩; have hc1 := pw_cell_below hb1 hN))
            all_goals go_quiet ((go_at_call 45; refine quiet_drawn (mask_front.calls _ _ _ HF.out)))
            all_goals go_wp2
            all_goals go_ret2
            all_goals exact ⟨rfl, pw_below_drewN (below_then hA1 hA1.size hb1) _⟩
    · have hzz : ¬ a0 = 0 := hz0
      obtain rfl : z = 64 := by have := HZ.out; unfold mask_Decode.size at this; rw [if_neg hz0] at this; exact (Option.some.inj this).symm
      by_cases hok : 1 ≤ o ∧ o < 64 ∧ a1 < 64
      · rw [if_pos hok] at H2
        obtain ⟨ho1, ho2, ho3⟩ := hok
        obtain ⟨u, h1, H2⟩ := Option.bind_eq_some_iff.mp H2
        obtain ⟨p, h2, H2⟩ := Option.bind_eq_some_iff.mp H2
        obtain ⟨v, h3, H2⟩ := Option.bind_eq_some_iff.mp H2
        obtain ⟨p1, p2⟩ := p
        obtain ⟨rfl, rfl⟩ := Prod.mk.inj (Option.some.inj H2)
        have G1 := Aside0.mk h1
        have G2 := Aside0.mk h2
        have G3 := Aside0.mk h3
        clear H2 h1 h2 h3
        go_enter Tryd.func14, Tryd.ntmps14
        go_wp2
        all_goals go_quiet ((go_at_call 45; refine quiet_drawn (mask_front.calls _ _ _ HF.out)))
        go_wp2_with (first | (go_at_call 26; refine (bits_Low.calls _ _ _ _ G1.out).mono ?_; rintro e w2 ⟨rfl, hb2⟩) | (go_at_call 25; refine (bits_Rotate.calls _ _ _ _ _ _ _ G2.out).mono ?_; rintro e w3 ⟨rfl, hb3⟩) | (go_at_call 46; refine (mask_again.calls _ _ _ _ _ G3.out).mono ?_; rintro e w4 ⟨rfl, ⟨n4, rfl⟩⟩))
        go_ret2
        have B1 := fun n => pw_below_drewN hA1 n
        have B2 := below_then (B1 _) (B1 _).size hb2
        exact ⟨rfl, pw_below_drewN (below_then B2 B2.size hb3) _⟩
      · rw [if_neg hok] at H2
        obtain ⟨rfl, rfl⟩ := Prod.mk.inj (Option.some.inj H2)
        clear H2
        rcases Int.lt_or_le o 1 with c1 | c1
        · go_enter Tryd.func14, Tryd.ntmps14
          go_wp2
          all_goals go_quiet ((go_at_call 45; refine quiet_drawn (mask_front.calls _ _ _ HF.out)))
          all_goals go_wp2
          all_goals go_ret2
          all_goals exact ⟨rfl, pw_below_drewN hA1 _⟩
        · rcases Int.lt_or_le o 64 with c2 | c2
          · have c3 : 64 ≤ a1 := by omega
            go_enter Tryd.func14, Tryd.ntmps14
            go_wp2
            all_goals go_quiet ((go_at_call 45; refine quiet_drawn (mask_front.calls _ _ _ HF.out)))
            all_goals go_wp2
            all_goals go_ret2
            all_goals exact ⟨rfl, pw_below_drewN hA1 _⟩
          · go_enter Tryd.func14, Tryd.ntmps14
            go_wp2
            all_goals go_quiet ((go_at_call 45; refine quiet_drawn (mask_front.calls _ _ _ HF.out)))
            all_goals go_wp2
            all_goals go_ret2
            all_goals exact ⟨rfl, pw_below_drewN hA1 _⟩
  · have hz : m2 < 0 ∨ 1 < a0 ∨ 64 ≤ m3 := by omega
    rw [if_neg hin] at h
    obtain ⟨rfl, rfl⟩ := Prod.mk.inj (Option.some.inj h)
    clear h hin
    rcases Int.lt_or_le m2 0 with c1 | c1
    · go_enter Tryd.func14, Tryd.ntmps14
      go_wp2
      go_ret2
      exact ⟨rfl, hA _⟩
    · rcases Int.lt_or_le 1 a0 with c2 | c2
      · go_enter Tryd.func14, Tryd.ntmps14
        go_wp2
        go_ret2
        exact ⟨rfl, hA _⟩
      · have c3 : 64 ≤ m3 := by omega
        go_enter Tryd.func14, Tryd.ntmps14
        go_wp2
        go_ret2
        exact ⟨rfl, hA _⟩

end Go.Proofs.YtbklmlbmbnnjkaaDoor.R
