/- Written for this claim by a program of this session (drive.py, over the print of the kit): Lean functions with the answers of Go functions, and the proofs that the Go code comes to these answers, under no condition but the readings of the arguments that each theorem names. -/
import Derived.Test.YtbklmlbmbnnjkaaDoorRx0
import Derived.Test.YtbklmlbmbnnjkaaDoorRx4
import Derived.Test.YtbklmlbmbnnjkaaDoorRx5
import Derived.Test.YtbklmlbmbnnjkaaDoorRx6
import Derived.Test.YtbklmlbmbnnjkaaDoorRx10
import Derived.Test.YtbklmlbmbnnjkaaDoorRx14
namespace Go.Proofs.YtbklmlbmbnnjkaaDoor.R
open Go.RowKit Go.Proofs.YtbklmlbmbnnjkaaDoorW.PrintWords Go.Proofs.YtbklmlbmbnnjkaaDoorW.PrintLast Go.Proofs.YtbklmlbmbnnjkaaDoorW.PrintMore
attribute [local go_sem] max2_int min2_int max_two min_two max_three min_three max_four min_four   -- for this text's walks alone
set_option linter.unusedVariables false
set_option linter.unusedSimpArgs false

-- NOT PRINTED: function 10 (cleatlaw04_InstRenamed)

/-! ### cleatlaw04_InstMask: function 11 -/
def cleatlaw04_InstMask.j0 : Nat → Int → Bool → Int → Int → Int → Int → Int → Int → Int → Int → Int → Int → Option (Bool)
 | 0, _, _, _, _, _, _, _, _, _, _, _, _ => none
 | k + 1, x3, x33, x346000, x346001, x346002, x346003, x346004, x346005, x346006, x346007, x346008, x346009 => if x33 = true then ((cleatlaw04_shaped.f k).bind fun t347 => (if t347 = true then (if x3 = 0 then (some true) else ((inst_Is.f k x346000 x346001 x346002 x346003 x346004 x346005 x346006 x346007 x346008 x346009).bind fun t348 => (some (!t348)))) else (none))) else ((cleatlaw04_shaped.f k).bind fun t349 => (if t349 = true then ((inst_Is.f k x346000 x346001 x346002 x346003 x346004 x346005 x346006 x346007 x346008 x346009).bind fun t350 => ((mask_Is.f k x3).bind fun t351 => (some (t350 == t351)))) else (none)))
def cleatlaw04_InstMask.f (k : Nat) (a0 : Int) (a1 : Int) (a2 : Int) (a3 : Int) : Option (Bool) := (inst_Shape.f a0).bind fun t346 => (if t346 = 3 then (if a1 < 0 then (cleatlaw04_InstMask.j0 k a3 true a0 a1 a2 0 0 0 a3 0 0 0) else (if a1 > 31 then (cleatlaw04_InstMask.j0 k a3 true a0 a1 a2 0 0 0 a3 0 0 0) else (if a2 < 0 then (cleatlaw04_InstMask.j0 k a3 true a0 a1 a2 0 0 0 a3 0 0 0) else (cleatlaw04_InstMask.j0 k a3 (decide (a2 > 31)) a0 a1 a2 0 0 0 a3 0 0 0)))) else (cleatlaw04_InstMask.j0 k a3 true a0 a1 a2 0 0 0 a3 0 0 0))
theorem cleatlaw04_InstMask.mono_l : ∀ k, (∀ y0 y1 y2 y3 y4 y5 y6 y7 y8 y9 y10 y11, LeO (cleatlaw04_InstMask.j0 k y0 y1 y2 y3 y4 y5 y6 y7 y8 y9 y10 y11) (cleatlaw04_InstMask.j0 (k + 1) y0 y1 y2 y3 y4 y5 y6 y7 y8 y9 y10 y11))
 | 0 => fun _ _ _ _ _ _ _ _ _ _ _ _ r h => by simp [cleatlaw04_InstMask.j0] at h
 | k + 1 => by
  have ih0 := cleatlaw04_InstMask.mono_l k
  ·
   intro y0 y1 y2 y3 y4 y5 y6 y7 y8 y9 y10 y11
   unfold cleatlaw04_InstMask.j0
   repeat' first
   | (with_reducible exact ih0 _ _ _ _ _ _ _ _ _ _ _ _)
   | (with_reducible exact cleatlaw04_shaped.mono _)
   | (with_reducible exact inst_Is.mono _ _ _ _ _ _ _ _ _ _ _)
   | (with_reducible exact mask_Is.mono _ _)
   | (with_reducible exact LeO.refl _)
   | (with_reducible exact LeO.none _)
   | (with_reducible refine LeO.ite ?_ ?_)
   | (with_reducible refine LeO.bind ?_ (fun _ => ?_))
   | exact ih0 _ _ _ _ _ _ _ _ _ _ _ _
   | exact cleatlaw04_shaped.mono _
   | exact inst_Is.mono _ _ _ _ _ _ _ _ _ _ _
   | exact mask_Is.mono _ _
   | exact LeO.none _
   | refine LeO.ite ?_ ?_
   | refine LeO.bind ?_ (fun _ => ?_)
theorem cleatlaw04_InstMask.mono : ∀ a0 a1 a2 a3 k, LeO (cleatlaw04_InstMask.f k a0 a1 a2 a3) (cleatlaw04_InstMask.f (k + 1) a0 a1 a2 a3) := by
 intro a0 a1 a2 a3 k
 have ih0 := cleatlaw04_InstMask.mono_l k
 unfold cleatlaw04_InstMask.f
 repeat' first
   | (with_reducible exact ih0 _ _ _ _ _ _ _ _ _ _ _ _)
   | (with_reducible exact cleatlaw04_shaped.mono _)
   | (with_reducible exact inst_Is.mono _ _ _ _ _ _ _ _ _ _ _)
   | (with_reducible exact mask_Is.mono _ _)
   | (with_reducible exact LeO.refl _)
   | (with_reducible exact LeO.none _)
   | (with_reducible refine LeO.ite ?_ ?_)
   | (with_reducible refine LeO.bind ?_ (fun _ => ?_))
   | exact ih0 _ _ _ _ _ _ _ _ _ _ _ _
   | exact cleatlaw04_shaped.mono _
   | exact inst_Is.mono _ _ _ _ _ _ _ _ _ _ _
   | exact mask_Is.mono _ _
   | exact LeO.none _
   | refine LeO.ite ?_ ?_
   | refine LeO.bind ?_ (fun _ => ?_)
set_option maxHeartbeats 8000000 in
set_option maxRecDepth 100000 in
theorem cleatlaw04_InstMask.calls (k : Nat) (a0 : Int) (a1 : Int) (a2 : Int) (a3 : Int) (r : Bool) (w : World) (h : cleatlaw04_InstMask.f k a0 a1 a2 a3 = some r) (hTab : TabW w := by first | exact hTab | exact TabW.drew hTab | exact TabW.drewN hTab _ | exact TabW.below hTab (by repeat (first | (with_reducible first | exact HB.out | apply below_alloc | apply pw_below_drewN | apply below_drew1) | refine Below.setCell ?_ (Aside0.out (by assumption)) _ | exact HB.out | exact Below.refl _ _))) :
    Calls Tryd.prog 11 #[.int .i64 a0, .int .i64 a1, .int .i64 a2, .int .u64 a3] w fun e w' => e = .returned (.bool r) ∧ Below w.heap.size w w' := by
 have hu37 := Tryd.underlying37
 have HB := Aside0.mk (Below.refl w.heap.size w)
 have H : ((inst_Shape.f a0).bind fun t346 => (if t346 = 3 then (if a1 < 0 then (cleatlaw04_InstMask.j0 k a3 true a0 a1 a2 0 0 0 a3 0 0 0) else (if a1 > 31 then (cleatlaw04_InstMask.j0 k a3 true a0 a1 a2 0 0 0 a3 0 0 0) else (if a2 < 0 then (cleatlaw04_InstMask.j0 k a3 true a0 a1 a2 0 0 0 a3 0 0 0) else (cleatlaw04_InstMask.j0 k a3 (decide (a2 > 31)) a0 a1 a2 0 0 0 a3 0 0 0)))) else (cleatlaw04_InstMask.j0 k a3 true a0 a1 a2 0 0 0 a3 0 0 0))) = some r := h
 clear h
 have HC5 := Aside0.mk H
 clear H
 go_enter Tryd.func11, Tryd.ntmps11
 go_upto_region 2 with (first | ((with_reducible refine gate_dst (N := 9) rfl ?_); refine box_event ?hg (N := 9) ?hd (cs := #[.int .i64 0, .int .i64 0, .int .i64 0, .int .i64 0, .int .i64 0, .int .i64 0, .int .u64 0, .int .i64 0, .int .i64 0, .int .i64 0]) (t := 37) ?hr ?_; (case hd => rfl); (case hg => rfl); (case hr => first | (go_simp; done) | (go_simp; rfl)); intro gb345 hg w6 hbox hb; have n0_ := Aside0.mk (below_step (by repeat (first | (with_reducible first | exact HB.out | apply below_alloc | apply pw_below_drewN | apply below_drew1) | exact HB.out)) hb); have n1_ := Aside0.mk (hbox); have n2_ := Aside0.mk ((by rw [hg]; exact (below_size (by repeat (first | (with_reducible first | exact HB.out | apply below_alloc | apply pw_below_drewN | apply below_drew1) | exact HB.out))) : w.heap.size ≤ gb345)); have n3_ := Aside0.mk ((by rw [hg]; exact (below_size (by repeat (first | (with_reducible first | exact HB.out | apply below_alloc | apply pw_below_drewN | apply below_drew1) | exact HB.out))) : w.heap.size ≤ gb345)); clear HB; have HB := n0_; have BK345 := n1_; have GW345 := n2_; have GE345 := n3_; clear n0_ n1_ n2_ n3_; clear hb hbox hg; obtain ⟨hcz7_0, hcz7_1, hcz7_2, hcz7_3, hcz7_4, hcz7_5, hcz7_6, hcz7_7, hcz7_8, hcz7_9⟩ := cells10_ BK345.out; have hfz7_0 := fun j => blk_frozen BK345.out j))
 (try simp only [Act.put, List.setIfInBounds_toArray, List.set_cons_zero, List.set_cons_succ])
 go_cut [33] (fun v33 wc => ∃ (kq : Nat) (x33_4 : Bool), v33 = .bool x33_4 ∧ Aside0 (cleatlaw04_InstMask.j0 kq a3 x33_4 a0 a1 a2 0 0 0 a3 0 0 0 = some r) ∧ Aside0 (kq ≤ k) ∧ Aside0 (wc.heap[gb345]? = some (.cells #[.int .i64 a0, .int .i64 a1, .int .i64 a2, .int .i64 0, .int .i64 0, .int .i64 0, .int .u64 a3, .int .i64 0, .int .i64 0, .int .i64 0] 37 (0, 0))) ∧ Aside0 (Below w.heap.size w wc))
 case first =>
  have H := HC5.out
  clear HC5
  replace H := Option.bind_eq_some_iff.mp H
  obtain ⟨t346, A80, H⟩ := H
  replace H : (if t346 = 3 then (if a1 < 0 then (cleatlaw04_InstMask.j0 k a3 true a0 a1 a2 0 0 0 a3 0 0 0) else (if a1 > 31 then (cleatlaw04_InstMask.j0 k a3 true a0 a1 a2 0 0 0 a3 0 0 0) else (if a2 < 0 then (cleatlaw04_InstMask.j0 k a3 true a0 a1 a2 0 0 0 a3 0 0 0) else (cleatlaw04_InstMask.j0 k a3 (decide (a2 > 31)) a0 a1 a2 0 0 0 a3 0 0 0)))) else (cleatlaw04_InstMask.j0 k a3 true a0 a1 a2 0 0 0 a3 0 0 0)) = some r := H
  have A8 := Aside0.mk A80
  clear A80
  by_cases c9 : t346 = 3
  ·
   rw [if_pos c9] at H
   have c9b0 : (t346 == 3) = true := beq_iff_eq.mpr c9
   have c9b1 : (t346 != 3) = false := bne_eq_false_iff_eq.mpr c9
   clear c9
   (first | rw [c9b0] | (simp only [i64_w, i32_w]; rw [c9b0]) | skip)
   by_cases c10 : a1 < 0
   ·
    rw [if_pos c10] at H
    have c10b0 : decide (a1 < 0) = true := decide_eq_true c10
    clear c10
    have H' := Aside0.mk H
    clear H
    go_wp2_with (first | ((with_reducible refine gate_callee (f := 36) rfl ?_); refine goesL_ (some 16) rfl rfl Tryd.func36 (by kernel_rfl) rfl #[.int .i64 a0] rfl (by (try simp only [List.map_toArray, List.map_cons, List.map_nil]); first | done | rfl | (simp only [List.length_drop, List.length_take]; rfl)) ?_; (with_reducible refine (inst_Shape.calls a0 t346 _ A8.out).mono ?_); rintro e w11 ⟨rfl, hb⟩; refine ⟨_, rfl, ?_⟩; have n0_ := Aside0.mk (blk_below (g := gb345) (o := .cells #[.int .i64 a0, .int .i64 a1, .int .i64 a2, .int .i64 0, .int .i64 0, .int .i64 0, .int .u64 a3, .int .i64 0, .int .i64 0, .int .i64 0] 37 (0, 0)) (by (with_reducible repeat (first | refine blk_drewN ?_ _ | refine blk_drew ?_ | refine blk_alloc ?_ _)); refine blk_put (cs := #[.int .i64 a0, .int .i64 a1, .int .i64 a2, .int .i64 0, .int .i64 0, .int .i64 0, .int .u64 a3, .int .i64 0, .int .i64 0, .int .i64 0]) ?_ 9 _ rfl; (with_reducible repeat (first | refine blk_drewN ?_ _ | refine blk_drew ?_ | refine blk_alloc ?_ _)); refine blk_put (cs := #[.int .i64 a0, .int .i64 a1, .int .i64 a2, .int .i64 0, .int .i64 0, .int .i64 0, .int .u64 a3, .int .i64 0, .int .i64 0, .int .i64 0]) ?_ 8 _ rfl; (with_reducible repeat (first | refine blk_drewN ?_ _ | refine blk_drew ?_ | refine blk_alloc ?_ _)); refine blk_put (cs := #[.int .i64 a0, .int .i64 a1, .int .i64 a2, .int .i64 0, .int .i64 0, .int .i64 0, .int .u64 a3, .int .i64 0, .int .i64 0, .int .i64 0]) ?_ 7 _ rfl; (with_reducible repeat (first | refine blk_drewN ?_ _ | refine blk_drew ?_ | refine blk_alloc ?_ _)); refine blk_put (cs := #[.int .i64 a0, .int .i64 a1, .int .i64 a2, .int .i64 0, .int .i64 0, .int .i64 0, .int .u64 0, .int .i64 0, .int .i64 0, .int .i64 0]) ?_ 6 _ rfl; (with_reducible repeat (first | refine blk_drewN ?_ _ | refine blk_drew ?_ | refine blk_alloc ?_ _)); refine blk_put (cs := #[.int .i64 a0, .int .i64 a1, .int .i64 a2, .int .i64 0, .int .i64 0, .int .i64 0, .int .u64 0, .int .i64 0, .int .i64 0, .int .i64 0]) ?_ 5 _ rfl; (with_reducible repeat (first | refine blk_drewN ?_ _ | refine blk_drew ?_ | refine blk_alloc ?_ _)); refine blk_put (cs := #[.int .i64 a0, .int .i64 a1, .int .i64 a2, .int .i64 0, .int .i64 0, .int .i64 0, .int .u64 0, .int .i64 0, .int .i64 0, .int .i64 0]) ?_ 4 _ rfl; (with_reducible repeat (first | refine blk_drewN ?_ _ | refine blk_drew ?_ | refine blk_alloc ?_ _)); refine blk_put (cs := #[.int .i64 a0, .int .i64 a1, .int .i64 a2, .int .i64 0, .int .i64 0, .int .i64 0, .int .u64 0, .int .i64 0, .int .i64 0, .int .i64 0]) ?_ 3 _ rfl; (with_reducible repeat (first | refine blk_drewN ?_ _ | refine blk_drew ?_ | refine blk_alloc ?_ _)); refine blk_put (cs := #[.int .i64 a0, .int .i64 a1, .int .i64 0, .int .i64 0, .int .i64 0, .int .i64 0, .int .u64 0, .int .i64 0, .int .i64 0, .int .i64 0]) ?_ 2 _ rfl; (with_reducible repeat (first | refine blk_drewN ?_ _ | refine blk_drew ?_ | refine blk_alloc ?_ _)); refine blk_put (cs := #[.int .i64 a0, .int .i64 0, .int .i64 0, .int .i64 0, .int .i64 0, .int .i64 0, .int .u64 0, .int .i64 0, .int .i64 0, .int .i64 0]) ?_ 1 _ rfl; (with_reducible repeat (first | refine blk_drewN ?_ _ | refine blk_drew ?_ | refine blk_alloc ?_ _)); refine blk_put (cs := #[.int .i64 0, .int .i64 0, .int .i64 0, .int .i64 0, .int .i64 0, .int .i64 0, .int .u64 0, .int .i64 0, .int .i64 0, .int .i64 0]) ?_ 0 _ rfl; (with_reducible repeat (first | refine blk_drewN ?_ _ | refine blk_drew ?_ | refine blk_alloc ?_ _)); exact BK345.out) hb); have n1_ := Aside0.mk (below_step (by repeat (first | (with_reducible first | exact HB.out | apply below_alloc | apply pw_below_drewN | apply below_drew1 | refine below_set ?_ GE345.out) | exact HB.out)) hb); clear BK345; clear HB; have BK345 := n0_; have HB := n1_; clear n0_ n1_; (try clear hb); (try clear hb2); (try clear hk); (try clear hi)))
    go_meet
    case rel => exact ⟨_, (true), (by first | rfl | (simp; done) | (simp [*]; done)), H', ⟨by first | omega | exact Nat.le_refl _⟩, ⟨by (with_reducible repeat (first | refine blk_drewN ?_ _ | refine blk_drew ?_ | refine blk_alloc ?_ _)); exact BK345.out⟩, ⟨by repeat (first | (with_reducible first | exact HB.out | apply below_alloc | apply pw_below_drewN | apply below_drew1 | refine below_set ?_ GE345.out) | exact HB.out)⟩⟩
   ·
    rw [if_neg c10] at H
    have c10b0 : decide (a1 < 0) = false := decide_eq_false c10
    clear c10
    by_cases c12 : a1 > 31
    ·
     rw [if_pos c12] at H
     have c12b0 : decide (31 < a1) = true := decide_eq_true c12
     clear c12
     have H' := Aside0.mk H
     clear H
     go_wp2_with (first | ((with_reducible refine gate_callee (f := 36) rfl ?_); refine goesL_ (some 16) rfl rfl Tryd.func36 (by kernel_rfl) rfl #[.int .i64 a0] rfl (by (try simp only [List.map_toArray, List.map_cons, List.map_nil]); first | done | rfl | (simp only [List.length_drop, List.length_take]; rfl)) ?_; (with_reducible refine (inst_Shape.calls a0 t346 _ A8.out).mono ?_); rintro e w13 ⟨rfl, hb⟩; refine ⟨_, rfl, ?_⟩; have n0_ := Aside0.mk (blk_below (g := gb345) (o := .cells #[.int .i64 a0, .int .i64 a1, .int .i64 a2, .int .i64 0, .int .i64 0, .int .i64 0, .int .u64 a3, .int .i64 0, .int .i64 0, .int .i64 0] 37 (0, 0)) (by (with_reducible repeat (first | refine blk_drewN ?_ _ | refine blk_drew ?_ | refine blk_alloc ?_ _)); refine blk_put (cs := #[.int .i64 a0, .int .i64 a1, .int .i64 a2, .int .i64 0, .int .i64 0, .int .i64 0, .int .u64 a3, .int .i64 0, .int .i64 0, .int .i64 0]) ?_ 9 _ rfl; (with_reducible repeat (first | refine blk_drewN ?_ _ | refine blk_drew ?_ | refine blk_alloc ?_ _)); refine blk_put (cs := #[.int .i64 a0, .int .i64 a1, .int .i64 a2, .int .i64 0, .int .i64 0, .int .i64 0, .int .u64 a3, .int .i64 0, .int .i64 0, .int .i64 0]) ?_ 8 _ rfl; (with_reducible repeat (first | refine blk_drewN ?_ _ | refine blk_drew ?_ | refine blk_alloc ?_ _)); refine blk_put (cs := #[.int .i64 a0, .int .i64 a1, .int .i64 a2, .int .i64 0, .int .i64 0, .int .i64 0, .int .u64 a3, .int .i64 0, .int .i64 0, .int .i64 0]) ?_ 7 _ rfl; (with_reducible repeat (first | refine blk_drewN ?_ _ | refine blk_drew ?_ | refine blk_alloc ?_ _)); refine blk_put (cs := #[.int .i64 a0, .int .i64 a1, .int .i64 a2, .int .i64 0, .int .i64 0, .int .i64 0, .int .u64 0, .int .i64 0, .int .i64 0, .int .i64 0]) ?_ 6 _ rfl; (with_reducible repeat (first | refine blk_drewN ?_ _ | refine blk_drew ?_ | refine blk_alloc ?_ _)); refine blk_put (cs := #[.int .i64 a0, .int .i64 a1, .int .i64 a2, .int .i64 0, .int .i64 0, .int .i64 0, .int .u64 0, .int .i64 0, .int .i64 0, .int .i64 0]) ?_ 5 _ rfl; (with_reducible repeat (first | refine blk_drewN ?_ _ | refine blk_drew ?_ | refine blk_alloc ?_ _)); refine blk_put (cs := #[.int .i64 a0, .int .i64 a1, .int .i64 a2, .int .i64 0, .int .i64 0, .int .i64 0, .int .u64 0, .int .i64 0, .int .i64 0, .int .i64 0]) ?_ 4 _ rfl; (with_reducible repeat (first | refine blk_drewN ?_ _ | refine blk_drew ?_ | refine blk_alloc ?_ _)); refine blk_put (cs := #[.int .i64 a0, .int .i64 a1, .int .i64 a2, .int .i64 0, .int .i64 0, .int .i64 0, .int .u64 0, .int .i64 0, .int .i64 0, .int .i64 0]) ?_ 3 _ rfl; (with_reducible repeat (first | refine blk_drewN ?_ _ | refine blk_drew ?_ | refine blk_alloc ?_ _)); refine blk_put (cs := #[.int .i64 a0, .int .i64 a1, .int .i64 0, .int .i64 0, .int .i64 0, .int .i64 0, .int .u64 0, .int .i64 0, .int .i64 0, .int .i64 0]) ?_ 2 _ rfl; (with_reducible repeat (first | refine blk_drewN ?_ _ | refine blk_drew ?_ | refine blk_alloc ?_ _)); refine blk_put (cs := #[.int .i64 a0, .int .i64 0, .int .i64 0, .int .i64 0, .int .i64 0, .int .i64 0, .int .u64 0, .int .i64 0, .int .i64 0, .int .i64 0]) ?_ 1 _ rfl; (with_reducible repeat (first | refine blk_drewN ?_ _ | refine blk_drew ?_ | refine blk_alloc ?_ _)); refine blk_put (cs := #[.int .i64 0, .int .i64 0, .int .i64 0, .int .i64 0, .int .i64 0, .int .i64 0, .int .u64 0, .int .i64 0, .int .i64 0, .int .i64 0]) ?_ 0 _ rfl; (with_reducible repeat (first | refine blk_drewN ?_ _ | refine blk_drew ?_ | refine blk_alloc ?_ _)); exact BK345.out) hb); have n1_ := Aside0.mk (below_step (by repeat (first | (with_reducible first | exact HB.out | apply below_alloc | apply pw_below_drewN | apply below_drew1 | refine below_set ?_ GE345.out) | exact HB.out)) hb); clear BK345; clear HB; have BK345 := n0_; have HB := n1_; clear n0_ n1_; (try clear hb); (try clear hb2); (try clear hk); (try clear hi)))
     go_meet
     case rel => exact ⟨_, (true), (by first | rfl | (simp; done) | (simp [*]; done)), H', ⟨by first | omega | exact Nat.le_refl _⟩, ⟨by (with_reducible repeat (first | refine blk_drewN ?_ _ | refine blk_drew ?_ | refine blk_alloc ?_ _)); exact BK345.out⟩, ⟨by repeat (first | (with_reducible first | exact HB.out | apply below_alloc | apply pw_below_drewN | apply below_drew1 | refine below_set ?_ GE345.out) | exact HB.out)⟩⟩
    ·
     rw [if_neg c12] at H
     have c12b0 : decide (31 < a1) = false := decide_eq_false c12
     clear c12
     by_cases c14 : a2 < 0
     ·
      rw [if_pos c14] at H
      have c14b0 : decide (a2 < 0) = true := decide_eq_true c14
      clear c14
      have H' := Aside0.mk H
      clear H
      go_wp2_with (first | ((with_reducible refine gate_callee (f := 36) rfl ?_); refine goesL_ (some 16) rfl rfl Tryd.func36 (by kernel_rfl) rfl #[.int .i64 a0] rfl (by (try simp only [List.map_toArray, List.map_cons, List.map_nil]); first | done | rfl | (simp only [List.length_drop, List.length_take]; rfl)) ?_; (with_reducible refine (inst_Shape.calls a0 t346 _ A8.out).mono ?_); rintro e w15 ⟨rfl, hb⟩; refine ⟨_, rfl, ?_⟩; have n0_ := Aside0.mk (blk_below (g := gb345) (o := .cells #[.int .i64 a0, .int .i64 a1, .int .i64 a2, .int .i64 0, .int .i64 0, .int .i64 0, .int .u64 a3, .int .i64 0, .int .i64 0, .int .i64 0] 37 (0, 0)) (by (with_reducible repeat (first | refine blk_drewN ?_ _ | refine blk_drew ?_ | refine blk_alloc ?_ _)); refine blk_put (cs := #[.int .i64 a0, .int .i64 a1, .int .i64 a2, .int .i64 0, .int .i64 0, .int .i64 0, .int .u64 a3, .int .i64 0, .int .i64 0, .int .i64 0]) ?_ 9 _ rfl; (with_reducible repeat (first | refine blk_drewN ?_ _ | refine blk_drew ?_ | refine blk_alloc ?_ _)); refine blk_put (cs := #[.int .i64 a0, .int .i64 a1, .int .i64 a2, .int .i64 0, .int .i64 0, .int .i64 0, .int .u64 a3, .int .i64 0, .int .i64 0, .int .i64 0]) ?_ 8 _ rfl; (with_reducible repeat (first | refine blk_drewN ?_ _ | refine blk_drew ?_ | refine blk_alloc ?_ _)); refine blk_put (cs := #[.int .i64 a0, .int .i64 a1, .int .i64 a2, .int .i64 0, .int .i64 0, .int .i64 0, .int .u64 a3, .int .i64 0, .int .i64 0, .int .i64 0]) ?_ 7 _ rfl; (with_reducible repeat (first | refine blk_drewN ?_ _ | refine blk_drew ?_ | refine blk_alloc ?_ _)); refine blk_put (cs := #[.int .i64 a0, .int .i64 a1, .int .i64 a2, .int .i64 0, .int .i64 0, .int .i64 0, .int .u64 0, .int .i64 0, .int .i64 0, .int .i64 0]) ?_ 6 _ rfl; (with_reducible repeat (first | refine blk_drewN ?_ _ | refine blk_drew ?_ | refine blk_alloc ?_ _)); refine blk_put (cs := #[.int .i64 a0, .int .i64 a1, .int .i64 a2, .int .i64 0, .int .i64 0, .int .i64 0, .int .u64 0, .int .i64 0, .int .i64 0, .int .i64 0]) ?_ 5 _ rfl; (with_reducible repeat (first | refine blk_drewN ?_ _ | refine blk_drew ?_ | refine blk_alloc ?_ _)); refine blk_put (cs := #[.int .i64 a0, .int .i64 a1, .int .i64 a2, .int .i64 0, .int .i64 0, .int .i64 0, .int .u64 0, .int .i64 0, .int .i64 0, .int .i64 0]) ?_ 4 _ rfl; (with_reducible repeat (first | refine blk_drewN ?_ _ | refine blk_drew ?_ | refine blk_alloc ?_ _)); refine blk_put (cs := #[.int .i64 a0, .int .i64 a1, .int .i64 a2, .int .i64 0, .int .i64 0, .int .i64 0, .int .u64 0, .int .i64 0, .int .i64 0, .int .i64 0]) ?_ 3 _ rfl; (with_reducible repeat (first | refine blk_drewN ?_ _ | refine blk_drew ?_ | refine blk_alloc ?_ _)); refine blk_put (cs := #[.int .i64 a0, .int .i64 a1, .int .i64 0, .int .i64 0, .int .i64 0, .int .i64 0, .int .u64 0, .int .i64 0, .int .i64 0, .int .i64 0]) ?_ 2 _ rfl; (with_reducible repeat (first | refine blk_drewN ?_ _ | refine blk_drew ?_ | refine blk_alloc ?_ _)); refine blk_put (cs := #[.int .i64 a0, .int .i64 0, .int .i64 0, .int .i64 0, .int .i64 0, .int .i64 0, .int .u64 0, .int .i64 0, .int .i64 0, .int .i64 0]) ?_ 1 _ rfl; (with_reducible repeat (first | refine blk_drewN ?_ _ | refine blk_drew ?_ | refine blk_alloc ?_ _)); refine blk_put (cs := #[.int .i64 0, .int .i64 0, .int .i64 0, .int .i64 0, .int .i64 0, .int .i64 0, .int .u64 0, .int .i64 0, .int .i64 0, .int .i64 0]) ?_ 0 _ rfl; (with_reducible repeat (first | refine blk_drewN ?_ _ | refine blk_drew ?_ | refine blk_alloc ?_ _)); exact BK345.out) hb); have n1_ := Aside0.mk (below_step (by repeat (first | (with_reducible first | exact HB.out | apply below_alloc | apply pw_below_drewN | apply below_drew1 | refine below_set ?_ GE345.out) | exact HB.out)) hb); clear BK345; clear HB; have BK345 := n0_; have HB := n1_; clear n0_ n1_; (try clear hb); (try clear hb2); (try clear hk); (try clear hi)))
      go_meet
      case rel => exact ⟨_, (true), (by first | rfl | (simp; done) | (simp [*]; done)), H', ⟨by first | omega | exact Nat.le_refl _⟩, ⟨by (with_reducible repeat (first | refine blk_drewN ?_ _ | refine blk_drew ?_ | refine blk_alloc ?_ _)); exact BK345.out⟩, ⟨by repeat (first | (with_reducible first | exact HB.out | apply below_alloc | apply pw_below_drewN | apply below_drew1 | refine below_set ?_ GE345.out) | exact HB.out)⟩⟩
     ·
      rw [if_neg c14] at H
      have c14b0 : decide (a2 < 0) = false := decide_eq_false c14
      clear c14
      have H' := Aside0.mk H
      clear H
      go_wp2_with (first | ((with_reducible refine gate_callee (f := 36) rfl ?_); refine goesL_ (some 16) rfl rfl Tryd.func36 (by kernel_rfl) rfl #[.int .i64 a0] rfl (by (try simp only [List.map_toArray, List.map_cons, List.map_nil]); first | done | rfl | (simp only [List.length_drop, List.length_take]; rfl)) ?_; (with_reducible refine (inst_Shape.calls a0 t346 _ A8.out).mono ?_); rintro e w16 ⟨rfl, hb⟩; refine ⟨_, rfl, ?_⟩; have n0_ := Aside0.mk (blk_below (g := gb345) (o := .cells #[.int .i64 a0, .int .i64 a1, .int .i64 a2, .int .i64 0, .int .i64 0, .int .i64 0, .int .u64 a3, .int .i64 0, .int .i64 0, .int .i64 0] 37 (0, 0)) (by (with_reducible repeat (first | refine blk_drewN ?_ _ | refine blk_drew ?_ | refine blk_alloc ?_ _)); refine blk_put (cs := #[.int .i64 a0, .int .i64 a1, .int .i64 a2, .int .i64 0, .int .i64 0, .int .i64 0, .int .u64 a3, .int .i64 0, .int .i64 0, .int .i64 0]) ?_ 9 _ rfl; (with_reducible repeat (first | refine blk_drewN ?_ _ | refine blk_drew ?_ | refine blk_alloc ?_ _)); refine blk_put (cs := #[.int .i64 a0, .int .i64 a1, .int .i64 a2, .int .i64 0, .int .i64 0, .int .i64 0, .int .u64 a3, .int .i64 0, .int .i64 0, .int .i64 0]) ?_ 8 _ rfl; (with_reducible repeat (first | refine blk_drewN ?_ _ | refine blk_drew ?_ | refine blk_alloc ?_ _)); refine blk_put (cs := #[.int .i64 a0, .int .i64 a1, .int .i64 a2, .int .i64 0, .int .i64 0, .int .i64 0, .int .u64 a3, .int .i64 0, .int .i64 0, .int .i64 0]) ?_ 7 _ rfl; (with_reducible repeat (first | refine blk_drewN ?_ _ | refine blk_drew ?_ | refine blk_alloc ?_ _)); refine blk_put (cs := #[.int .i64 a0, .int .i64 a1, .int .i64 a2, .int .i64 0, .int .i64 0, .int .i64 0, .int .u64 0, .int .i64 0, .int .i64 0, .int .i64 0]) ?_ 6 _ rfl; (with_reducible repeat (first | refine blk_drewN ?_ _ | refine blk_drew ?_ | refine blk_alloc ?_ _)); refine blk_put (cs := #[.int .i64 a0, .int .i64 a1, .int .i64 a2, .int .i64 0, .int .i64 0, .int .i64 0, .int .u64 0, .int .i64 0, .int .i64 0, .int .i64 0]) ?_ 5 _ rfl; (with_reducible repeat (first | refine blk_drewN ?_ _ | refine blk_drew ?_ | refine blk_alloc ?_ _)); refine blk_put (cs := #[.int .i64 a0, .int .i64 a1, .int .i64 a2, .int .i64 0, .int .i64 0, .int .i64 0, .int .u64 0, .int .i64 0, .int .i64 0, .int .i64 0]) ?_ 4 _ rfl; (with_reducible repeat (first | refine blk_drewN ?_ _ | refine blk_drew ?_ | refine blk_alloc ?_ _)); refine blk_put (cs := #[.int .i64 a0, .int .i64 a1, .int .i64 a2, .int .i64 0, .int .i64 0, .int .i64 0, .int .u64 0, .int .i64 0, .int .i64 0, .int .i64 0]) ?_ 3 _ rfl; (with_reducible repeat (first | refine blk_drewN ?_ _ | refine blk_drew ?_ | refine blk_alloc ?_ _)); refine blk_put (cs := #[.int .i64 a0, .int .i64 a1, .int .i64 0, .int .i64 0, .int .i64 0, .int .i64 0, .int .u64 0, .int .i64 0, .int .i64 0, .int .i64 0]) ?_ 2 _ rfl; (with_reducible repeat (first | refine blk_drewN ?_ _ | refine blk_drew ?_ | refine blk_alloc ?_ _)); refine blk_put (cs := #[.int .i64 a0, .int .i64 0, .int .i64 0, .int .i64 0, .int .i64 0, .int .i64 0, .int .u64 0, .int .i64 0, .int .i64 0, .int .i64 0]) ?_ 1 _ rfl; (with_reducible repeat (first | refine blk_drewN ?_ _ | refine blk_drew ?_ | refine blk_alloc ?_ _)); refine blk_put (cs := #[.int .i64 0, .int .i64 0, .int .i64 0, .int .i64 0, .int .i64 0, .int .i64 0, .int .u64 0, .int .i64 0, .int .i64 0, .int .i64 0]) ?_ 0 _ rfl; (with_reducible repeat (first | refine blk_drewN ?_ _ | refine blk_drew ?_ | refine blk_alloc ?_ _)); exact BK345.out) hb); have n1_ := Aside0.mk (below_step (by repeat (first | (with_reducible first | exact HB.out | apply below_alloc | apply pw_below_drewN | apply below_drew1 | refine below_set ?_ GE345.out) | exact HB.out)) hb); clear BK345; clear HB; have BK345 := n0_; have HB := n1_; clear n0_ n1_; (try clear hb); (try clear hb2); (try clear hk); (try clear hi)))
      go_meet
      case rel => exact ⟨_, (decide (a2 > 31)), (by first | rfl | (simp; done) | (simp [*]; done)), H', ⟨by first | omega | exact Nat.le_refl _⟩, ⟨by (with_reducible repeat (first | refine blk_drewN ?_ _ | refine blk_drew ?_ | refine blk_alloc ?_ _)); exact BK345.out⟩, ⟨by repeat (first | (with_reducible first | exact HB.out | apply below_alloc | apply pw_below_drewN | apply below_drew1 | refine below_set ?_ GE345.out) | exact HB.out)⟩⟩
  ·
   rw [if_neg c9] at H
   have c9b0 : (t346 == 3) = false := beq_eq_false_iff_ne.mpr c9
   have c9b1 : (t346 != 3) = true := bne_iff_ne.mpr c9
   (first | rw [c9b0] | (simp only [i64_w, i32_w]; rw [c9b0]) | skip)
   have H' := Aside0.mk H
   clear H
   go_wp2_with (first | ((with_reducible refine gate_callee (f := 36) rfl ?_); refine goesL_ (some 16) rfl rfl Tryd.func36 (by kernel_rfl) rfl #[.int .i64 a0] rfl (by (try simp only [List.map_toArray, List.map_cons, List.map_nil]); first | done | rfl | (simp only [List.length_drop, List.length_take]; rfl)) ?_; (with_reducible refine (inst_Shape.calls a0 t346 _ A8.out).mono ?_); rintro e w17 ⟨rfl, hb⟩; refine ⟨_, rfl, ?_⟩; have n0_ := Aside0.mk (blk_below (g := gb345) (o := .cells #[.int .i64 a0, .int .i64 a1, .int .i64 a2, .int .i64 0, .int .i64 0, .int .i64 0, .int .u64 a3, .int .i64 0, .int .i64 0, .int .i64 0] 37 (0, 0)) (by (with_reducible repeat (first | refine blk_drewN ?_ _ | refine blk_drew ?_ | refine blk_alloc ?_ _)); refine blk_put (cs := #[.int .i64 a0, .int .i64 a1, .int .i64 a2, .int .i64 0, .int .i64 0, .int .i64 0, .int .u64 a3, .int .i64 0, .int .i64 0, .int .i64 0]) ?_ 9 _ rfl; (with_reducible repeat (first | refine blk_drewN ?_ _ | refine blk_drew ?_ | refine blk_alloc ?_ _)); refine blk_put (cs := #[.int .i64 a0, .int .i64 a1, .int .i64 a2, .int .i64 0, .int .i64 0, .int .i64 0, .int .u64 a3, .int .i64 0, .int .i64 0, .int .i64 0]) ?_ 8 _ rfl; (with_reducible repeat (first | refine blk_drewN ?_ _ | refine blk_drew ?_ | refine blk_alloc ?_ _)); refine blk_put (cs := #[.int .i64 a0, .int .i64 a1, .int .i64 a2, .int .i64 0, .int .i64 0, .int .i64 0, .int .u64 a3, .int .i64 0, .int .i64 0, .int .i64 0]) ?_ 7 _ rfl; (with_reducible repeat (first | refine blk_drewN ?_ _ | refine blk_drew ?_ | refine blk_alloc ?_ _)); refine blk_put (cs := #[.int .i64 a0, .int .i64 a1, .int .i64 a2, .int .i64 0, .int .i64 0, .int .i64 0, .int .u64 0, .int .i64 0, .int .i64 0, .int .i64 0]) ?_ 6 _ rfl; (with_reducible repeat (first | refine blk_drewN ?_ _ | refine blk_drew ?_ | refine blk_alloc ?_ _)); refine blk_put (cs := #[.int .i64 a0, .int .i64 a1, .int .i64 a2, .int .i64 0, .int .i64 0, .int .i64 0, .int .u64 0, .int .i64 0, .int .i64 0, .int .i64 0]) ?_ 5 _ rfl; (with_reducible repeat (first | refine blk_drewN ?_ _ | refine blk_drew ?_ | refine blk_alloc ?_ _)); refine blk_put (cs := #[.int .i64 a0, .int .i64 a1, .int .i64 a2, .int .i64 0, .int .i64 0, .int .i64 0, .int .u64 0, .int .i64 0, .int .i64 0, .int .i64 0]) ?_ 4 _ rfl; (with_reducible repeat (first | refine blk_drewN ?_ _ | refine blk_drew ?_ | refine blk_alloc ?_ _)); refine blk_put (cs := #[.int .i64 a0, .int .i64 a1, .int .i64 a2, .int .i64 0, .int .i64 0, .int .i64 0, .int .u64 0, .int .i64 0, .int .i64 0, .int .i64 0]) ?_ 3 _ rfl; (with_reducible repeat (first | refine blk_drewN ?_ _ | refine blk_drew ?_ | refine blk_alloc ?_ _)); refine blk_put (cs := #[.int .i64 a0, .int .i64 a1, .int .i64 0, .int .i64 0, .int .i64 0, .int .i64 0, .int .u64 0, .int .i64 0, .int .i64 0, .int .i64 0]) ?_ 2 _ rfl; (with_reducible repeat (first | refine blk_drewN ?_ _ | refine blk_drew ?_ | refine blk_alloc ?_ _)); refine blk_put (cs := #[.int .i64 a0, .int .i64 0, .int .i64 0, .int .i64 0, .int .i64 0, .int .i64 0, .int .u64 0, .int .i64 0, .int .i64 0, .int .i64 0]) ?_ 1 _ rfl; (with_reducible repeat (first | refine blk_drewN ?_ _ | refine blk_drew ?_ | refine blk_alloc ?_ _)); refine blk_put (cs := #[.int .i64 0, .int .i64 0, .int .i64 0, .int .i64 0, .int .i64 0, .int .i64 0, .int .u64 0, .int .i64 0, .int .i64 0, .int .i64 0]) ?_ 0 _ rfl; (with_reducible repeat (first | refine blk_drewN ?_ _ | refine blk_drew ?_ | refine blk_alloc ?_ _)); exact BK345.out) hb); have n1_ := Aside0.mk (below_step (by repeat (first | (with_reducible first | exact HB.out | apply below_alloc | apply pw_below_drewN | apply below_drew1 | refine below_set ?_ GE345.out) | exact HB.out)) hb); clear BK345; clear HB; have BK345 := n0_; have HB := n1_; clear n0_ n1_; (try clear hb); (try clear hb2); (try clear hk); (try clear hi)))
   go_meet
   case rel => exact ⟨_, (true), (by first | rfl | (simp; done) | (simp [*]; done)), H', ⟨by first | omega | exact Nat.le_refl _⟩, ⟨by (with_reducible repeat (first | refine blk_drewN ?_ _ | refine blk_drew ?_ | refine blk_alloc ?_ _)); exact BK345.out⟩, ⟨by repeat (first | (with_reducible first | exact HB.out | apply below_alloc | apply pw_below_drewN | apply below_drew1 | refine below_set ?_ GE345.out) | exact HB.out)⟩⟩
 case rest =>
  clear HC5
  try clear c1
  try clear p2
  try clear c3
  try clear c9
  try clear c9b0
  try clear c9b1
  try clear c10
  try clear c10b0
  try clear c11
  try clear c12
  try clear c12b0
  try clear c14
  try clear c14b0
  try clear hcz7_0 hcz7_1 hcz7_2 hcz7_3 hcz7_4 hcz7_5 hcz7_6 hcz7_7 hcz7_8 hcz7_9
  try clear hfz7_0
  obtain ⟨kq, x33_4, rfl, HA, HJ4, BK345, HB⟩ := hcut
  cases kq with
  | zero => exact absurd HA.out (by simp [cleatlaw04_InstMask.j0])
  | succ kj4 =>
   have H := HA.out
   clear HA
   simp only [cleatlaw04_InstMask.j0] at H
   by_cases c18 : x33_4 = true
   ·
    subst c18
    have H1 : ((cleatlaw04_shaped.f kj4).bind fun t347 => (if t347 = true then (if a3 = 0 then (some true) else ((inst_Is.f kj4 a0 a1 a2 0 0 0 a3 0 0 0).bind fun t348 => (some (!t348)))) else (none))) = some r := by rw [if_pos rfl] at H; exact H
    clear H
    have H := H1
    clear H1
    replace H := Option.bind_eq_some_iff.mp H
    obtain ⟨t347, A190, H⟩ := H
    replace H : (if t347 = true then (if a3 = 0 then (some true) else ((inst_Is.f kj4 a0 a1 a2 0 0 0 a3 0 0 0).bind fun t348 => (some (!t348)))) else (none)) = some r := H
    have A19 := Aside0.mk A190
    clear A190
    by_cases c20 : t347 = true
    ·
     subst c20
     have H1 : (if a3 = 0 then (some true) else ((inst_Is.f kj4 a0 a1 a2 0 0 0 a3 0 0 0).bind fun t348 => (some (!t348)))) = some r := by rw [if_pos rfl] at H; exact H
     clear H
     have H := H1
     clear H1
     by_cases c21 : a3 = 0
     ·
      rw [if_pos c21] at H
      have c21b0 : (a3 == 0) = true := beq_iff_eq.mpr c21
      have c21b1 : (a3 != 0) = false := bne_eq_false_iff_eq.mpr c21
      clear c21
      obtain rfl := Option.some.inj H
      go_wp2_with (first | ((with_reducible refine gate_callee (f := 29) rfl ?_); refine goesL_ (some 34) rfl rfl Tryd.func29 (by kernel_rfl) rfl #[] rfl (by (try simp only [List.map_toArray, List.map_cons, List.map_nil]); first | done | rfl | (simp only [List.length_drop, List.length_take]; rfl)) ?_; (with_reducible refine (cleatlaw04_shaped.calls kj4  true _ A19.out).mono ?_); rintro e w22 ⟨rfl, hb⟩; refine ⟨_, rfl, ?_⟩; have n0_ := Aside0.mk (blk_below (g := gb345) (o := .cells #[.int .i64 a0, .int .i64 a1, .int .i64 a2, .int .i64 0, .int .i64 0, .int .i64 0, .int .u64 a3, .int .i64 0, .int .i64 0, .int .i64 0] 37 (0, 0)) (by (with_reducible repeat (first | refine blk_drewN ?_ _ | refine blk_drew ?_ | refine blk_alloc ?_ _)); exact BK345.out) hb); have n1_ := Aside0.mk (below_step (by repeat (first | (with_reducible first | exact HB.out | apply below_alloc | apply pw_below_drewN | apply below_drew1 | refine below_set ?_ GE345.out) | exact HB.out)) hb); clear BK345; clear HB; have BK345 := n0_; have HB := n1_; clear n0_ n1_; (try clear hb); (try clear hb2); (try clear hk); (try clear hi)))
      go_ret
      exact ⟨by first | rfl | (simp [errW_none, errW_some] <;> rfl) | (simp [*, errW_none, errW_some] <;> rfl), by repeat (first | (with_reducible first | exact HB.out | apply below_alloc | apply pw_below_drewN | apply below_drew1 | refine below_set ?_ GE345.out) | exact HB.out)⟩
     ·
      rw [if_neg c21] at H
      have c21b0 : (a3 == 0) = false := beq_eq_false_iff_ne.mpr c21
      have c21b1 : (a3 != 0) = true := bne_iff_ne.mpr c21
      replace H := Option.bind_eq_some_iff.mp H
      obtain ⟨t348, A230, H⟩ := H
      replace H : (some (!t348)) = some r := H
      have A23 := Aside0.mk A230
      clear A230
      obtain rfl := Option.some.inj H
      go_wp2_with (first | ((with_reducible refine gate_callee (f := 29) rfl ?_); refine goesL_ (some 34) rfl rfl Tryd.func29 (by kernel_rfl) rfl #[] rfl (by (try simp only [List.map_toArray, List.map_cons, List.map_nil]); first | done | rfl | (simp only [List.length_drop, List.length_take]; rfl)) ?_; (with_reducible refine (cleatlaw04_shaped.calls kj4  true _ A19.out).mono ?_); rintro e w24 ⟨rfl, hb⟩; refine ⟨_, rfl, ?_⟩; have n0_ := Aside0.mk (blk_below (g := gb345) (o := .cells #[.int .i64 a0, .int .i64 a1, .int .i64 a2, .int .i64 0, .int .i64 0, .int .i64 0, .int .u64 a3, .int .i64 0, .int .i64 0, .int .i64 0] 37 (0, 0)) (by (with_reducible repeat (first | refine blk_drewN ?_ _ | refine blk_drew ?_ | refine blk_alloc ?_ _)); exact BK345.out) hb); have n1_ := Aside0.mk (below_step (by repeat (first | (with_reducible first | exact HB.out | apply below_alloc | apply pw_below_drewN | apply below_drew1 | refine below_set ?_ GE345.out) | exact HB.out)) hb); clear BK345; clear HB; have BK345 := n0_; have HB := n1_; clear n0_ n1_; (try clear hb); (try clear hb2); (try clear hk); (try clear hi); obtain ⟨hcz25_0, hcz25_1, hcz25_2, hcz25_3, hcz25_4, hcz25_5, hcz25_6, hcz25_7, hcz25_8, hcz25_9⟩ := cells10_ BK345.out; have hfz25_0 := fun j => blk_frozen BK345.out j) | (go_at_call 30; (with_reducible refine (inst_Is.calls kj4 a0 a1 a2 0 0 0 a3 0 0 0 t348 _ A23.out).mono ?_); rintro e w26 ⟨rfl, hb⟩; have n0_ := Aside0.mk (blk_below (g := gb345) (o := .cells #[.int .i64 a0, .int .i64 a1, .int .i64 a2, .int .i64 0, .int .i64 0, .int .i64 0, .int .u64 a3, .int .i64 0, .int .i64 0, .int .i64 0] 37 (0, 0)) (by (with_reducible repeat (first | refine blk_drewN ?_ _ | refine blk_drew ?_ | refine blk_alloc ?_ _)); exact BK345.out) hb); have n1_ := Aside0.mk (below_step (by repeat (first | (with_reducible first | exact HB.out | apply below_alloc | apply pw_below_drewN | apply below_drew1 | refine below_set ?_ GE345.out) | exact HB.out)) hb); clear BK345; clear HB; have BK345 := n0_; have HB := n1_; clear n0_ n1_; (try clear hb); (try clear hb2); (try clear hk); (try clear hi)))
      go_ret
      exact ⟨by first | rfl | (simp [errW_none, errW_some] <;> rfl) | (simp [*, errW_none, errW_some] <;> rfl), by repeat (first | (with_reducible first | exact HB.out | apply below_alloc | apply pw_below_drewN | apply below_drew1 | refine below_set ?_ GE345.out) | exact HB.out)⟩
    ·
     replace c20 := Bool.eq_false_iff.mpr c20
     subst c20
     have H1 : (none) = some r := by rw [if_neg (show ¬ (false = true) by decide)] at H; exact H
     clear H
     have H := H1
     clear H1
     exact absurd H (by simp)
   ·
    replace c18 := Bool.eq_false_iff.mpr c18
    subst c18
    have H1 : ((cleatlaw04_shaped.f kj4).bind fun t349 => (if t349 = true then ((inst_Is.f kj4 a0 a1 a2 0 0 0 a3 0 0 0).bind fun t350 => ((mask_Is.f kj4 a3).bind fun t351 => (some (t350 == t351)))) else (none))) = some r := by rw [if_neg (show ¬ (false = true) by decide)] at H; exact H
    clear H
    have H := H1
    clear H1
    replace H := Option.bind_eq_some_iff.mp H
    obtain ⟨t349, A270, H⟩ := H
    replace H : (if t349 = true then ((inst_Is.f kj4 a0 a1 a2 0 0 0 a3 0 0 0).bind fun t350 => ((mask_Is.f kj4 a3).bind fun t351 => (some (t350 == t351)))) else (none)) = some r := H
    have A27 := Aside0.mk A270
    clear A270
    by_cases c28 : t349 = true
    ·
     subst c28
     have H1 : ((inst_Is.f kj4 a0 a1 a2 0 0 0 a3 0 0 0).bind fun t350 => ((mask_Is.f kj4 a3).bind fun t351 => (some (t350 == t351)))) = some r := by rw [if_pos rfl] at H; exact H
     clear H
     have H := H1
     clear H1
     replace H := Option.bind_eq_some_iff.mp H
     obtain ⟨t350, A290, H⟩ := H
     replace H : ((mask_Is.f kj4 a3).bind fun t351 => (some (t350 == t351))) = some r := H
     have A29 := Aside0.mk A290
     clear A290
     replace H := Option.bind_eq_some_iff.mp H
     obtain ⟨t351, A300, H⟩ := H
     replace H : (some (t350 == t351)) = some r := H
     have A30 := Aside0.mk A300
     clear A300
     obtain rfl := Option.some.inj H
     go_wp2_with (first | ((with_reducible refine gate_callee (f := 29) rfl ?_); refine goesL_ (some 44) rfl rfl Tryd.func29 (by kernel_rfl) rfl #[] rfl (by (try simp only [List.map_toArray, List.map_cons, List.map_nil]); first | done | rfl | (simp only [List.length_drop, List.length_take]; rfl)) ?_; (with_reducible refine (cleatlaw04_shaped.calls kj4  true _ A27.out).mono ?_); rintro e w31 ⟨rfl, hb⟩; refine ⟨_, rfl, ?_⟩; have n0_ := Aside0.mk (blk_below (g := gb345) (o := .cells #[.int .i64 a0, .int .i64 a1, .int .i64 a2, .int .i64 0, .int .i64 0, .int .i64 0, .int .u64 a3, .int .i64 0, .int .i64 0, .int .i64 0] 37 (0, 0)) (by (with_reducible repeat (first | refine blk_drewN ?_ _ | refine blk_drew ?_ | refine blk_alloc ?_ _)); exact BK345.out) hb); have n1_ := Aside0.mk (below_step (by repeat (first | (with_reducible first | exact HB.out | apply below_alloc | apply pw_below_drewN | apply below_drew1 | refine below_set ?_ GE345.out) | exact HB.out)) hb); clear BK345; clear HB; have BK345 := n0_; have HB := n1_; clear n0_ n1_; (try clear hb); (try clear hb2); (try clear hk); (try clear hi); obtain ⟨hcz32_0, hcz32_1, hcz32_2, hcz32_3, hcz32_4, hcz32_5, hcz32_6, hcz32_7, hcz32_8, hcz32_9⟩ := cells10_ BK345.out; have hfz32_0 := fun j => blk_frozen BK345.out j) | (go_at_call 30; (with_reducible refine (inst_Is.calls kj4 a0 a1 a2 0 0 0 a3 0 0 0 t350 _ A29.out).mono ?_); rintro e w33 ⟨rfl, hb⟩; have n0_ := Aside0.mk (blk_below (g := gb345) (o := .cells #[.int .i64 a0, .int .i64 a1, .int .i64 a2, .int .i64 0, .int .i64 0, .int .i64 0, .int .u64 a3, .int .i64 0, .int .i64 0, .int .i64 0] 37 (0, 0)) (by (with_reducible repeat (first | refine blk_drewN ?_ _ | refine blk_drew ?_ | refine blk_alloc ?_ _)); exact BK345.out) hb); have n1_ := Aside0.mk (below_step (by repeat (first | (with_reducible first | exact HB.out | apply below_alloc | apply pw_below_drewN | apply below_drew1 | refine below_set ?_ GE345.out) | exact HB.out)) hb); clear BK345; clear HB; have BK345 := n0_; have HB := n1_; clear n0_ n1_; (try clear hb); (try clear hb2); (try clear hk); (try clear hi)) | (go_at_call 19; (with_reducible refine (mask_Is.calls kj4 a3 t351 _ A30.out).mono ?_); rintro e w34 ⟨rfl, hb⟩; have n0_ := Aside0.mk (blk_below (g := gb345) (o := .cells #[.int .i64 a0, .int .i64 a1, .int .i64 a2, .int .i64 0, .int .i64 0, .int .i64 0, .int .u64 a3, .int .i64 0, .int .i64 0, .int .i64 0] 37 (0, 0)) (by (with_reducible repeat (first | refine blk_drewN ?_ _ | refine blk_drew ?_ | refine blk_alloc ?_ _)); exact BK345.out) hb); have n1_ := Aside0.mk (below_step (by repeat (first | (with_reducible first | exact HB.out | apply below_alloc | apply pw_below_drewN | apply below_drew1 | refine below_set ?_ GE345.out) | exact HB.out)) hb); clear BK345; clear HB; have BK345 := n0_; have HB := n1_; clear n0_ n1_; (try clear hb); (try clear hb2); (try clear hk); (try clear hi)))
     go_ret
     exact ⟨by first | rfl | (simp [errW_none, errW_some] <;> rfl) | (simp [*, errW_none, errW_some] <;> rfl), by repeat (first | (with_reducible first | exact HB.out | apply below_alloc | apply pw_below_drewN | apply below_drew1 | refine below_set ?_ GE345.out) | exact HB.out)⟩
    ·
     replace c28 := Bool.eq_false_iff.mpr c28
     subst c28
     have H1 : (none) = some r := by rw [if_neg (show ¬ (false = true) by decide)] at H; exact H
     clear H
     have H := H1
     clear H1
     exact absurd H (by simp)

/-- THE ONE PURE STATEMENT of cleatlaw04_InstMask: yours. -/
def cleatlaw04_InstMask.Pure : Prop := ∀ (a0 : Int) (a1 : Int) (a2 : Int) (a3 : Int), (Lit.int .i64 a0).wf = true → (Lit.int .i64 a1).wf = true → (Lit.int .i64 a2).wf = true → (Lit.int .u64 a3).wf = true → ∃ k, cleatlaw04_InstMask.f k a0 a1 a2 a3 = some true
theorem cleatlaw04_InstMask.walk (P : cleatlaw04_InstMask.Pure) (a0 : Int) (a1 : Int) (a2 : Int) (a3 : Int) (w : World) (w0 : (Lit.int .i64 a0).wf = true) (w1 : (Lit.int .i64 a1).wf = true) (w2 : (Lit.int .i64 a2).wf = true) (w3 : (Lit.int .u64 a3).wf = true) (hTab : TabW w) :
    Calls Tryd.prog 11 #[.int .i64 a0, .int .i64 a1, .int .i64 a2, .int .u64 a3] w fun e w' => e = .returned (.bool true) ∧ Below w.heap.size w w' := by
 obtain ⟨k, h⟩ := P a0 a1 a2 a3 w0 w1 w2 w3
 refine (cleatlaw04_InstMask.calls k a0 a1 a2 a3 true w h).mono ?_
 rintro e w' ⟨rfl, hd⟩
 exact ⟨rfl, hd⟩

/-! ### cleatref04_names: function 69 -/
def cleatref04_names.f  : Option (List ByteArray) := some (([(⟨#[]⟩ : ByteArray), (⟨#[109, 111, 118, 122]⟩ : ByteArray), (⟨#[109, 111, 118, 110]⟩ : ByteArray), (⟨#[109, 111, 118, 107]⟩ : ByteArray), (⟨#[97, 100, 100]⟩ : ByteArray), (⟨#[115, 117, 98]⟩ : ByteArray), (⟨#[97, 100, 100, 115]⟩ : ByteArray), (⟨#[115, 117, 98, 115]⟩ : ByteArray), (⟨#[97, 110, 100]⟩ : ByteArray), (⟨#[111, 114, 114]⟩ : ByteArray), (⟨#[101, 111, 114]⟩ : ByteArray), (⟨#[97, 110, 100, 115]⟩ : ByteArray), (⟨#[97, 100, 100]⟩ : ByteArray), (⟨#[115, 117, 98]⟩ : ByteArray), (⟨#[97, 100, 100, 115]⟩ : ByteArray), (⟨#[115, 117, 98, 115]⟩ : ByteArray), (⟨#[97, 110, 100]⟩ : ByteArray), (⟨#[111, 114, 114]⟩ : ByteArray), (⟨#[101, 111, 114]⟩ : ByteArray), (⟨#[97, 110, 100, 115]⟩ : ByteArray), (⟨#[109, 97, 100, 100]⟩ : ByteArray), (⟨#[109, 115, 117, 98]⟩ : ByteArray), (⟨#[108, 100, 114]⟩ : ByteArray), (⟨#[115, 116, 114]⟩ : ByteArray), (⟨#[108, 100, 114, 98]⟩ : ByteArray), (⟨#[115, 116, 114, 98]⟩ : ByteArray), (⟨#[108, 100, 114]⟩ : ByteArray), (⟨#[97, 100, 114]⟩ : ByteArray), (⟨#[97, 100, 114, 112]⟩ : ByteArray), (⟨#[98]⟩ : ByteArray), (⟨#[98, 108]⟩ : ByteArray), (⟨#[98]⟩ : ByteArray), (⟨#[99, 98, 122]⟩ : ByteArray), (⟨#[99, 98, 110, 122]⟩ : ByteArray), (⟨#[98, 114]⟩ : ByteArray), (⟨#[98, 108, 114]⟩ : ByteArray), (⟨#[114, 101, 116]⟩ : ByteArray), (⟨#[115, 118, 99]⟩ : ByteArray), (⟨#[110, 111, 112]⟩ : ByteArray), (⟨#[99, 115, 101, 108]⟩ : ByteArray)] : List ByteArray))
set_option maxHeartbeats 8000000 in
set_option maxRecDepth 100000 in
theorem cleatref04_names.calls  (r : List ByteArray) (w : World) (h : cleatref04_names.f  = some r) :
    Calls Tryd.prog 69 #[] w fun e w' => ∃ v0_ : Value, e = .returned (v0_) ∧ Kd.R Kd.string 9 w' w.heap.size (fun _ => True) v0_ r ∧ Below w.heap.size w w' := by
 have HB := Aside0.mk (Below.refl w.heap.size w)
 have H : (some (([(⟨#[]⟩ : ByteArray), (⟨#[109, 111, 118, 122]⟩ : ByteArray), (⟨#[109, 111, 118, 110]⟩ : ByteArray), (⟨#[109, 111, 118, 107]⟩ : ByteArray), (⟨#[97, 100, 100]⟩ : ByteArray), (⟨#[115, 117, 98]⟩ : ByteArray), (⟨#[97, 100, 100, 115]⟩ : ByteArray), (⟨#[115, 117, 98, 115]⟩ : ByteArray), (⟨#[97, 110, 100]⟩ : ByteArray), (⟨#[111, 114, 114]⟩ : ByteArray), (⟨#[101, 111, 114]⟩ : ByteArray), (⟨#[97, 110, 100, 115]⟩ : ByteArray), (⟨#[97, 100, 100]⟩ : ByteArray), (⟨#[115, 117, 98]⟩ : ByteArray), (⟨#[97, 100, 100, 115]⟩ : ByteArray), (⟨#[115, 117, 98, 115]⟩ : ByteArray), (⟨#[97, 110, 100]⟩ : ByteArray), (⟨#[111, 114, 114]⟩ : ByteArray), (⟨#[101, 111, 114]⟩ : ByteArray), (⟨#[97, 110, 100, 115]⟩ : ByteArray), (⟨#[109, 97, 100, 100]⟩ : ByteArray), (⟨#[109, 115, 117, 98]⟩ : ByteArray), (⟨#[108, 100, 114]⟩ : ByteArray), (⟨#[115, 116, 114]⟩ : ByteArray), (⟨#[108, 100, 114, 98]⟩ : ByteArray), (⟨#[115, 116, 114, 98]⟩ : ByteArray), (⟨#[108, 100, 114]⟩ : ByteArray), (⟨#[97, 100, 114]⟩ : ByteArray), (⟨#[97, 100, 114, 112]⟩ : ByteArray), (⟨#[98]⟩ : ByteArray), (⟨#[98, 108]⟩ : ByteArray), (⟨#[98]⟩ : ByteArray), (⟨#[99, 98, 122]⟩ : ByteArray), (⟨#[99, 98, 110, 122]⟩ : ByteArray), (⟨#[98, 114]⟩ : ByteArray), (⟨#[98, 108, 114]⟩ : ByteArray), (⟨#[114, 101, 116]⟩ : ByteArray), (⟨#[115, 118, 99]⟩ : ByteArray), (⟨#[110, 111, 112]⟩ : ByteArray), (⟨#[99, 115, 101, 108]⟩ : ByteArray)] : List ByteArray))) = some r := h
 clear h
 obtain ⟨y352, hy352⟩ : ∃ y_ : List ByteArray, y_ = (([(⟨#[]⟩ : ByteArray), (⟨#[109, 111, 118, 122]⟩ : ByteArray), (⟨#[109, 111, 118, 110]⟩ : ByteArray), (⟨#[109, 111, 118, 107]⟩ : ByteArray), (⟨#[97, 100, 100]⟩ : ByteArray), (⟨#[115, 117, 98]⟩ : ByteArray), (⟨#[97, 100, 100, 115]⟩ : ByteArray), (⟨#[115, 117, 98, 115]⟩ : ByteArray), (⟨#[97, 110, 100]⟩ : ByteArray), (⟨#[111, 114, 114]⟩ : ByteArray), (⟨#[101, 111, 114]⟩ : ByteArray), (⟨#[97, 110, 100, 115]⟩ : ByteArray), (⟨#[97, 100, 100]⟩ : ByteArray), (⟨#[115, 117, 98]⟩ : ByteArray), (⟨#[97, 100, 100, 115]⟩ : ByteArray), (⟨#[115, 117, 98, 115]⟩ : ByteArray), (⟨#[97, 110, 100]⟩ : ByteArray), (⟨#[111, 114, 114]⟩ : ByteArray), (⟨#[101, 111, 114]⟩ : ByteArray), (⟨#[97, 110, 100, 115]⟩ : ByteArray), (⟨#[109, 97, 100, 100]⟩ : ByteArray), (⟨#[109, 115, 117, 98]⟩ : ByteArray), (⟨#[108, 100, 114]⟩ : ByteArray), (⟨#[115, 116, 114]⟩ : ByteArray), (⟨#[108, 100, 114, 98]⟩ : ByteArray), (⟨#[115, 116, 114, 98]⟩ : ByteArray), (⟨#[108, 100, 114]⟩ : ByteArray), (⟨#[97, 100, 114]⟩ : ByteArray), (⟨#[97, 100, 114, 112]⟩ : ByteArray), (⟨#[98]⟩ : ByteArray), (⟨#[98, 108]⟩ : ByteArray), (⟨#[98]⟩ : ByteArray), (⟨#[99, 98, 122]⟩ : ByteArray), (⟨#[99, 98, 110, 122]⟩ : ByteArray), (⟨#[98, 114]⟩ : ByteArray), (⟨#[98, 108, 114]⟩ : ByteArray), (⟨#[114, 101, 116]⟩ : ByteArray), (⟨#[115, 118, 99]⟩ : ByteArray), (⟨#[110, 111, 112]⟩ : ByteArray), (⟨#[99, 115, 101, 108]⟩ : ByteArray)] : List ByteArray)) := ⟨_, rfl⟩
 replace H : (some y352) = some r := by first | (rw [hy352]; with_reducible exact H) | (have H2_ := (Option.bind_some _ _).symm.trans H; rw [hy352]; with_reducible exact H2_) | (have H2_ := (Option.bind_some _ _).symm.trans H; with_reducible exact H2_) | with_reducible exact H | (rw [hy352]; exact H) | exact H
 have Ny352 := Aside0.mk hy352
 clear hy352
 obtain rfl := Option.some.inj H
 go_enter Tryd.func69, Tryd.ntmps69
 go_wp2_with (first | ((with_reducible refine gate_dst (N := 1) rfl ?_); refine Kd.R_lit Kd.string _ 9 ?hg (N := 1) ?hd (xs := ([(⟨#[]⟩ : ByteArray), (⟨#[109, 111, 118, 122]⟩ : ByteArray), (⟨#[109, 111, 118, 110]⟩ : ByteArray), (⟨#[109, 111, 118, 107]⟩ : ByteArray), (⟨#[97, 100, 100]⟩ : ByteArray), (⟨#[115, 117, 98]⟩ : ByteArray), (⟨#[97, 100, 100, 115]⟩ : ByteArray), (⟨#[115, 117, 98, 115]⟩ : ByteArray), (⟨#[97, 110, 100]⟩ : ByteArray), (⟨#[111, 114, 114]⟩ : ByteArray), (⟨#[101, 111, 114]⟩ : ByteArray), (⟨#[97, 110, 100, 115]⟩ : ByteArray), (⟨#[97, 100, 100]⟩ : ByteArray), (⟨#[115, 117, 98]⟩ : ByteArray), (⟨#[97, 100, 100, 115]⟩ : ByteArray), (⟨#[115, 117, 98, 115]⟩ : ByteArray), (⟨#[97, 110, 100]⟩ : ByteArray), (⟨#[111, 114, 114]⟩ : ByteArray), (⟨#[101, 111, 114]⟩ : ByteArray), (⟨#[97, 110, 100, 115]⟩ : ByteArray), (⟨#[109, 97, 100, 100]⟩ : ByteArray), (⟨#[109, 115, 117, 98]⟩ : ByteArray), (⟨#[108, 100, 114]⟩ : ByteArray), (⟨#[115, 116, 114]⟩ : ByteArray), (⟨#[108, 100, 114, 98]⟩ : ByteArray), (⟨#[115, 116, 114, 98]⟩ : ByteArray), (⟨#[108, 100, 114]⟩ : ByteArray), (⟨#[97, 100, 114]⟩ : ByteArray), (⟨#[97, 100, 114, 112]⟩ : ByteArray), (⟨#[98]⟩ : ByteArray), (⟨#[98, 108]⟩ : ByteArray), (⟨#[98]⟩ : ByteArray), (⟨#[99, 98, 122]⟩ : ByteArray), (⟨#[99, 98, 110, 122]⟩ : ByteArray), (⟨#[98, 114]⟩ : ByteArray), (⟨#[98, 108, 114]⟩ : ByteArray), (⟨#[114, 101, 116]⟩ : ByteArray), (⟨#[115, 118, 99]⟩ : ByteArray), (⟨#[110, 111, 112]⟩ : ByteArray), (⟨#[99, 115, 101, 108]⟩ : ByteArray)] : List ByteArray)) (inner := [.string (⟨#[]⟩ : ByteArray), .string (⟨#[109, 111, 118, 122]⟩ : ByteArray), .string (⟨#[109, 111, 118, 110]⟩ : ByteArray), .string (⟨#[109, 111, 118, 107]⟩ : ByteArray), .string (⟨#[97, 100, 100]⟩ : ByteArray), .string (⟨#[115, 117, 98]⟩ : ByteArray), .string (⟨#[97, 100, 100, 115]⟩ : ByteArray), .string (⟨#[115, 117, 98, 115]⟩ : ByteArray), .string (⟨#[97, 110, 100]⟩ : ByteArray), .string (⟨#[111, 114, 114]⟩ : ByteArray), .string (⟨#[101, 111, 114]⟩ : ByteArray), .string (⟨#[97, 110, 100, 115]⟩ : ByteArray), .string (⟨#[97, 100, 100]⟩ : ByteArray), .string (⟨#[115, 117, 98]⟩ : ByteArray), .string (⟨#[97, 100, 100, 115]⟩ : ByteArray), .string (⟨#[115, 117, 98, 115]⟩ : ByteArray), .string (⟨#[97, 110, 100]⟩ : ByteArray), .string (⟨#[111, 114, 114]⟩ : ByteArray), .string (⟨#[101, 111, 114]⟩ : ByteArray), .string (⟨#[97, 110, 100, 115]⟩ : ByteArray), .string (⟨#[109, 97, 100, 100]⟩ : ByteArray), .string (⟨#[109, 115, 117, 98]⟩ : ByteArray), .string (⟨#[108, 100, 114]⟩ : ByteArray), .string (⟨#[115, 116, 114]⟩ : ByteArray), .string (⟨#[108, 100, 114, 98]⟩ : ByteArray), .string (⟨#[115, 116, 114, 98]⟩ : ByteArray), .string (⟨#[108, 100, 114]⟩ : ByteArray), .string (⟨#[97, 100, 114]⟩ : ByteArray), .string (⟨#[97, 100, 114, 112]⟩ : ByteArray), .string (⟨#[98]⟩ : ByteArray), .string (⟨#[98, 108]⟩ : ByteArray), .string (⟨#[98]⟩ : ByteArray), .string (⟨#[99, 98, 122]⟩ : ByteArray), .string (⟨#[99, 98, 110, 122]⟩ : ByteArray), .string (⟨#[98, 114]⟩ : ByteArray), .string (⟨#[98, 108, 114]⟩ : ByteArray), .string (⟨#[114, 101, 116]⟩ : ByteArray), .string (⟨#[115, 118, 99]⟩ : ByteArray), .string (⟨#[110, 111, 112]⟩ : ByteArray), .string (⟨#[99, 115, 101, 108]⟩ : ByteArray)]) (ok := fun _ => True) (okp := fun _ => True) ?hr ?hp (fun _ hk => hk) trivial (Below.refl _ _) (Nat.le_refl _) (by simp) ?_; (case hd => rfl); (case hg => rfl); (case hr => first | (go_simp; done) | (go_simp; rfl)); (case hp => exact (Reps.one (show Kd.M Kd.string _ _ _ (⟨#[]⟩ : ByteArray) [.string (⟨#[]⟩ : ByteArray)] from rfl) (Reps.one (show Kd.M Kd.string _ _ _ (⟨#[109, 111, 118, 122]⟩ : ByteArray) [.string (⟨#[109, 111, 118, 122]⟩ : ByteArray)] from rfl) (Reps.one (show Kd.M Kd.string _ _ _ (⟨#[109, 111, 118, 110]⟩ : ByteArray) [.string (⟨#[109, 111, 118, 110]⟩ : ByteArray)] from rfl) (Reps.one (show Kd.M Kd.string _ _ _ (⟨#[109, 111, 118, 107]⟩ : ByteArray) [.string (⟨#[109, 111, 118, 107]⟩ : ByteArray)] from rfl) (Reps.one (show Kd.M Kd.string _ _ _ (⟨#[97, 100, 100]⟩ : ByteArray) [.string (⟨#[97, 100, 100]⟩ : ByteArray)] from rfl) (Reps.one (show Kd.M Kd.string _ _ _ (⟨#[115, 117, 98]⟩ : ByteArray) [.string (⟨#[115, 117, 98]⟩ : ByteArray)] from rfl) (Reps.one (show Kd.M Kd.string _ _ _ (⟨#[97, 100, 100, 115]⟩ : ByteArray) [.string (⟨#[97, 100, 100, 115]⟩ : ByteArray)] from rfl) (Reps.one (show Kd.M Kd.string _ _ _ (⟨#[115, 117, 98, 115]⟩ : ByteArray) [.string (⟨#[115, 117, 98, 115]⟩ : ByteArray)] from rfl) (Reps.one (show Kd.M Kd.string _ _ _ (⟨#[97, 110, 100]⟩ : ByteArray) [.string (⟨#[97, 110, 100]⟩ : ByteArray)] from rfl) (Reps.one (show Kd.M Kd.string _ _ _ (⟨#[111, 114, 114]⟩ : ByteArray) [.string (⟨#[111, 114, 114]⟩ : ByteArray)] from rfl) (Reps.one (show Kd.M Kd.string _ _ _ (⟨#[101, 111, 114]⟩ : ByteArray) [.string (⟨#[101, 111, 114]⟩ : ByteArray)] from rfl) (Reps.one (show Kd.M Kd.string _ _ _ (⟨#[97, 110, 100, 115]⟩ : ByteArray) [.string (⟨#[97, 110, 100, 115]⟩ : ByteArray)] from rfl) (Reps.one (show Kd.M Kd.string _ _ _ (⟨#[97, 100, 100]⟩ : ByteArray) [.string (⟨#[97, 100, 100]⟩ : ByteArray)] from rfl) (Reps.one (show Kd.M Kd.string _ _ _ (⟨#[115, 117, 98]⟩ : ByteArray) [.string (⟨#[115, 117, 98]⟩ : ByteArray)] from rfl) (Reps.one (show Kd.M Kd.string _ _ _ (⟨#[97, 100, 100, 115]⟩ : ByteArray) [.string (⟨#[97, 100, 100, 115]⟩ : ByteArray)] from rfl) (Reps.one (show Kd.M Kd.string _ _ _ (⟨#[115, 117, 98, 115]⟩ : ByteArray) [.string (⟨#[115, 117, 98, 115]⟩ : ByteArray)] from rfl) (Reps.one (show Kd.M Kd.string _ _ _ (⟨#[97, 110, 100]⟩ : ByteArray) [.string (⟨#[97, 110, 100]⟩ : ByteArray)] from rfl) (Reps.one (show Kd.M Kd.string _ _ _ (⟨#[111, 114, 114]⟩ : ByteArray) [.string (⟨#[111, 114, 114]⟩ : ByteArray)] from rfl) (Reps.one (show Kd.M Kd.string _ _ _ (⟨#[101, 111, 114]⟩ : ByteArray) [.string (⟨#[101, 111, 114]⟩ : ByteArray)] from rfl) (Reps.one (show Kd.M Kd.string _ _ _ (⟨#[97, 110, 100, 115]⟩ : ByteArray) [.string (⟨#[97, 110, 100, 115]⟩ : ByteArray)] from rfl) (Reps.one (show Kd.M Kd.string _ _ _ (⟨#[109, 97, 100, 100]⟩ : ByteArray) [.string (⟨#[109, 97, 100, 100]⟩ : ByteArray)] from rfl) (Reps.one (show Kd.M Kd.string _ _ _ (⟨#[109, 115, 117, 98]⟩ : ByteArray) [.string (⟨#[109, 115, 117, 98]⟩ : ByteArray)] from rfl) (Reps.one (show Kd.M Kd.string _ _ _ (⟨#[108, 100, 114]⟩ : ByteArray) [.string (⟨#[108, 100, 114]⟩ : ByteArray)] from rfl) (Reps.one (show Kd.M Kd.string _ _ _ (⟨#[115, 116, 114]⟩ : ByteArray) [.string (⟨#[115, 116, 114]⟩ : ByteArray)] from rfl) (Reps.one (show Kd.M Kd.string _ _ _ (⟨#[108, 100, 114, 98]⟩ : ByteArray) [.string (⟨#[108, 100, 114, 98]⟩ : ByteArray)] from rfl) (Reps.one (show Kd.M Kd.string _ _ _ (⟨#[115, 116, 114, 98]⟩ : ByteArray) [.string (⟨#[115, 116, 114, 98]⟩ : ByteArray)] from rfl) (Reps.one (show Kd.M Kd.string _ _ _ (⟨#[108, 100, 114]⟩ : ByteArray) [.string (⟨#[108, 100, 114]⟩ : ByteArray)] from rfl) (Reps.one (show Kd.M Kd.string _ _ _ (⟨#[97, 100, 114]⟩ : ByteArray) [.string (⟨#[97, 100, 114]⟩ : ByteArray)] from rfl) (Reps.one (show Kd.M Kd.string _ _ _ (⟨#[97, 100, 114, 112]⟩ : ByteArray) [.string (⟨#[97, 100, 114, 112]⟩ : ByteArray)] from rfl) (Reps.one (show Kd.M Kd.string _ _ _ (⟨#[98]⟩ : ByteArray) [.string (⟨#[98]⟩ : ByteArray)] from rfl) (Reps.one (show Kd.M Kd.string _ _ _ (⟨#[98, 108]⟩ : ByteArray) [.string (⟨#[98, 108]⟩ : ByteArray)] from rfl) (Reps.one (show Kd.M Kd.string _ _ _ (⟨#[98]⟩ : ByteArray) [.string (⟨#[98]⟩ : ByteArray)] from rfl) (Reps.one (show Kd.M Kd.string _ _ _ (⟨#[99, 98, 122]⟩ : ByteArray) [.string (⟨#[99, 98, 122]⟩ : ByteArray)] from rfl) (Reps.one (show Kd.M Kd.string _ _ _ (⟨#[99, 98, 110, 122]⟩ : ByteArray) [.string (⟨#[99, 98, 110, 122]⟩ : ByteArray)] from rfl) (Reps.one (show Kd.M Kd.string _ _ _ (⟨#[98, 114]⟩ : ByteArray) [.string (⟨#[98, 114]⟩ : ByteArray)] from rfl) (Reps.one (show Kd.M Kd.string _ _ _ (⟨#[98, 108, 114]⟩ : ByteArray) [.string (⟨#[98, 108, 114]⟩ : ByteArray)] from rfl) (Reps.one (show Kd.M Kd.string _ _ _ (⟨#[114, 101, 116]⟩ : ByteArray) [.string (⟨#[114, 101, 116]⟩ : ByteArray)] from rfl) (Reps.one (show Kd.M Kd.string _ _ _ (⟨#[115, 118, 99]⟩ : ByteArray) [.string (⟨#[115, 118, 99]⟩ : ByteArray)] from rfl) (Reps.one (show Kd.M Kd.string _ _ _ (⟨#[110, 111, 112]⟩ : ByteArray) [.string (⟨#[110, 111, 112]⟩ : ByteArray)] from rfl) (Reps.one (show Kd.M Kd.string _ _ _ (⟨#[99, 115, 101, 108]⟩ : ByteArray) [.string (⟨#[99, 115, 101, 108]⟩ : ByteArray)] from rfl) (Reps.none _ _)))))))))))))))))))))))))))))))))))))))))); intro v353 w1 ho2 hb hg_ hnew_; clear hg_ hnew_; (first | rw [← Ny352.out] at ho2 | (simp only [Int.reduceToNat] at ho2; rw [← Ny352.out] at ho2)); have n0_ := Aside0.mk (Kd.R_lower ho2 (below_size (by repeat (first | (with_reducible first | exact HB.out | apply below_alloc | apply pw_below_drewN | apply below_drew1) | exact HB.out)))); have n1_ := Aside0.mk (below_step (by repeat (first | (with_reducible first | exact HB.out | apply below_alloc | apply pw_below_drewN | apply below_drew1) | exact HB.out)) hb); clear HB; have HO354 := n0_; have HB := n1_; clear n0_ n1_; clear hb ho2))
 go_ret
 exact ⟨_, by first | rfl | (simp [errW_none, errW_some] <;> rfl) | (simp [*, errW_none, errW_some] <;> rfl), by (with_reducible repeat (first | apply Kd.R_alloc | apply Kd.R_drewN | apply Kd.R_drew)); exact HO354.out, by repeat (first | (with_reducible first | exact HB.out | apply below_alloc | apply pw_below_drewN | apply below_drew1) | exact HB.out)⟩

/-! ### cleatref04_Name: function 39 -/
def cleatref04_Name.f (k : Nat) (a0 : Int) : Option (ByteArray × Int) := (cleatref04_Shape.f k a0).bind fun t355 => (if t355 = 0 then (some ((⟨#[]⟩ : ByteArray), 1)) else ((cleatref04_names.f).bind fun t356 => (if 0 ≤ a0 then (if a0 < (t356.length : Int) then (some (rdOf ByteArray.empty t356 a0, 0)) else (none)) else (none))))
theorem cleatref04_Name.mono : ∀ a0 k, LeO (cleatref04_Name.f k a0) (cleatref04_Name.f (k + 1) a0) := by
 intro a0 k
 unfold cleatref04_Name.f
 repeat' first
   | (with_reducible exact cleatref04_Shape.mono _ _)
   | (with_reducible exact LeO.refl _)
   | (with_reducible exact LeO.none _)
   | (with_reducible refine LeO.ite ?_ ?_)
   | (with_reducible refine LeO.bind ?_ (fun _ => ?_))
   | exact cleatref04_Shape.mono _ _
   | exact LeO.none _
   | refine LeO.ite ?_ ?_
   | refine LeO.bind ?_ (fun _ => ?_)
set_option maxHeartbeats 8000000 in
set_option maxRecDepth 100000 in
theorem cleatref04_Name.calls (k : Nat) (a0 : Int) (r1 : ByteArray) (r2 : Int) (w : World) (h : cleatref04_Name.f k a0 = some (r1, r2)) :
    Calls Tryd.prog 39 #[.int .i64 a0] w fun e w' => e = .returned (.tuple #[.string r1, .int .i64 r2]) ∧ Below w.heap.size w w' := by
 have HB := Aside0.mk (Below.refl w.heap.size w)
 have H : ((cleatref04_Shape.f k a0).bind fun t355 => (if t355 = 0 then (some ((⟨#[]⟩ : ByteArray), 1)) else ((cleatref04_names.f).bind fun t356 => (if 0 ≤ a0 then (if a0 < (t356.length : Int) then (some (rdOf ByteArray.empty t356 a0, 0)) else (none)) else (none))))) = some (r1, r2) := h
 clear h
 replace H := Option.bind_eq_some_iff.mp H
 obtain ⟨t355, A20, H⟩ := H
 replace H : (if t355 = 0 then (some ((⟨#[]⟩ : ByteArray), 1)) else ((cleatref04_names.f).bind fun t356 => (if 0 ≤ a0 then (if a0 < (t356.length : Int) then (some (rdOf ByteArray.empty t356 a0, 0)) else (none)) else (none)))) = some (r1, r2) := H
 have A2 := Aside0.mk A20
 clear A20
 by_cases c3 : t355 = 0
 ·
  rw [if_pos c3] at H
  have c3b0 : (t355 == 0) = true := beq_iff_eq.mpr c3
  have c3b1 : (t355 != 0) = false := bne_eq_false_iff_eq.mpr c3
  clear c3
  simp only [Option.some.injEq, Prod.mk.injEq] at H
  obtain ⟨rfl, rfl⟩ := H
  go_enter Tryd.func39, Tryd.ntmps39
  go_wp2_with (first | ((with_reducible refine gate_callee (f := 40) rfl ?_); refine goesL_ (some 6) rfl rfl Tryd.func40 (by kernel_rfl) rfl #[.int .i64 a0] rfl (by (try simp only [List.map_toArray, List.map_cons, List.map_nil]); first | done | rfl | (simp only [List.length_drop, List.length_take]; rfl)) ?_; (with_reducible refine (cleatref04_Shape.calls k a0 t355 _ A2.out).mono ?_); rintro e w4 ⟨rfl, hb⟩; refine ⟨_, rfl, ?_⟩; have n0_ := Aside0.mk (below_step (by repeat (first | (with_reducible first | exact HB.out | apply below_alloc | apply pw_below_drewN | apply below_drew1) | exact HB.out)) hb); clear HB; have HB := n0_; clear n0_; (try clear hb); (try clear hb2); (try clear hk); (try clear hi)))
  go_ret2
  exact ⟨by first | rfl | (simp [errW_none, errW_some] <;> rfl) | (simp [*, errW_none, errW_some] <;> rfl), by repeat (first | (with_reducible first | exact HB.out | apply below_alloc | apply pw_below_drewN | apply below_drew1) | exact HB.out)⟩
 ·
  rw [if_neg c3] at H
  have c3b0 : (t355 == 0) = false := beq_eq_false_iff_ne.mpr c3
  have c3b1 : (t355 != 0) = true := bne_iff_ne.mpr c3
  replace H := Option.bind_eq_some_iff.mp H
  obtain ⟨t356, A50, H⟩ := H
  replace H : (if 0 ≤ a0 then (if a0 < (t356.length : Int) then (some (rdOf ByteArray.empty t356 a0, 0)) else (none)) else (none)) = some (r1, r2) := H
  have A5 := Aside0.mk A50
  clear A50
  by_cases c6 : 0 ≤ a0
  ·
   rw [if_pos c6] at H
   have c6b0 : decide (0 ≤ a0) = true := decide_eq_true c6
   clear c6
   by_cases c7 : a0 < (t356.length : Int)
   ·
    rw [if_pos c7] at H
    have c7b0 : decide (a0 < (t356.length : Int)) = true := decide_eq_true c7
    clear c7
    simp only [Option.some.injEq, Prod.mk.injEq] at H
    obtain ⟨rfl, rfl⟩ := H
    go_enter Tryd.func39, Tryd.ntmps39
    go_wp2_with (first | ((with_reducible refine gate_callee (f := 40) rfl ?_); refine goesL_ (some 6) rfl rfl Tryd.func40 (by kernel_rfl) rfl #[.int .i64 a0] rfl (by (try simp only [List.map_toArray, List.map_cons, List.map_nil]); first | done | rfl | (simp only [List.length_drop, List.length_take]; rfl)) ?_; (with_reducible refine (cleatref04_Shape.calls k a0 t355 _ A2.out).mono ?_); rintro e w8 ⟨rfl, hb⟩; refine ⟨_, rfl, ?_⟩; have n0_ := Aside0.mk (below_step (by repeat (first | (with_reducible first | exact HB.out | apply below_alloc | apply pw_below_drewN | apply below_drew1) | exact HB.out)) hb); clear HB; have HB := n0_; clear n0_; (try clear hb); (try clear hb2); (try clear hk); (try clear hi)) | ((with_reducible refine gate_callee (f := 69) rfl ?_); refine goesL_ (some 8) rfl rfl Tryd.func69 (by kernel_rfl) rfl #[] rfl (by (try simp only [List.map_toArray, List.map_cons, List.map_nil]); first | done | rfl | (simp only [List.length_drop, List.length_take]; rfl)) ?_; (with_reducible refine (cleatref04_names.calls  t356 _ A5.out).mono ?_); rintro e w9 ⟨v357, rfl, ho0, hb⟩; refine ⟨_, rfl, ?_⟩; have n0_ := Aside0.mk (Kd.R_lower ho0 (below_size (by repeat (first | (with_reducible first | exact HB.out | apply below_alloc | apply pw_below_drewN | apply below_drew1) | exact HB.out)))); have n1_ := Aside0.mk (below_step (by repeat (first | (with_reducible first | exact HB.out | apply below_alloc | apply pw_below_drewN | apply below_drew1) | exact HB.out)) hb); clear HB; have HO358 := n0_; have HB := n1_; clear n0_ n1_; (try clear hb); (try clear hb2); (try clear hk); (try clear hi); (try clear ho0); obtain ⟨Ao10, co10, eo10⟩ := Kd.R_slice HO358.out; subst eo10; have p359 : 0 ≤ (a0 : Int) := of_decide_eq_true (by first | (with_reducible assumption) | assumption); have q359 : a0 < (t356.length : Int) := of_decide_eq_true (by first | (with_reducible assumption) | assumption); obtain ⟨ad359, e359, hx359_0⟩ := Kd.at_string (Kd.R_reads' HO358.out).2.2 a0 p359 q359; cases e359; replace p359 := eq_true p359; replace q359 := eq_true q359))
    go_ret2
    exact ⟨by first | rfl | (simp [errW_none, errW_some] <;> rfl) | (simp [*, errW_none, errW_some] <;> rfl), by repeat (first | (with_reducible first | exact HB.out | apply below_alloc | apply pw_below_drewN | apply below_drew1) | exact HB.out)⟩
   ·
    rw [if_neg c7] at H
    exact absurd H (by simp)
  ·
   rw [if_neg c6] at H
   exact absurd H (by simp)

/-! ### inst_Ops: function 41 -/
/-- The operations of a name, of the last d places, behind those that are found. -/
def inst_opsL (a0 : ByteArray) : Nat → List Int → List Int
  | 0, out => out
  | d + 1, out => inst_opsL a0 d (if 0 < 39 - d ∧ (inst_name (39 - d)).toList = a0.toList then out ++ [((39 - d : Nat) : Int)] else out)
def inst_Ops.f (a0 : ByteArray) : Option (List Int) := some (inst_opsL a0 40 [])
theorem inst_index_open (n : Nat) (h : n < 40) (W : World) : (Instr.index 71 (.agg inst_cells) (.int .i64 (n : Int))).run Tryd.prog W = .ok (.agg #[.string (inst_name n), .int .i64 (inst_shape n)]) W := inst_index n h W
theorem own_slice_ {W : World} {base n : Nat} {e : TypeId} {v : Value} {xs : List Value} (h : W.ownsRow base e 1 v n xs) : ∃ A c, v = .slice A n c := by
  rcases h.2 with ⟨rfl, rfl⟩ | ⟨g, cap, cur, rfl, _⟩
  · exact ⟨_, _, rfl⟩
  · exact ⟨_, _, rfl⟩
set_option maxHeartbeats 8000000 in
set_option maxRecDepth 100000 in
theorem inst_Ops.calls (a0 : ByteArray) (r : List Int) (w : World) (h : inst_Ops.f a0 = some r) :
    Calls Tryd.prog 41 #[.string a0] w fun e w' => ∃ v0_ : Value, e = .returned (v0_) ∧ Kd.R (Kd.int .i64) 3 w' w.heap.size (fun _ => True) v0_ r ∧ Below w.heap.size w w' := by
  have HB := Aside0.mk (Below.refl w.heap.size w)
  have H := Option.some.inj h
  clear h
  have H' := Aside0.mk H
  clear H
  go_enter Tryd.func41, Tryd.ntmps41
  go_wp2_with (first | (go_at_call 68; refine (inst_ops.calls _).mono ?_; rintro e w1 ⟨rfl, hb1⟩; have HB := Aside0.mk hb1; clear hb1))
  go_loopg [3, 7] 40 (fun kq v3 v7 w' => ∃ (x3 : List Int) (n : Nat), v7 = .int .i64 (n : Int) ∧ n + kq = 40 ∧ x3.length ≤ n ∧ Aside0 (inst_opsL a0 kq x3 = r) ∧ Aside0 (w'.ownsRow w.heap.size 3 1 v3 x3.length (nums .i64 x3)) ∧ Aside0 (Below w.heap.size w w'))
  case atStart => exact ⟨[], 0, rfl, rfl, Nat.le_refl _, H', ⟨own_nil _ _ _ _⟩, ⟨by repeat (first | (with_reducible first | exact HB.out | apply below_alloc | apply pw_below_drewN | apply below_drew1) | exact HB.out)⟩⟩
  case round =>
    clear H'
    obtain ⟨x3, n, rfl, hn, hle, HA, HO_3, HB⟩ := hrel
    cases gk with
    | zero =>
      have c4b0 : decide ((n : Int) < 40) = false := decide_eq_false (by omega)
      obtain rfl : inst_opsL a0 0 x3 = r := HA.out
      clear HA
      go_wp2
      go_ret
      exact ⟨_, rfl, ⟨fun _ _ => trivial, nums .i64 _, HO_3.out, Kd.reps_scalar _⟩, by repeat (first | (with_reducible first | exact HB.out | apply below_alloc | apply pw_below_drewN | apply below_drew1) | exact HB.out)⟩
    | succ k1 =>
      have c4b0 : decide ((n : Int) < 40) = true := decide_eq_true (by omega)
      have hidx := inst_index_open n (by omega)
      have en : 39 - k1 = n := by omega
      have H := HA.out
      clear HA
      simp only [inst_opsL, en] at H
      have hw : wrap64 ((n : Int) + 1) = ((n + 1 : Nat) : Int) := by unfold wrap64; omega
      have HW := Aside0.mk hw
      clear hw
      by_cases h0 : 0 < n
      · have c5b0 : decide ((n : Int) > 0) = true := decide_eq_true (by omega)
        by_cases c7 : (inst_name n).toList = a0.toList
        · rw [if_pos ⟨h0, c7⟩] at H
          have c7b0 : ((inst_name n).toList == a0.toList) = true := beq_iff_eq.mpr c7
          clear c7
          have hlen : x3.length < 17592186044416 := by omega
          have LM := Aside0.mk hlen
          have H' := Aside0.mk H
          clear H hlen
          obtain ⟨A3, c3, rfl⟩ := own_slice_ HO_3.out
          go_wp2_with (first | ((with_reducible refine gate_builtin (b := .append) (xs := #[.tmp 19, .tmp 21]) rfl ?_); at_builtin; refine print_append_num (w0 := w) w.heap.size rfl (.tmp 19) (.tmp 21) 42 3 .i64 8 rfl Tryd.underlying42 info3 (by omega) (.slice A3 x3.length c3) x3 (n : Int) rfl (by first | rfl | (go_simp; done) | (simp [World.alloc]; done)) (own_move HO_3.out (fun k hk => Below.heap_alloc _ _ k (own_lt HO_3.out k hk))) (below_alloc HB.out _) (below_size (below_alloc HB.out _)) (by have := LM.out; omega) ?_; intro v9 w10 ho hb _ _; have n1_ := Aside0.mk hb; have n2_ := Aside0.mk ho; clear HB HO_3; have HB := n1_; have HO_3 := n2_; clear n1_ n2_ ho hb))
          go_roundg k1
          case measure => omega
          case rel => exact ⟨x3 ++ [(n : Int)], n + 1, by first | (rw [HW.out]; done) | rfl, by omega, by simp; omega, H', ⟨by first | exact HO_3.out | exact own_move HO_3.out (fun k hk => Below.heap_alloc _ _ k (own_lt HO_3.out k hk))⟩, ⟨by repeat (first | (with_reducible first | exact HB.out | apply below_alloc | apply pw_below_drewN | apply below_drew1) | exact HB.out)⟩⟩
        · rw [if_neg (fun hh => c7 hh.2)] at H
          have c7b0 : ((inst_name n).toList == a0.toList) = false := beq_eq_false_iff_ne.mpr c7
          have H' := Aside0.mk H
          clear H c7
          go_wp2
          go_roundg k1
          case measure => omega
          case rel => exact ⟨x3, n + 1, by first | (rw [HW.out]; done) | rfl, by omega, by omega, H', ⟨by first | exact HO_3.out | exact own_move HO_3.out (fun k hk => Below.heap_alloc _ _ k (own_lt HO_3.out k hk))⟩, ⟨by repeat (first | (with_reducible first | exact HB.out | apply below_alloc | apply pw_below_drewN | apply below_drew1) | exact HB.out)⟩⟩
      · obtain rfl : n = 0 := by omega
        rw [if_neg (fun hh => h0 hh.1)] at H
        have H' := Aside0.mk H
        clear H h0 hidx c4b0
        have hidx := inst_index_open 0 (by omega)
        have e0 : ((0 : Nat) : Int) = 0 := rfl
        rw [e0] at hidx
        go_wp2
        go_roundg k1
        case measure => omega
        case rel => exact ⟨x3, 1, by first | (rw [HW.out]; done) | rfl, by omega, by omega, H', ⟨by first | exact HO_3.out | exact own_move HO_3.out (fun k hk => Below.heap_alloc _ _ k (own_lt HO_3.out k hk))⟩, ⟨by repeat (first | (with_reducible first | exact HB.out | apply below_alloc | apply pw_below_drewN | apply below_drew1) | exact HB.out)⟩⟩

/-! ### cleatref04_Ops: function 42 -/
def cleatref04_Ops.l0 : Nat → ByteArray → List Int → List ByteArray → Int → Option (List Int)
 | 0, _, _, _, _ => none
 | k + 1, x0, x3, x4, x5 => if x5 ≤ 39 then (if 0 ≤ x5 then (if x5 < (x4.length : Int) then (if (rdOf ByteArray.empty x4 x5).toList = x0.toList then (if x3.length < 17592186044416 then (cleatref04_Ops.l0 k x0 (x3 ++ [x5]) x4 (wrap64 (x5 + 1))) else (none)) else (cleatref04_Ops.l0 k x0 x3 x4 (wrap64 (x5 + 1)))) else (none)) else (none)) else (some x3)
def cleatref04_Ops.f (k : Nat) (a0 : ByteArray) : Option (List Int) := (cleatref04_names.f).bind fun t360 => (cleatref04_Ops.l0 k a0 ([] : List Int) t360 1)
theorem cleatref04_Ops.mono_l : ∀ k, (∀ y0 y1 y2 y3, LeO (cleatref04_Ops.l0 k y0 y1 y2 y3) (cleatref04_Ops.l0 (k + 1) y0 y1 y2 y3))
 | 0 => fun _ _ _ _ r h => by simp [cleatref04_Ops.l0] at h
 | k + 1 => by
  have ih0 := cleatref04_Ops.mono_l k
  ·
   intro y0 y1 y2 y3
   unfold cleatref04_Ops.l0
   repeat' first
   | (with_reducible exact ih0 _ _ _ _)
   | (with_reducible exact LeO.refl _)
   | (with_reducible exact LeO.none _)
   | (with_reducible refine LeO.ite ?_ ?_)
   | (with_reducible refine LeO.bind ?_ (fun _ => ?_))
   | exact ih0 _ _ _ _
   | exact LeO.none _
   | refine LeO.ite ?_ ?_
   | refine LeO.bind ?_ (fun _ => ?_)
theorem cleatref04_Ops.mono : ∀ a0 k, LeO (cleatref04_Ops.f k a0) (cleatref04_Ops.f (k + 1) a0) := by
 intro a0 k
 have ih0 := cleatref04_Ops.mono_l k
 unfold cleatref04_Ops.f
 repeat' first
   | (with_reducible exact ih0 _ _ _ _)
   | (with_reducible exact LeO.refl _)
   | (with_reducible exact LeO.none _)
   | (with_reducible refine LeO.ite ?_ ?_)
   | (with_reducible refine LeO.bind ?_ (fun _ => ?_))
   | exact ih0 _ _ _ _
   | exact LeO.none _
   | refine LeO.ite ?_ ?_
   | refine LeO.bind ?_ (fun _ => ?_)
set_option maxHeartbeats 8000000 in
set_option maxRecDepth 100000 in
theorem cleatref04_Ops.calls (k : Nat) (a0 : ByteArray) (r : List Int) (w : World) (h : cleatref04_Ops.f k a0 = some r) :
    Calls Tryd.prog 42 #[.string a0] w fun e w' => ∃ v0_ : Value, e = .returned (v0_) ∧ Kd.R (Kd.int .i64) 3 w' w.heap.size (fun _ => True) v0_ r ∧ Below w.heap.size w w' := by
 have HB := Aside0.mk (Below.refl w.heap.size w)
 have H : ((cleatref04_names.f).bind fun t360 => (cleatref04_Ops.l0 k a0 ([] : List Int) t360 1)) = some r := h
 clear h
 replace H := Option.bind_eq_some_iff.mp H
 obtain ⟨t360, A20, H⟩ := H
 replace H : (cleatref04_Ops.l0 k a0 ([] : List Int) t360 1) = some r := H
 have A2 := Aside0.mk A20
 clear A20
 have H' := Aside0.mk H
 clear H
 go_enter Tryd.func42, Tryd.ntmps42
 go_wp2_with (first | ((with_reducible refine gate_callee (f := 69) rfl ?_); refine goesL_ (some 6) rfl rfl Tryd.func69 (by kernel_rfl) rfl #[] rfl (by (try simp only [List.map_toArray, List.map_cons, List.map_nil]); first | done | rfl | (simp only [List.length_drop, List.length_take]; rfl)) ?_; (with_reducible refine (cleatref04_names.calls  t360 _ A2.out).mono ?_); rintro e w3 ⟨v361, rfl, ho0, hb⟩; refine ⟨_, rfl, ?_⟩; have n0_ := Aside0.mk (Kd.R_lower ho0 (below_size (by repeat (first | (with_reducible first | exact HB.out | apply below_alloc | apply pw_below_drewN | apply below_drew1) | exact HB.out)))); have n1_ := Aside0.mk (below_step (by repeat (first | (with_reducible first | exact HB.out | apply below_alloc | apply pw_below_drewN | apply below_drew1) | exact HB.out)) hb); clear HB; have HO362 := n0_; have HB := n1_; clear n0_ n1_; (try clear hb); (try clear hb2); (try clear hk); (try clear hi); (try clear ho0)))
 go_loopg [3, 5] k (fun kq v3 v5 w' => ∃ (x3_1 : List Int) (x5_1 : Int), v5 = .int .i64 x5_1 ∧ Aside0 (cleatref04_Ops.l0 kq a0 x3_1 t360 x5_1 = some r) ∧ Aside0 (kq ≤ k) ∧ Aside0 (Kd.R (Kd.int .i64) 3 w' w.heap.size (fun _ => True) v3 x3_1) ∧ Aside0 (Kd.R Kd.string 9 w' w.heap.size (fun _ => True) v361 t360) ∧ Aside0 (Below w.heap.size w w'))
 case atStart => exact ⟨(([] : List Int)), (1), (by first | rfl | (simp; done) | (simp [*]; done)), H', ⟨Nat.le_refl _⟩, ⟨by first | exact Kd.R_nil _ _ _ _ _ | exact Kd.N_nil _ _ _ _ _ | exact Kd.V_nil _ _ _ _ _ | exact Kd.Q_nil _ _ _ _ _ | exact Kd.S_nil _ _ _ _ _⟩, ⟨by (with_reducible repeat (first | apply Kd.R_alloc | apply Kd.R_drewN | apply Kd.R_drew)); exact HO362.out⟩, ⟨by repeat (first | (with_reducible first | exact HB.out | apply below_alloc | apply pw_below_drewN | apply below_drew1) | exact HB.out)⟩⟩
 case round =>
  clear H'
  try clear p2
  obtain ⟨x3_1, x5_1, rfl, HA, HK1, HO_3, HO_4, HB⟩ := hrel
  cases gk with
  | zero => exact absurd HA.out (by simp [cleatref04_Ops.l0])
  | succ k1 =>
   have H := HA.out
   clear HA
   simp only [cleatref04_Ops.l0] at H
   by_cases c4 : x5_1 ≤ 39
   ·
    rw [if_pos c4] at H
    have c4b0 : decide (x5_1 ≤ 39) = true := decide_eq_true c4
    clear c4
    by_cases c5 : 0 ≤ x5_1
    ·
     rw [if_pos c5] at H
     have c5b0 : decide (0 ≤ x5_1) = true := decide_eq_true c5
     clear c5
     by_cases c6 : x5_1 < (t360.length : Int)
     ·
      rw [if_pos c6] at H
      have c6b0 : decide (x5_1 < (t360.length : Int)) = true := decide_eq_true c6
      clear c6
      by_cases c7 : (rdOf ByteArray.empty t360 x5_1).toList = a0.toList
      ·
       rw [if_pos c7] at H
       have c7b0 : ((rdOf ByteArray.empty t360 x5_1).toList == a0.toList) = true := beq_iff_eq.mpr c7
       have c7b1 : ((rdOf ByteArray.empty t360 x5_1).toList != a0.toList) = false := bne_eq_false_iff_eq.mpr c7
       clear c7
       by_cases c8 : x3_1.length < 17592186044416
       ·
        rw [if_pos c8] at H
        have LMc8 := Aside0.mk c8
        clear c8
        obtain ⟨y364, hy364⟩ : ∃ y_ : List Int, y_ = (x3_1 ++ [x5_1]) := ⟨_, rfl⟩
        replace H : (cleatref04_Ops.l0 k1 a0 y364 t360 (wrap64 (x5_1 + 1))) = some r := by first | (rw [hy364]; with_reducible exact H) | (have H2_ := (Option.bind_some _ _).symm.trans H; rw [hy364]; with_reducible exact H2_) | (have H2_ := (Option.bind_some _ _).symm.trans H; with_reducible exact H2_) | with_reducible exact H | (rw [hy364]; exact H) | exact H
        have Ny364 := Aside0.mk hy364
        clear hy364
        have H' := Aside0.mk H
        clear H
        obtain ⟨Ao9, co9, eo9⟩ := Kd.R_slice HO_4.out
        subst eo9
        have p363 : 0 ≤ (x5_1 : Int) := of_decide_eq_true (by first | (with_reducible assumption) | assumption)
        have q363 : x5_1 < (t360.length : Int) := of_decide_eq_true (by first | (with_reducible assumption) | assumption)
        obtain ⟨ad363, e363, hx363_0⟩ := Kd.at_string (Kd.R_reads' HO_4.out).2.2 x5_1 p363 q363
        cases e363
        replace p363 := eq_true p363
        replace q363 := eq_true q363
        go_wp2_with (first | ((with_reducible refine gate_builtin (b := .append) (xs := #[.tmp 17, .tmp 19]) rfl ?_); at_builtin; refine Kd.R_append (Kd.int .i64) (w0 := w) w.heap.size rfl (.tmp 17) (.tmp 19) 42 3 (.int .i64 0) 8 rfl Tryd.underlying42 info3 rfl (by decide) (by omega) u3 x3_1 x5_1 [.int .i64 x5_1] (fun _ => True) (fun _ => False) rfl rfl ?aP (fun _ hk => hk.elim) ?aF ?aO ?aB ?aS ?aL ?_; (case aP => exact rfl); (case aB => exact (by repeat (first | (with_reducible first | exact HB.out | apply below_alloc | apply pw_below_drewN | apply below_drew1) | exact HB.out))); (case aF => exact (fun _ _ => trivial)); (case aO => exact (by (with_reducible repeat (first | apply Kd.R_alloc | apply Kd.R_drewN | apply Kd.R_drew)); exact HO_3.out)); (case aS => exact (below_size (by repeat (first | (with_reducible first | exact HB.out | apply below_alloc | apply pw_below_drewN | apply below_drew1) | exact HB.out)))); (case aL => have := LMc8.out; omega); intro v365 w10 ho hb hg hat; rw [← Ny364.out] at ho; have n0_ := Aside0.mk (Kd.R_over' (by (with_reducible repeat (first | apply Kd.R_alloc | apply Kd.R_drewN | apply Kd.R_drew)); exact HO_4.out) (Kd.R_typed (by (with_reducible repeat (first | apply Kd.R_alloc | apply Kd.R_drewN | apply Kd.R_drew)); exact HO_3.out)) (by decide) hg); have n1_ := Aside0.mk (hb); have n2_ := Aside0.mk (ho); clear HO_4; clear HB; clear HO_3; have HO_4 := n0_; have HB := n1_; have HO366 := n2_; clear n0_ n1_ n2_; clear ho hb hg hat))
        go_roundg k1
        case measure => have := HK1.out; omega
        case rel => exact ⟨(y364), (wrap64 (x5_1 + 1)), (by first | rfl | (simp; done) | (simp [*]; done)), H', ⟨by have := HK1.out; omega⟩, ⟨by (with_reducible repeat (first | apply Kd.R_alloc | apply Kd.R_drewN | apply Kd.R_drew)); exact HO366.out⟩, ⟨by (with_reducible repeat (first | apply Kd.R_alloc | apply Kd.R_drewN | apply Kd.R_drew)); exact HO_4.out⟩, ⟨by repeat (first | (with_reducible first | exact HB.out | apply below_alloc | apply pw_below_drewN | apply below_drew1) | exact HB.out)⟩⟩
       ·
        rw [if_neg c8] at H
        exact absurd H (by simp)
      ·
       rw [if_neg c7] at H
       have c7b0 : ((rdOf ByteArray.empty t360 x5_1).toList == a0.toList) = false := beq_eq_false_iff_ne.mpr c7
       have c7b1 : ((rdOf ByteArray.empty t360 x5_1).toList != a0.toList) = true := bne_iff_ne.mpr c7
       have H' := Aside0.mk H
       clear H
       obtain ⟨Ao11, co11, eo11⟩ := Kd.R_slice HO_4.out
       subst eo11
       have p363 : 0 ≤ (x5_1 : Int) := of_decide_eq_true (by first | (with_reducible assumption) | assumption)
       have q363 : x5_1 < (t360.length : Int) := of_decide_eq_true (by first | (with_reducible assumption) | assumption)
       obtain ⟨ad363, e363, hx363_0⟩ := Kd.at_string (Kd.R_reads' HO_4.out).2.2 x5_1 p363 q363
       cases e363
       replace p363 := eq_true p363
       replace q363 := eq_true q363
       go_wp2
       go_roundg k1
       case measure => have := HK1.out; omega
       case rel => exact ⟨(x3_1), (wrap64 (x5_1 + 1)), (by first | rfl | (simp; done) | (simp [*]; done)), H', ⟨by have := HK1.out; omega⟩, ⟨by (with_reducible repeat (first | apply Kd.R_alloc | apply Kd.R_drewN | apply Kd.R_drew)); exact HO_3.out⟩, ⟨by (with_reducible repeat (first | apply Kd.R_alloc | apply Kd.R_drewN | apply Kd.R_drew)); exact HO_4.out⟩, ⟨by repeat (first | (with_reducible first | exact HB.out | apply below_alloc | apply pw_below_drewN | apply below_drew1) | exact HB.out)⟩⟩
     ·
      rw [if_neg c6] at H
      exact absurd H (by simp)
    ·
     rw [if_neg c5] at H
     exact absurd H (by simp)
   ·
    rw [if_neg c4] at H
    have c4b0 : decide (x5_1 ≤ 39) = false := decide_eq_false c4
    clear c4
    obtain rfl := Option.some.inj H
    go_wp2
    go_ret
    exact ⟨_, by first | rfl | (simp [errW_none, errW_some] <;> rfl) | (simp [*, errW_none, errW_some] <;> rfl), by (with_reducible repeat (first | apply Kd.R_alloc | apply Kd.R_drewN | apply Kd.R_drew)); exact HO_3.out, by repeat (first | (with_reducible first | exact HB.out | apply below_alloc | apply pw_below_drewN | apply below_drew1) | exact HB.out)⟩

/-! ### cleatlaw04_InstNamed: function 12 -/
def cleatlaw04_InstNamed.f (k : Nat) (a0 : Int) (a1 : ByteArray) : Option (Bool) := (inst_Name.f a0).bind fun bt367 => ((cleatref04_Name.f k a0).bind fun bt369 => ((cleatlaw04_shaped.f k).bind fun t371 => (if t371 = true then ((inst_Shape.f a0).bind fun t372 => ((cleatref04_Shape.f k a0).bind fun t373 => (if t372 = t373 then (if bt367.1.toList = bt369.1.toList then (if bt367.2 = bt369.2 then ((inst_Ops.f a1).bind fun t374 => ((cleatref04_Ops.f k a1).bind fun t377 => ((cleatref04_Same.f k t374 t377).bind fun t380 => (some t380)))) else (none)) else (none)) else (none)))) else (none))))
theorem cleatlaw04_InstNamed.mono : ∀ a0 a1 k, LeO (cleatlaw04_InstNamed.f k a0 a1) (cleatlaw04_InstNamed.f (k + 1) a0 a1) := by
 intro a0 a1 k
 unfold cleatlaw04_InstNamed.f
 repeat' first
   | (with_reducible exact cleatlaw04_shaped.mono _)
   | (with_reducible exact cleatref04_Name.mono _ _)
   | (with_reducible exact cleatref04_Ops.mono _ _)
   | (with_reducible exact cleatref04_Same.mono _ _ _)
   | (with_reducible exact cleatref04_Shape.mono _ _)
   | (with_reducible exact LeO.refl _)
   | (with_reducible exact LeO.none _)
   | (with_reducible refine LeO.ite ?_ ?_)
   | (with_reducible refine LeO.bind ?_ (fun _ => ?_))
   | exact cleatlaw04_shaped.mono _
   | exact cleatref04_Name.mono _ _
   | exact cleatref04_Ops.mono _ _
   | exact cleatref04_Same.mono _ _ _
   | exact cleatref04_Shape.mono _ _
   | exact LeO.none _
   | refine LeO.ite ?_ ?_
   | refine LeO.bind ?_ (fun _ => ?_)
set_option maxHeartbeats 8000000 in
set_option maxRecDepth 100000 in
theorem cleatlaw04_InstNamed.calls (k : Nat) (a0 : Int) (a1 : ByteArray) (r : Bool) (w : World) (h : cleatlaw04_InstNamed.f k a0 a1 = some r) (hTab : TabW w := by first | exact hTab | exact TabW.drew hTab | exact TabW.drewN hTab _ | exact TabW.below hTab (by repeat (first | (with_reducible first | exact HB.out | apply below_alloc | apply pw_below_drewN | apply below_drew1) | refine Below.setCell ?_ (Aside0.out (by assumption)) _ | exact HB.out | exact Below.refl _ _))) :
    Calls Tryd.prog 12 #[.int .i64 a0, .string a1] w fun e w' => e = .returned (.bool r) ∧ Below w.heap.size w w' := by
 have HB := Aside0.mk (Below.refl w.heap.size w)
 have H : ((inst_Name.f a0).bind fun bt367 => ((cleatref04_Name.f k a0).bind fun bt369 => ((cleatlaw04_shaped.f k).bind fun t371 => (if t371 = true then ((inst_Shape.f a0).bind fun t372 => ((cleatref04_Shape.f k a0).bind fun t373 => (if t372 = t373 then (if bt367.1.toList = bt369.1.toList then (if bt367.2 = bt369.2 then ((inst_Ops.f a1).bind fun t374 => ((cleatref04_Ops.f k a1).bind fun t377 => ((cleatref04_Same.f k t374 t377).bind fun t380 => (some t380)))) else (none)) else (none)) else (none)))) else (none))))) = some r := h
 clear h
 replace H := Option.bind_eq_some_iff.mp H
 obtain ⟨⟨t367, t368⟩, A30, H⟩ := H
 replace H : ((cleatref04_Name.f k a0).bind fun bt369 => ((cleatlaw04_shaped.f k).bind fun t371 => (if t371 = true then ((inst_Shape.f a0).bind fun t372 => ((cleatref04_Shape.f k a0).bind fun t373 => (if t372 = t373 then (if t367.toList = bt369.1.toList then (if t368 = bt369.2 then ((inst_Ops.f a1).bind fun t374 => ((cleatref04_Ops.f k a1).bind fun t377 => ((cleatref04_Same.f k t374 t377).bind fun t380 => (some t380)))) else (none)) else (none)) else (none)))) else (none)))) = some r := H
 have A3 := Aside0.mk A30
 clear A30
 replace H := Option.bind_eq_some_iff.mp H
 obtain ⟨⟨t369, t370⟩, A40, H⟩ := H
 replace H : ((cleatlaw04_shaped.f k).bind fun t371 => (if t371 = true then ((inst_Shape.f a0).bind fun t372 => ((cleatref04_Shape.f k a0).bind fun t373 => (if t372 = t373 then (if t367.toList = t369.toList then (if t368 = t370 then ((inst_Ops.f a1).bind fun t374 => ((cleatref04_Ops.f k a1).bind fun t377 => ((cleatref04_Same.f k t374 t377).bind fun t380 => (some t380)))) else (none)) else (none)) else (none)))) else (none))) = some r := H
 have A4 := Aside0.mk A40
 clear A40
 replace H := Option.bind_eq_some_iff.mp H
 obtain ⟨t371, A50, H⟩ := H
 replace H : (if t371 = true then ((inst_Shape.f a0).bind fun t372 => ((cleatref04_Shape.f k a0).bind fun t373 => (if t372 = t373 then (if t367.toList = t369.toList then (if t368 = t370 then ((inst_Ops.f a1).bind fun t374 => ((cleatref04_Ops.f k a1).bind fun t377 => ((cleatref04_Same.f k t374 t377).bind fun t380 => (some t380)))) else (none)) else (none)) else (none)))) else (none)) = some r := H
 have A5 := Aside0.mk A50
 clear A50
 by_cases c6 : t371 = true
 ·
  subst c6
  have H1 : ((inst_Shape.f a0).bind fun t372 => ((cleatref04_Shape.f k a0).bind fun t373 => (if t372 = t373 then (if t367.toList = t369.toList then (if t368 = t370 then ((inst_Ops.f a1).bind fun t374 => ((cleatref04_Ops.f k a1).bind fun t377 => ((cleatref04_Same.f k t374 t377).bind fun t380 => (some t380)))) else (none)) else (none)) else (none)))) = some r := by rw [if_pos rfl] at H; exact H
  clear H
  have H := H1
  clear H1
  replace H := Option.bind_eq_some_iff.mp H
  obtain ⟨t372, A70, H⟩ := H
  replace H : ((cleatref04_Shape.f k a0).bind fun t373 => (if t372 = t373 then (if t367.toList = t369.toList then (if t368 = t370 then ((inst_Ops.f a1).bind fun t374 => ((cleatref04_Ops.f k a1).bind fun t377 => ((cleatref04_Same.f k t374 t377).bind fun t380 => (some t380)))) else (none)) else (none)) else (none))) = some r := H
  have A7 := Aside0.mk A70
  clear A70
  replace H := Option.bind_eq_some_iff.mp H
  obtain ⟨t373, A80, H⟩ := H
  replace H : (if t372 = t373 then (if t367.toList = t369.toList then (if t368 = t370 then ((inst_Ops.f a1).bind fun t374 => ((cleatref04_Ops.f k a1).bind fun t377 => ((cleatref04_Same.f k t374 t377).bind fun t380 => (some t380)))) else (none)) else (none)) else (none)) = some r := H
  have A8 := Aside0.mk A80
  clear A80
  by_cases c9 : t372 = t373
  ·
   rw [if_pos c9] at H
   have c9b0 : (t372 == t373) = true := beq_iff_eq.mpr c9
   have c9b1 : (t372 != t373) = false := bne_eq_false_iff_eq.mpr c9
   clear c9
   by_cases c10 : t367.toList = t369.toList
   ·
    rw [if_pos c10] at H
    have c10b0 : (t367.toList == t369.toList) = true := beq_iff_eq.mpr c10
    have c10b1 : (t367.toList != t369.toList) = false := bne_eq_false_iff_eq.mpr c10
    clear c10
    by_cases c11 : t368 = t370
    ·
     rw [if_pos c11] at H
     have c11b0 : (t368 == t370) = true := beq_iff_eq.mpr c11
     have c11b1 : (t368 != t370) = false := bne_eq_false_iff_eq.mpr c11
     clear c11
     replace H := Option.bind_eq_some_iff.mp H
     obtain ⟨t374, A120, H⟩ := H
     replace H : ((cleatref04_Ops.f k a1).bind fun t377 => ((cleatref04_Same.f k t374 t377).bind fun t380 => (some t380))) = some r := H
     have A12 := Aside0.mk A120
     clear A120
     replace H := Option.bind_eq_some_iff.mp H
     obtain ⟨t377, A130, H⟩ := H
     replace H : ((cleatref04_Same.f k t374 t377).bind fun t380 => (some t380)) = some r := H
     have A13 := Aside0.mk A130
     clear A130
     replace H := Option.bind_eq_some_iff.mp H
     obtain ⟨t380, A140, H⟩ := H
     replace H : (some t380) = some r := H
     have A14 := Aside0.mk A140
     clear A140
     obtain rfl := Option.some.inj H
     go_enter Tryd.func12, Tryd.ntmps12
     go_wp2_with (first | ((with_reducible refine gate_callee (f := 38) rfl ?_); refine goesL_ (some 11) rfl rfl Tryd.func38 (by kernel_rfl) rfl #[.int .i64 a0] rfl (by (try simp only [List.map_toArray, List.map_cons, List.map_nil]); first | done | rfl | (simp only [List.length_drop, List.length_take]; rfl)) ?_; (with_reducible refine (inst_Name.calls a0 t367 t368 _ A3.out).mono ?_); rintro e w15 ⟨rfl, hb⟩; refine ⟨_, rfl, ?_⟩; have n0_ := Aside0.mk (below_step (by repeat (first | (with_reducible first | exact HB.out | apply below_alloc | apply pw_below_drewN | apply below_drew1) | exact HB.out)) hb); clear HB; have HB := n0_; clear n0_; (try clear hb); (try clear hb2); (try clear hk); (try clear hi)) | ((with_reducible refine gate_callee (f := 39) rfl ?_); refine goesL_ (some 16) rfl rfl Tryd.func39 (by kernel_rfl) rfl #[.int .i64 a0] rfl (by (try simp only [List.map_toArray, List.map_cons, List.map_nil]); first | done | rfl | (simp only [List.length_drop, List.length_take]; rfl)) ?_; (with_reducible refine (cleatref04_Name.calls k a0 t369 t370 _ A4.out).mono ?_); rintro e w16 ⟨rfl, hb⟩; refine ⟨_, rfl, ?_⟩; have n0_ := Aside0.mk (below_step (by repeat (first | (with_reducible first | exact HB.out | apply below_alloc | apply pw_below_drewN | apply below_drew1) | exact HB.out)) hb); clear HB; have HB := n0_; clear n0_; (try clear hb); (try clear hb2); (try clear hk); (try clear hi)) | ((with_reducible refine gate_callee (f := 29) rfl ?_); refine goesL_ (some 19) rfl rfl Tryd.func29 (by kernel_rfl) rfl #[] rfl (by (try simp only [List.map_toArray, List.map_cons, List.map_nil]); first | done | rfl | (simp only [List.length_drop, List.length_take]; rfl)) ?_; (with_reducible refine (cleatlaw04_shaped.calls k  true _ A5.out).mono ?_); rintro e w17 ⟨rfl, hb⟩; refine ⟨_, rfl, ?_⟩; have n0_ := Aside0.mk (below_step (by repeat (first | (with_reducible first | exact HB.out | apply below_alloc | apply pw_below_drewN | apply below_drew1) | exact HB.out)) hb); clear HB; have HB := n0_; clear n0_; (try clear hb); (try clear hb2); (try clear hk); (try clear hi)) | (go_at_call 36; (with_reducible refine (inst_Shape.calls a0 t372 _ A7.out).mono ?_); rintro e w18 ⟨rfl, hb⟩; have n0_ := Aside0.mk (below_step (by repeat (first | (with_reducible first | exact HB.out | apply below_alloc | apply pw_below_drewN | apply below_drew1) | exact HB.out)) hb); clear HB; have HB := n0_; clear n0_; (try clear hb); (try clear hb2); (try clear hk); (try clear hi)) | (go_at_call 40; (with_reducible refine (cleatref04_Shape.calls k a0 t373 _ A8.out).mono ?_); rintro e w19 ⟨rfl, hb⟩; have n0_ := Aside0.mk (below_step (by repeat (first | (with_reducible first | exact HB.out | apply below_alloc | apply pw_below_drewN | apply below_drew1) | exact HB.out)) hb); clear HB; have HB := n0_; clear n0_; (try clear hb); (try clear hb2); (try clear hk); (try clear hi)) | (go_at_call 41; (with_reducible refine (inst_Ops.calls a1 t374 _ A12.out).mono ?_); rintro e w20 ⟨v375, rfl, ho0, hb⟩; have n0_ := Aside0.mk (Kd.R_lower ho0 (below_size (by repeat (first | (with_reducible first | exact HB.out | apply below_alloc | apply pw_below_drewN | apply below_drew1) | exact HB.out)))); have n1_ := Aside0.mk (below_step (by repeat (first | (with_reducible first | exact HB.out | apply below_alloc | apply pw_below_drewN | apply below_drew1) | exact HB.out)) hb); clear HB; have HO376 := n0_; have HB := n1_; clear n0_ n1_; (try clear hb); (try clear hb2); (try clear hk); (try clear hi); (try clear ho0)) | (go_at_call 42; (with_reducible refine (cleatref04_Ops.calls k a1 t377 _ A13.out).mono ?_); rintro e w21 ⟨v378, rfl, ho0, hb⟩; have n0_ := Aside0.mk (Kd.R_elder' (by (with_reducible repeat (first | apply Kd.R_alloc | apply Kd.R_drewN | apply Kd.R_drew)); exact HO376.out) (Kd.R_base ho0) hb); have n1_ := Aside0.mk (Kd.R_lower (Kd.R_new' ho0 (Kd.R_lt (by (with_reducible repeat (first | apply Kd.R_alloc | apply Kd.R_drewN | apply Kd.R_drew)); exact HO376.out))) (below_size (by repeat (first | (with_reducible first | exact HB.out | apply below_alloc | apply pw_below_drewN | apply below_drew1) | exact HB.out)))); have n2_ := Aside0.mk (below_step (by repeat (first | (with_reducible first | exact HB.out | apply below_alloc | apply pw_below_drewN | apply below_drew1) | exact HB.out)) hb); clear HO376; clear HB; have HO376 := n0_; have HO379 := n1_; have HB := n2_; clear n0_ n1_ n2_; (try clear hb); (try clear hb2); (try clear hk); (try clear hi); (try clear ho0); obtain ⟨Ao22, co22, eo22⟩ := Kd.R_slice HO376.out; subst eo22; obtain ⟨Ao23, co23, eo23⟩ := Kd.R_slice HO379.out; subst eo23) | (go_at_call 32; (with_reducible refine (cleatref04_Same.calls k _ _ t374 _ _ t377 t380 _ ?side1 ?side2 ?side3 ?side4 A14.out).mono ?_); (case side1 => repeat (first | exact (Kd.R_reads' HO376.out).2.2 | (with_reducible refine Kd.C_alloc ?_ _) | (with_reducible refine Kd.C_drewN ?_ _) | (with_reducible refine Kd.C_drew ?_))); (case side2 => exact (Kd.R_reads' HO376.out).2.1); (case side3 => repeat (first | exact (Kd.R_reads' HO379.out).2.2 | (with_reducible refine Kd.C_alloc ?_ _) | (with_reducible refine Kd.C_drewN ?_ _) | (with_reducible refine Kd.C_drew ?_))); (case side4 => exact (Kd.R_reads' HO379.out).2.1); rintro e w' ⟨rfl, ⟨nd, rfl⟩⟩))
     go_ret
     exact ⟨by first | rfl | (simp [errW_none, errW_some] <;> rfl) | (simp [*, errW_none, errW_some] <;> rfl), by repeat (first | (with_reducible first | exact HB.out | apply below_alloc | apply pw_below_drewN | apply below_drew1) | exact HB.out)⟩
    ·
     rw [if_neg c11] at H
     exact absurd H (by simp)
   ·
    rw [if_neg c10] at H
    exact absurd H (by simp)
  ·
   rw [if_neg c9] at H
   exact absurd H (by simp)
 ·
  replace c6 := Bool.eq_false_iff.mpr c6
  subst c6
  have H1 : (none) = some r := by rw [if_neg (show ¬ (false = true) by decide)] at H; exact H
  clear H
  have H := H1
  clear H1
  exact absurd H (by simp)

/-- THE ONE PURE STATEMENT of cleatlaw04_InstNamed: yours. -/
def cleatlaw04_InstNamed.Pure : Prop := ∀ (a0 : Int) (a1 : ByteArray), (Lit.int .i64 a0).wf = true → a1.size ≤ 140737488351232 → ∃ k, cleatlaw04_InstNamed.f k a0 a1 = some true
theorem cleatlaw04_InstNamed.walk (P : cleatlaw04_InstNamed.Pure) (a0 : Int) (a1 : ByteArray) (w : World) (w0 : (Lit.int .i64 a0).wf = true) (w1 : a1.size ≤ 140737488351232) (hTab : TabW w) :
    Calls Tryd.prog 12 #[.int .i64 a0, .string a1] w fun e w' => e = .returned (.bool true) ∧ Below w.heap.size w w' := by
 obtain ⟨k, h⟩ := P a0 a1 w0 w1
 refine (cleatlaw04_InstNamed.calls k a0 a1 true w h).mono ?_
 rintro e w' ⟨rfl, hd⟩
 exact ⟨rfl, hd⟩

end Go.Proofs.YtbklmlbmbnnjkaaDoor.R
