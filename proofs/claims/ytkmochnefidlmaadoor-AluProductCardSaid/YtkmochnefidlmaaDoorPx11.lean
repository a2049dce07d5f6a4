/- Written for this claim by a program of this session (drive.py, over the print of the kit): Lean functions with the answers of Go functions, and the proofs that the Go code comes to these answers, under no condition but the readings of the arguments that each theorem names. -/
import Derived.MapFrom
import Derived.Test.YtkmochnefidlmaaDoorPx0
import Derived.Test.YtkmochnefidlmaaDoorPx4
import Derived.Test.YtkmochnefidlmaaDoorPx5
import Derived.Test.YtkmochnefidlmaaDoorPx6
import Derived.Test.YtkmochnefidlmaaDoorPx7
import Derived.Test.YtkmochnefidlmaaDoorPx10
namespace Go.Proofs.YtkmochnefidlmaaDoor.P
open Go.RowKit Go.Proofs.YtkmochnefidlmaaDoorW.PrintWords Go.Proofs.YtkmochnefidlmaaDoorW.PrintLast Go.Proofs.YtkmochnefidlmaaDoorW.PrintMore
attribute [local go_sem] max2_int min2_int max_two min_two max_three min_three max_four min_four   -- for this text's walks alone
set_option linter.unusedVariables false
set_option linter.unusedSimpArgs false

/-! ### alu_Is: function 12 -/
def alu_Is.f (k : Nat) (a0_0 : Int) (a0_1 : Int) (a0_2 : Int) (a0_3 : Int) (a0_4 : Int) (a0_5 : Int) (a0_6 : Int) (a0_7 : Int) (a0_8 : Int) (a0_9 : Int) : Option (Bool) := (inst_Shape.f a0_0).bind fun t219 => ((inst_Is.f k a0_0 a0_1 a0_2 a0_3 a0_4 a0_5 a0_6 a0_7 a0_8 a0_9).bind fun t220 => (if t220 = true then (if t219 ≤ 6 then (some true) else (some (t219 == 16))) else (some false)))
theorem alu_Is.mono : ∀ a0 a1 a2 a3 a4 a5 a6 a7 a8 a9 k, LeO (alu_Is.f k a0 a1 a2 a3 a4 a5 a6 a7 a8 a9) (alu_Is.f (k + 1) a0 a1 a2 a3 a4 a5 a6 a7 a8 a9) := by
 intro a0 a1 a2 a3 a4 a5 a6 a7 a8 a9 k
 unfold alu_Is.f
 repeat' first
   | (with_reducible exact inst_Is.mono _ _ _ _ _ _ _ _ _ _ _)
   | (with_reducible exact LeO.refl _)
   | (with_reducible exact LeO.none _)
   | (with_reducible refine LeO.ite ?_ ?_)
   | (with_reducible refine LeO.bind ?_ (fun _ => ?_))
   | exact inst_Is.mono _ _ _ _ _ _ _ _ _ _ _
   | exact LeO.none _
   | refine LeO.ite ?_ ?_
   | refine LeO.bind ?_ (fun _ => ?_)
set_option maxHeartbeats 8000000 in
set_option maxRecDepth 100000 in
theorem alu_Is.calls (k : Nat) (a0_0 : Int) (a0_1 : Int) (a0_2 : Int) (a0_3 : Int) (a0_4 : Int) (a0_5 : Int) (a0_6 : Int) (a0_7 : Int) (a0_8 : Int) (a0_9 : Int) (r : Bool) (w : World) (h : alu_Is.f k a0_0 a0_1 a0_2 a0_3 a0_4 a0_5 a0_6 a0_7 a0_8 a0_9 = some r) (hTab : TabW w := by first | exact hTab | exact TabW.drew hTab | exact TabW.drewN hTab _ | exact TabW.below hTab (by repeat (first | (with_reducible first | exact HB.out | apply below_alloc | apply pw_below_drewN | apply below_drew1) | refine Below.setCell ?_ (Aside0.out (by assumption)) _ | exact HB.out | exact Below.refl _ _))) :
    Calls Tryd.prog 12 #[.agg #[.int .i64 a0_0, .int .i64 a0_1, .int .i64 a0_2, .int .i64 a0_3, .int .i64 a0_4, .int .i64 a0_5, .int .u64 a0_6, .int .i64 a0_7, .int .i64 a0_8, .int .i64 a0_9]] w fun e w' => e = .returned (.bool r) ∧ Below w.heap.size w w' := by
 have hu25 := Tryd.underlying25
 have HB := Aside0.mk (Below.refl w.heap.size w)
 have H : ((inst_Shape.f a0_0).bind fun t219 => ((inst_Is.f k a0_0 a0_1 a0_2 a0_3 a0_4 a0_5 a0_6 a0_7 a0_8 a0_9).bind fun t220 => (if t220 = true then (if t219 ≤ 6 then (some true) else (some (t219 == 16))) else (some false)))) = some r := h
 clear h
 replace H := Option.bind_eq_some_iff.mp H
 obtain ⟨t219, A20, H⟩ := H
 replace H : ((inst_Is.f k a0_0 a0_1 a0_2 a0_3 a0_4 a0_5 a0_6 a0_7 a0_8 a0_9).bind fun t220 => (if t220 = true then (if t219 ≤ 6 then (some true) else (some (t219 == 16))) else (some false))) = some r := H
 have A2 := Aside0.mk A20
 clear A20
 replace H := Option.bind_eq_some_iff.mp H
 obtain ⟨t220, A30, H⟩ := H
 replace H : (if t220 = true then (if t219 ≤ 6 then (some true) else (some (t219 == 16))) else (some false)) = some r := H
 have A3 := Aside0.mk A30
 clear A30
 by_cases c4 : t220 = true
 ·
  subst c4
  have H1 : (if t219 ≤ 6 then (some true) else (some (t219 == 16))) = some r := by rw [if_pos rfl] at H; exact H
  clear H
  have H := H1
  clear H1
  by_cases c5 : t219 ≤ 6
  ·
   rw [if_pos c5] at H
   have c5b0 : decide (t219 ≤ 6) = true := decide_eq_true c5
   clear c5
   obtain rfl := Option.some.inj H
   go_enter Tryd.func12, Tryd.ntmps12
   go_wp2_with (first | ((with_reducible refine gate_dst (N := 1) rfl ?_); refine box_event ?hg (N := 1) ?hd (cs := #[.int .i64 a0_0, .int .i64 a0_1, .int .i64 a0_2, .int .i64 a0_3, .int .i64 a0_4, .int .i64 a0_5, .int .u64 a0_6, .int .i64 a0_7, .int .i64 a0_8, .int .i64 a0_9]) (t := 25) ?hr ?_; (case hd => rfl); (case hg => rfl); (case hr => first | (go_simp; done) | (go_simp; rfl)); intro gb218 hg w6 hbox hb; have n0_ := Aside0.mk (below_step (by repeat (first | (with_reducible first | exact HB.out | apply below_alloc | apply pw_below_drewN | apply below_drew1) | exact HB.out)) hb); have n1_ := Aside0.mk (hbox); have n2_ := Aside0.mk ((by rw [hg]; exact (below_size (by repeat (first | (with_reducible first | exact HB.out | apply below_alloc | apply pw_below_drewN | apply below_drew1) | exact HB.out))) : w.heap.size ≤ gb218)); have n3_ := Aside0.mk ((by rw [hg]; exact (below_size (by repeat (first | (with_reducible first | exact HB.out | apply below_alloc | apply pw_below_drewN | apply below_drew1) | exact HB.out))) : w.heap.size ≤ gb218)); clear HB; have HB := n0_; have BK218 := n1_; have GW218 := n2_; have GE218 := n3_; clear n0_ n1_ n2_ n3_; clear hb hbox hg; obtain ⟨hcz7_0, hcz7_1, hcz7_2, hcz7_3, hcz7_4, hcz7_5, hcz7_6, hcz7_7, hcz7_8, hcz7_9⟩ := cells10_ BK218.out; have hfz7_0 := fun j => blk_frozen BK218.out j) | ((with_reducible refine gate_callee (f := 33) rfl ?_); refine goesL_ (some 6) rfl rfl Tryd.func33 (by kernel_rfl) rfl #[.int .i64 a0_0] rfl (by (try simp only [List.map_toArray, List.map_cons, List.map_nil]); first | done | rfl | (simp only [List.length_drop, List.length_take]; rfl)) ?_; (with_reducible refine (inst_Shape.calls a0_0 t219 _ A2.out).mono ?_); rintro e w8 ⟨rfl, hb⟩; refine ⟨_, rfl, ?_⟩; have n0_ := Aside0.mk (blk_below (g := gb218) (o := .cells #[.int .i64 a0_0, .int .i64 a0_1, .int .i64 a0_2, .int .i64 a0_3, .int .i64 a0_4, .int .i64 a0_5, .int .u64 a0_6, .int .i64 a0_7, .int .i64 a0_8, .int .i64 a0_9] 25 (0, 0)) (by (with_reducible repeat (first | refine blk_drewN ?_ _ | refine blk_drew ?_ | refine blk_alloc ?_ _)); exact BK218.out) hb); have n1_ := Aside0.mk (below_step (by repeat (first | (with_reducible first | exact HB.out | apply below_alloc | apply pw_below_drewN | apply below_drew1 | refine below_set ?_ GE218.out) | exact HB.out)) hb); clear BK218; clear HB; have BK218 := n0_; have HB := n1_; clear n0_ n1_; (try clear hb); (try clear hb2); (try clear hk); (try clear hi); obtain ⟨hcz9_0, hcz9_1, hcz9_2, hcz9_3, hcz9_4, hcz9_5, hcz9_6, hcz9_7, hcz9_8, hcz9_9⟩ := cells10_ BK218.out; have hfz9_0 := fun j => blk_frozen BK218.out j) | ((with_reducible refine gate_callee (f := 16) rfl ?_); refine goesL_ (some 8) rfl rfl Tryd.func16 (by kernel_rfl) rfl #[.agg #[.int .i64 a0_0, .int .i64 a0_1, .int .i64 a0_2, .int .i64 a0_3, .int .i64 a0_4, .int .i64 a0_5, .int .u64 a0_6, .int .i64 a0_7, .int .i64 a0_8, .int .i64 a0_9]] rfl (by (try simp only [List.map_toArray, List.map_cons, List.map_nil]); first | done | rfl | (simp only [List.length_drop, List.length_take]; rfl)) ?_; (with_reducible refine (inst_Is.calls k a0_0 a0_1 a0_2 a0_3 a0_4 a0_5 a0_6 a0_7 a0_8 a0_9 true _ A3.out).mono ?_); rintro e w10 ⟨rfl, hb⟩; refine ⟨_, rfl, ?_⟩; have n0_ := Aside0.mk (blk_below (g := gb218) (o := .cells #[.int .i64 a0_0, .int .i64 a0_1, .int .i64 a0_2, .int .i64 a0_3, .int .i64 a0_4, .int .i64 a0_5, .int .u64 a0_6, .int .i64 a0_7, .int .i64 a0_8, .int .i64 a0_9] 25 (0, 0)) (by (with_reducible repeat (first | refine blk_drewN ?_ _ | refine blk_drew ?_ | refine blk_alloc ?_ _)); exact BK218.out) hb); have n1_ := Aside0.mk (below_step (by repeat (first | (with_reducible first | exact HB.out | apply below_alloc | apply pw_below_drewN | apply below_drew1 | refine below_set ?_ GE218.out) | exact HB.out)) hb); clear BK218; clear HB; have BK218 := n0_; have HB := n1_; clear n0_ n1_; (try clear hb); (try clear hb2); (try clear hk); (try clear hi)))
   go_ret
   exact ⟨by first | rfl | (simp [errW_none, errW_some] <;> rfl) | (simp [*, errW_none, errW_some] <;> rfl), by repeat (first | (with_reducible first | exact HB.out | apply below_alloc | apply pw_below_drewN | apply below_drew1 | refine below_set ?_ GE218.out) | exact HB.out)⟩
  ·
   rw [if_neg c5] at H
   have c5b0 : decide (t219 ≤ 6) = false := decide_eq_false c5
   clear c5
   obtain rfl := Option.some.inj H
   go_enter Tryd.func12, Tryd.ntmps12
   go_wp2_with (first | ((with_reducible refine gate_dst (N := 1) rfl ?_); refine box_event ?hg (N := 1) ?hd (cs := #[.int .i64 a0_0, .int .i64 a0_1, .int .i64 a0_2, .int .i64 a0_3, .int .i64 a0_4, .int .i64 a0_5, .int .u64 a0_6, .int .i64 a0_7, .int .i64 a0_8, .int .i64 a0_9]) (t := 25) ?hr ?_; (case hd => rfl); (case hg => rfl); (case hr => first | (go_simp; done) | (go_simp; rfl)); intro gb218 hg w11 hbox hb; have n0_ := Aside0.mk (below_step (by repeat (first | (with_reducible first | exact HB.out | apply below_alloc | apply pw_below_drewN | apply below_drew1) | exact HB.out)) hb); have n1_ := Aside0.mk (hbox); have n2_ := Aside0.mk ((by rw [hg]; exact (below_size (by repeat (first | (with_reducible first | exact HB.out | apply below_alloc | apply pw_below_drewN | apply below_drew1) | exact HB.out))) : w.heap.size ≤ gb218)); have n3_ := Aside0.mk ((by rw [hg]; exact (below_size (by repeat (first | (with_reducible first | exact HB.out | apply below_alloc | apply pw_below_drewN | apply below_drew1) | exact HB.out))) : w.heap.size ≤ gb218)); clear HB; have HB := n0_; have BK218 := n1_; have GW218 := n2_; have GE218 := n3_; clear n0_ n1_ n2_ n3_; clear hb hbox hg; obtain ⟨hcz12_0, hcz12_1, hcz12_2, hcz12_3, hcz12_4, hcz12_5, hcz12_6, hcz12_7, hcz12_8, hcz12_9⟩ := cells10_ BK218.out; have hfz12_0 := fun j => blk_frozen BK218.out j) | ((with_reducible refine gate_callee (f := 33) rfl ?_); refine goesL_ (some 6) rfl rfl Tryd.func33 (by kernel_rfl) rfl #[.int .i64 a0_0] rfl (by (try simp only [List.map_toArray, List.map_cons, List.map_nil]); first | done | rfl | (simp only [List.length_drop, List.length_take]; rfl)) ?_; (with_reducible refine (inst_Shape.calls a0_0 t219 _ A2.out).mono ?_); rintro e w13 ⟨rfl, hb⟩; refine ⟨_, rfl, ?_⟩; have n0_ := Aside0.mk (blk_below (g := gb218) (o := .cells #[.int .i64 a0_0, .int .i64 a0_1, .int .i64 a0_2, .int .i64 a0_3, .int .i64 a0_4, .int .i64 a0_5, .int .u64 a0_6, .int .i64 a0_7, .int .i64 a0_8, .int .i64 a0_9] 25 (0, 0)) (by (with_reducible repeat (first | refine blk_drewN ?_ _ | refine blk_drew ?_ | refine blk_alloc ?_ _)); exact BK218.out) hb); have n1_ := Aside0.mk (below_step (by repeat (first | (with_reducible first | exact HB.out | apply below_alloc | apply pw_below_drewN | apply below_drew1 | refine below_set ?_ GE218.out) | exact HB.out)) hb); clear BK218; clear HB; have BK218 := n0_; have HB := n1_; clear n0_ n1_; (try clear hb); (try clear hb2); (try clear hk); (try clear hi); obtain ⟨hcz14_0, hcz14_1, hcz14_2, hcz14_3, hcz14_4, hcz14_5, hcz14_6, hcz14_7, hcz14_8, hcz14_9⟩ := cells10_ BK218.out; have hfz14_0 := fun j => blk_frozen BK218.out j) | ((with_reducible refine gate_callee (f := 16) rfl ?_); refine goesL_ (some 8) rfl rfl Tryd.func16 (by kernel_rfl) rfl #[.agg #[.int .i64 a0_0, .int .i64 a0_1, .int .i64 a0_2, .int .i64 a0_3, .int .i64 a0_4, .int .i64 a0_5, .int .u64 a0_6, .int .i64 a0_7, .int .i64 a0_8, .int .i64 a0_9]] rfl (by (try simp only [List.map_toArray, List.map_cons, List.map_nil]); first | done | rfl | (simp only [List.length_drop, List.length_take]; rfl)) ?_; (with_reducible refine (inst_Is.calls k a0_0 a0_1 a0_2 a0_3 a0_4 a0_5 a0_6 a0_7 a0_8 a0_9 true _ A3.out).mono ?_); rintro e w15 ⟨rfl, hb⟩; refine ⟨_, rfl, ?_⟩; have n0_ := Aside0.mk (blk_below (g := gb218) (o := .cells #[.int .i64 a0_0, .int .i64 a0_1, .int .i64 a0_2, .int .i64 a0_3, .int .i64 a0_4, .int .i64 a0_5, .int .u64 a0_6, .int .i64 a0_7, .int .i64 a0_8, .int .i64 a0_9] 25 (0, 0)) (by (with_reducible repeat (first | refine blk_drewN ?_ _ | refine blk_drew ?_ | refine blk_alloc ?_ _)); exact BK218.out) hb); have n1_ := Aside0.mk (below_step (by repeat (first | (with_reducible first | exact HB.out | apply below_alloc | apply pw_below_drewN | apply below_drew1 | refine below_set ?_ GE218.out) | exact HB.out)) hb); clear BK218; clear HB; have BK218 := n0_; have HB := n1_; clear n0_ n1_; (try clear hb); (try clear hb2); (try clear hk); (try clear hi)))
   go_ret
   exact ⟨by first | rfl | (simp [errW_none, errW_some] <;> rfl) | (simp [*, errW_none, errW_some] <;> rfl), by repeat (first | (with_reducible first | exact HB.out | apply below_alloc | apply pw_below_drewN | apply below_drew1 | refine below_set ?_ GE218.out) | exact HB.out)⟩
 ·
  replace c4 := Bool.eq_false_iff.mpr c4
  subst c4
  have H1 : (some false) = some r := by rw [if_neg (show ¬ (false = true) by decide)] at H; exact H
  clear H
  have H := H1
  clear H1
  obtain rfl := Option.some.inj H
  go_enter Tryd.func12, Tryd.ntmps12
  go_wp2_with (first | ((with_reducible refine gate_dst (N := 1) rfl ?_); refine box_event ?hg (N := 1) ?hd (cs := #[.int .i64 a0_0, .int .i64 a0_1, .int .i64 a0_2, .int .i64 a0_3, .int .i64 a0_4, .int .i64 a0_5, .int .u64 a0_6, .int .i64 a0_7, .int .i64 a0_8, .int .i64 a0_9]) (t := 25) ?hr ?_; (case hd => rfl); (case hg => rfl); (case hr => first | (go_simp; done) | (go_simp; rfl)); intro gb218 hg w16 hbox hb; have n0_ := Aside0.mk (below_step (by repeat (first | (with_reducible first | exact HB.out | apply below_alloc | apply pw_below_drewN | apply below_drew1) | exact HB.out)) hb); have n1_ := Aside0.mk (hbox); have n2_ := Aside0.mk ((by rw [hg]; exact (below_size (by repeat (first | (with_reducible first | exact HB.out | apply below_alloc | apply pw_below_drewN | apply below_drew1) | exact HB.out))) : w.heap.size ≤ gb218)); have n3_ := Aside0.mk ((by rw [hg]; exact (below_size (by repeat (first | (with_reducible first | exact HB.out | apply below_alloc | apply pw_below_drewN | apply below_drew1) | exact HB.out))) : w.heap.size ≤ gb218)); clear HB; have HB := n0_; have BK218 := n1_; have GW218 := n2_; have GE218 := n3_; clear n0_ n1_ n2_ n3_; clear hb hbox hg; obtain ⟨hcz17_0, hcz17_1, hcz17_2, hcz17_3, hcz17_4, hcz17_5, hcz17_6, hcz17_7, hcz17_8, hcz17_9⟩ := cells10_ BK218.out; have hfz17_0 := fun j => blk_frozen BK218.out j) | ((with_reducible refine gate_callee (f := 33) rfl ?_); refine goesL_ (some 6) rfl rfl Tryd.func33 (by kernel_rfl) rfl #[.int .i64 a0_0] rfl (by (try simp only [List.map_toArray, List.map_cons, List.map_nil]); first | done | rfl | (simp only [List.length_drop, List.length_take]; rfl)) ?_; (with_reducible refine (inst_Shape.calls a0_0 t219 _ A2.out).mono ?_); rintro e w18 ⟨rfl, hb⟩; refine ⟨_, rfl, ?_⟩; have n0_ := Aside0.mk (blk_below (g := gb218) (o := .cells #[.int .i64 a0_0, .int .i64 a0_1, .int .i64 a0_2, .int .i64 a0_3, .int .i64 a0_4, .int .i64 a0_5, .int .u64 a0_6, .int .i64 a0_7, .int .i64 a0_8, .int .i64 a0_9] 25 (0, 0)) (by (with_reducible repeat (first | refine blk_drewN ?_ _ | refine blk_drew ?_ | refine blk_alloc ?_ _)); exact BK218.out) hb); have n1_ := Aside0.mk (below_step (by repeat (first | (with_reducible first | exact HB.out | apply below_alloc | apply pw_below_drewN | apply below_drew1 | refine below_set ?_ GE218.out) | exact HB.out)) hb); clear BK218; clear HB; have BK218 := n0_; have HB := n1_; clear n0_ n1_; (try clear hb); (try clear hb2); (try clear hk); (try clear hi); obtain ⟨hcz19_0, hcz19_1, hcz19_2, hcz19_3, hcz19_4, hcz19_5, hcz19_6, hcz19_7, hcz19_8, hcz19_9⟩ := cells10_ BK218.out; have hfz19_0 := fun j => blk_frozen BK218.out j) | ((with_reducible refine gate_callee (f := 16) rfl ?_); refine goesL_ (some 8) rfl rfl Tryd.func16 (by kernel_rfl) rfl #[.agg #[.int .i64 a0_0, .int .i64 a0_1, .int .i64 a0_2, .int .i64 a0_3, .int .i64 a0_4, .int .i64 a0_5, .int .u64 a0_6, .int .i64 a0_7, .int .i64 a0_8, .int .i64 a0_9]] rfl (by (try simp only [List.map_toArray, List.map_cons, List.map_nil]); first | done | rfl | (simp only [List.length_drop, List.length_take]; rfl)) ?_; (with_reducible refine (inst_Is.calls k a0_0 a0_1 a0_2 a0_3 a0_4 a0_5 a0_6 a0_7 a0_8 a0_9 false _ A3.out).mono ?_); rintro e w20 ⟨rfl, hb⟩; refine ⟨_, rfl, ?_⟩; have n0_ := Aside0.mk (blk_below (g := gb218) (o := .cells #[.int .i64 a0_0, .int .i64 a0_1, .int .i64 a0_2, .int .i64 a0_3, .int .i64 a0_4, .int .i64 a0_5, .int .u64 a0_6, .int .i64 a0_7, .int .i64 a0_8, .int .i64 a0_9] 25 (0, 0)) (by (with_reducible repeat (first | refine blk_drewN ?_ _ | refine blk_drew ?_ | refine blk_alloc ?_ _)); exact BK218.out) hb); have n1_ := Aside0.mk (below_step (by repeat (first | (with_reducible first | exact HB.out | apply below_alloc | apply pw_below_drewN | apply below_drew1 | refine below_set ?_ GE218.out) | exact HB.out)) hb); clear BK218; clear HB; have BK218 := n0_; have HB := n1_; clear n0_ n1_; (try clear hb); (try clear hb2); (try clear hk); (try clear hi)))
  go_ret
  exact ⟨by first | rfl | (simp [errW_none, errW_some] <;> rfl) | (simp [*, errW_none, errW_some] <;> rfl), by repeat (first | (with_reducible first | exact HB.out | apply below_alloc | apply pw_below_drewN | apply below_drew1 | refine below_set ?_ GE218.out) | exact HB.out)⟩

/-! ### alu_Do: function 11 -/
-- IMPORT Derived.MapFrom
/-- What the method of an operation makes. -/
def alu_work.f (k : Nat) (a0_0 a0_1 a0_2 a0_3 a0_4 a0_5 a0_6 a0_7 a0_8 a0_9 : Int) (a1_0 a1_1 a1_2 a1_3 : Int) (a2_0 a2_1 a2_2 a2_3 : Bool) : Option (Int × Bool × Bool × Bool × Bool) := if a0_0 = 1 then alu_worker_put.f k a0_0 a0_1 a0_2 a0_3 a0_4 a0_5 a0_6 a0_7 a0_8 a0_9 a1_0 a1_1 a1_2 a1_3 a2_0 a2_1 a2_2 a2_3 else if a0_0 = 2 then alu_worker_not.f k a0_0 a0_1 a0_2 a0_3 a0_4 a0_5 a0_6 a0_7 a0_8 a0_9 a1_0 a1_1 a1_2 a1_3 a2_0 a2_1 a2_2 a2_3 else if a0_0 = 3 then alu_worker_keep.f k a0_0 a0_1 a0_2 a0_3 a0_4 a0_5 a0_6 a0_7 a0_8 a0_9 a1_0 a1_1 a1_2 a1_3 a2_0 a2_1 a2_2 a2_3 else if a0_0 = 4 then alu_worker_add.f k a0_0 a0_1 a0_2 a0_3 a0_4 a0_5 a0_6 a0_7 a0_8 a0_9 a1_0 a1_1 a1_2 a1_3 a2_0 a2_1 a2_2 a2_3 else if a0_0 = 5 then alu_worker_sub.f k a0_0 a0_1 a0_2 a0_3 a0_4 a0_5 a0_6 a0_7 a0_8 a0_9 a1_0 a1_1 a1_2 a1_3 a2_0 a2_1 a2_2 a2_3 else if a0_0 = 6 then alu_worker_adds.f k a0_0 a0_1 a0_2 a0_3 a0_4 a0_5 a0_6 a0_7 a0_8 a0_9 a1_0 a1_1 a1_2 a1_3 a2_0 a2_1 a2_2 a2_3 else if a0_0 = 7 then alu_worker_subs.f k a0_0 a0_1 a0_2 a0_3 a0_4 a0_5 a0_6 a0_7 a0_8 a0_9 a1_0 a1_1 a1_2 a1_3 a2_0 a2_1 a2_2 a2_3 else if a0_0 = 8 then alu_worker_and.f k a0_0 a0_1 a0_2 a0_3 a0_4 a0_5 a0_6 a0_7 a0_8 a0_9 a1_0 a1_1 a1_2 a1_3 a2_0 a2_1 a2_2 a2_3 else if a0_0 = 9 then alu_worker_orr.f k a0_0 a0_1 a0_2 a0_3 a0_4 a0_5 a0_6 a0_7 a0_8 a0_9 a1_0 a1_1 a1_2 a1_3 a2_0 a2_1 a2_2 a2_3 else if a0_0 = 10 then alu_worker_eor.f k a0_0 a0_1 a0_2 a0_3 a0_4 a0_5 a0_6 a0_7 a0_8 a0_9 a1_0 a1_1 a1_2 a1_3 a2_0 a2_1 a2_2 a2_3 else if a0_0 = 11 then alu_worker_ands.f k a0_0 a0_1 a0_2 a0_3 a0_4 a0_5 a0_6 a0_7 a0_8 a0_9 a1_0 a1_1 a1_2 a1_3 a2_0 a2_1 a2_2 a2_3 else if a0_0 = 12 then alu_worker_add.f k a0_0 a0_1 a0_2 a0_3 a0_4 a0_5 a0_6 a0_7 a0_8 a0_9 a1_0 a1_1 a1_2 a1_3 a2_0 a2_1 a2_2 a2_3 else if a0_0 = 13 then alu_worker_sub.f k a0_0 a0_1 a0_2 a0_3 a0_4 a0_5 a0_6 a0_7 a0_8 a0_9 a1_0 a1_1 a1_2 a1_3 a2_0 a2_1 a2_2 a2_3 else if a0_0 = 14 then alu_worker_adds.f k a0_0 a0_1 a0_2 a0_3 a0_4 a0_5 a0_6 a0_7 a0_8 a0_9 a1_0 a1_1 a1_2 a1_3 a2_0 a2_1 a2_2 a2_3 else if a0_0 = 15 then alu_worker_subs.f k a0_0 a0_1 a0_2 a0_3 a0_4 a0_5 a0_6 a0_7 a0_8 a0_9 a1_0 a1_1 a1_2 a1_3 a2_0 a2_1 a2_2 a2_3 else if a0_0 = 16 then alu_worker_and.f k a0_0 a0_1 a0_2 a0_3 a0_4 a0_5 a0_6 a0_7 a0_8 a0_9 a1_0 a1_1 a1_2 a1_3 a2_0 a2_1 a2_2 a2_3 else if a0_0 = 17 then alu_worker_orr.f k a0_0 a0_1 a0_2 a0_3 a0_4 a0_5 a0_6 a0_7 a0_8 a0_9 a1_0 a1_1 a1_2 a1_3 a2_0 a2_1 a2_2 a2_3 else if a0_0 = 18 then alu_worker_eor.f k a0_0 a0_1 a0_2 a0_3 a0_4 a0_5 a0_6 a0_7 a0_8 a0_9 a1_0 a1_1 a1_2 a1_3 a2_0 a2_1 a2_2 a2_3 else if a0_0 = 19 then alu_worker_ands.f k a0_0 a0_1 a0_2 a0_3 a0_4 a0_5 a0_6 a0_7 a0_8 a0_9 a1_0 a1_1 a1_2 a1_3 a2_0 a2_1 a2_2 a2_3 else if a0_0 = 20 then alu_worker_madd.f a0_0 a0_1 a0_2 a0_3 a0_4 a0_5 a0_6 a0_7 a0_8 a0_9 a1_0 a1_1 a1_2 a1_3 a2_0 a2_1 a2_2 a2_3 else if a0_0 = 21 then alu_worker_msub.f a0_0 a0_1 a0_2 a0_3 a0_4 a0_5 a0_6 a0_7 a0_8 a0_9 a1_0 a1_1 a1_2 a1_3 a2_0 a2_1 a2_2 a2_3 else if a0_0 = 39 then alu_worker_csel.f a0_0 a0_1 a0_2 a0_3 a0_4 a0_5 a0_6 a0_7 a0_8 a0_9 a1_0 a1_1 a1_2 a1_3 a2_0 a2_1 a2_2 a2_3 else none
def alu_Do.f (k : Nat) (a0_0 a0_1 a0_2 a0_3 a0_4 a0_5 a0_6 a0_7 a0_8 a0_9 : Int) (a1_0 a1_1 a1_2 a1_3 : Int) (a2_0 a2_1 a2_2 a2_3 : Bool) : Option (Int × Bool × Bool × Bool × Bool × Int) := (alu_Is.f k a0_0 a0_1 a0_2 a0_3 a0_4 a0_5 a0_6 a0_7 a0_8 a0_9).bind fun t => if t = true then (alu_work.f k a0_0 a0_1 a0_2 a0_3 a0_4 a0_5 a0_6 a0_7 a0_8 a0_9 a1_0 a1_1 a1_2 a1_3 a2_0 a2_1 a2_2 a2_3).bind fun p => some (p.1, p.2.1, p.2.2.1, p.2.2.2.1, p.2.2.2.2, 0) else some (0, false, false, false, false, 1)
theorem alu_work.mono : ∀ a0_0 a0_1 a0_2 a0_3 a0_4 a0_5 a0_6 a0_7 a0_8 a0_9 a1_0 a1_1 a1_2 a1_3 a2_0 a2_1 a2_2 a2_3 k, LeO (alu_work.f k a0_0 a0_1 a0_2 a0_3 a0_4 a0_5 a0_6 a0_7 a0_8 a0_9 a1_0 a1_1 a1_2 a1_3 a2_0 a2_1 a2_2 a2_3) (alu_work.f (k + 1) a0_0 a0_1 a0_2 a0_3 a0_4 a0_5 a0_6 a0_7 a0_8 a0_9 a1_0 a1_1 a1_2 a1_3 a2_0 a2_1 a2_2 a2_3) := by
  intro a0_0 a0_1 a0_2 a0_3 a0_4 a0_5 a0_6 a0_7 a0_8 a0_9 a1_0 a1_1 a1_2 a1_3 a2_0 a2_1 a2_2 a2_3 k
  unfold alu_work.f
  repeat' first
  | (with_reducible exact alu_worker_put.mono _ _ _ _ _ _ _ _ _ _ _ _ _ _ _ _ _ _ _)
  | (with_reducible exact alu_worker_not.mono _ _ _ _ _ _ _ _ _ _ _ _ _ _ _ _ _ _ _)
  | (with_reducible exact alu_worker_keep.mono _ _ _ _ _ _ _ _ _ _ _ _ _ _ _ _ _ _ _)
  | (with_reducible exact alu_worker_add.mono _ _ _ _ _ _ _ _ _ _ _ _ _ _ _ _ _ _ _)
  | (with_reducible exact alu_worker_sub.mono _ _ _ _ _ _ _ _ _ _ _ _ _ _ _ _ _ _ _)
  | (with_reducible exact alu_worker_adds.mono _ _ _ _ _ _ _ _ _ _ _ _ _ _ _ _ _ _ _)
  | (with_reducible exact alu_worker_subs.mono _ _ _ _ _ _ _ _ _ _ _ _ _ _ _ _ _ _ _)
  | (with_reducible exact alu_worker_and.mono _ _ _ _ _ _ _ _ _ _ _ _ _ _ _ _ _ _ _)
  | (with_reducible exact alu_worker_orr.mono _ _ _ _ _ _ _ _ _ _ _ _ _ _ _ _ _ _ _)
  | (with_reducible exact alu_worker_eor.mono _ _ _ _ _ _ _ _ _ _ _ _ _ _ _ _ _ _ _)
  | (with_reducible exact alu_worker_ands.mono _ _ _ _ _ _ _ _ _ _ _ _ _ _ _ _ _ _ _)
  | (with_reducible exact LeO.refl _)
  | (with_reducible refine LeO.ite ?_ ?_)
theorem alu_Do.mono : ∀ a0_0 a0_1 a0_2 a0_3 a0_4 a0_5 a0_6 a0_7 a0_8 a0_9 a1_0 a1_1 a1_2 a1_3 a2_0 a2_1 a2_2 a2_3 k, LeO (alu_Do.f k a0_0 a0_1 a0_2 a0_3 a0_4 a0_5 a0_6 a0_7 a0_8 a0_9 a1_0 a1_1 a1_2 a1_3 a2_0 a2_1 a2_2 a2_3) (alu_Do.f (k + 1) a0_0 a0_1 a0_2 a0_3 a0_4 a0_5 a0_6 a0_7 a0_8 a0_9 a1_0 a1_1 a1_2 a1_3 a2_0 a2_1 a2_2 a2_3) := by
  intro a0_0 a0_1 a0_2 a0_3 a0_4 a0_5 a0_6 a0_7 a0_8 a0_9 a1_0 a1_1 a1_2 a1_3 a2_0 a2_1 a2_2 a2_3 k
  unfold alu_Do.f
  exact LeO.bind (alu_Is.mono _ _ _ _ _ _ _ _ _ _ _) (fun t => LeO.ite (LeO.bind (alu_work.mono _ _ _ _ _ _ _ _ _ _ _ _ _ _ _ _ _ _ _) (fun _ => LeO.refl _)) (LeO.refl _))
def alu_fn (op : Int) : Nat := if op = 1 then 19 else if op = 2 then 20 else if op = 3 then 21 else if op = 4 then 22 else if op = 5 then 23 else if op = 6 then 24 else if op = 7 then 25 else if op = 8 then 26 else if op = 9 then 27 else if op = 10 then 28 else if op = 11 then 29 else if op = 12 then 22 else if op = 13 then 23 else if op = 14 then 24 else if op = 15 then 25 else if op = 16 then 26 else if op = 17 then 27 else if op = 18 then 28 else if op = 19 then 29 else if op = 20 then 30 else if op = 21 then 31 else if op = 39 then 32 else 0
theorem alu_work.calls (k : Nat) (a0_0 a0_1 a0_2 a0_3 a0_4 a0_5 a0_6 a0_7 a0_8 a0_9 : Int) (a1_0 a1_1 a1_2 a1_3 : Int) (a2_0 a2_1 a2_2 a2_3 : Bool) (r1 : Int) (r2 r3 r4 r5 : Bool) (w : World) (h : alu_work.f k a0_0 a0_1 a0_2 a0_3 a0_4 a0_5 a0_6 a0_7 a0_8 a0_9 a1_0 a1_1 a1_2 a1_3 a2_0 a2_1 a2_2 a2_3 = some (r1, r2, r3, r4, r5)) :
    Calls Tryd.prog (alu_fn a0_0) #[.agg #[.int .i64 a0_0, .int .i64 a0_1, .int .i64 a0_2, .int .i64 a0_3, .int .i64 a0_4, .int .i64 a0_5, .int .u64 a0_6, .int .i64 a0_7, .int .i64 a0_8, .int .i64 a0_9, .int .u64 a1_0, .int .u64 a1_1, .int .u64 a1_2, .int .u64 a1_3, .bool a2_0, .bool a2_1, .bool a2_2, .bool a2_3]] w fun e w' => e = .returned (.tuple #[.int .u64 r1, .agg #[.bool r2, .bool r3, .bool r4, .bool r5]]) ∧ Below w.heap.size w w' := by
  unfold alu_work.f at h
  unfold alu_fn
  by_cases c1 : a0_0 = 1
  · rw [if_pos c1] at h ⊢
    exact alu_worker_put.calls k a0_0 a0_1 a0_2 a0_3 a0_4 a0_5 a0_6 a0_7 a0_8 a0_9 a1_0 a1_1 a1_2 a1_3 a2_0 a2_1 a2_2 a2_3 r1 r2 r3 r4 r5 w h
  rw [if_neg c1] at h ⊢
  by_cases c2 : a0_0 = 2
  · rw [if_pos c2] at h ⊢
    exact alu_worker_not.calls k a0_0 a0_1 a0_2 a0_3 a0_4 a0_5 a0_6 a0_7 a0_8 a0_9 a1_0 a1_1 a1_2 a1_3 a2_0 a2_1 a2_2 a2_3 r1 r2 r3 r4 r5 w h
  rw [if_neg c2] at h ⊢
  by_cases c3 : a0_0 = 3
  · rw [if_pos c3] at h ⊢
    exact alu_worker_keep.calls k a0_0 a0_1 a0_2 a0_3 a0_4 a0_5 a0_6 a0_7 a0_8 a0_9 a1_0 a1_1 a1_2 a1_3 a2_0 a2_1 a2_2 a2_3 r1 r2 r3 r4 r5 w h
  rw [if_neg c3] at h ⊢
  by_cases c4 : a0_0 = 4
  · rw [if_pos c4] at h ⊢
    exact alu_worker_add.calls k a0_0 a0_1 a0_2 a0_3 a0_4 a0_5 a0_6 a0_7 a0_8 a0_9 a1_0 a1_1 a1_2 a1_3 a2_0 a2_1 a2_2 a2_3 r1 r2 r3 r4 r5 w h
  rw [if_neg c4] at h ⊢
  by_cases c5 : a0_0 = 5
  · rw [if_pos c5] at h ⊢
    exact alu_worker_sub.calls k a0_0 a0_1 a0_2 a0_3 a0_4 a0_5 a0_6 a0_7 a0_8 a0_9 a1_0 a1_1 a1_2 a1_3 a2_0 a2_1 a2_2 a2_3 r1 r2 r3 r4 r5 w h
  rw [if_neg c5] at h ⊢
  by_cases c6 : a0_0 = 6
  · rw [if_pos c6] at h ⊢
    exact alu_worker_adds.calls k a0_0 a0_1 a0_2 a0_3 a0_4 a0_5 a0_6 a0_7 a0_8 a0_9 a1_0 a1_1 a1_2 a1_3 a2_0 a2_1 a2_2 a2_3 r1 r2 r3 r4 r5 w h
  rw [if_neg c6] at h ⊢
  by_cases c7 : a0_0 = 7
  · rw [if_pos c7] at h ⊢
    exact alu_worker_subs.calls k a0_0 a0_1 a0_2 a0_3 a0_4 a0_5 a0_6 a0_7 a0_8 a0_9 a1_0 a1_1 a1_2 a1_3 a2_0 a2_1 a2_2 a2_3 r1 r2 r3 r4 r5 w h
  rw [if_neg c7] at h ⊢
  by_cases c8 : a0_0 = 8
  · rw [if_pos c8] at h ⊢
    exact alu_worker_and.calls k a0_0 a0_1 a0_2 a0_3 a0_4 a0_5 a0_6 a0_7 a0_8 a0_9 a1_0 a1_1 a1_2 a1_3 a2_0 a2_1 a2_2 a2_3 r1 r2 r3 r4 r5 w h
  rw [if_neg c8] at h ⊢
  by_cases c9 : a0_0 = 9
  · rw [if_pos c9] at h ⊢
    exact alu_worker_orr.calls k a0_0 a0_1 a0_2 a0_3 a0_4 a0_5 a0_6 a0_7 a0_8 a0_9 a1_0 a1_1 a1_2 a1_3 a2_0 a2_1 a2_2 a2_3 r1 r2 r3 r4 r5 w h
  rw [if_neg c9] at h ⊢
  by_cases c10 : a0_0 = 10
  · rw [if_pos c10] at h ⊢
    exact alu_worker_eor.calls k a0_0 a0_1 a0_2 a0_3 a0_4 a0_5 a0_6 a0_7 a0_8 a0_9 a1_0 a1_1 a1_2 a1_3 a2_0 a2_1 a2_2 a2_3 r1 r2 r3 r4 r5 w h
  rw [if_neg c10] at h ⊢
  by_cases c11 : a0_0 = 11
  · rw [if_pos c11] at h ⊢
    exact alu_worker_ands.calls k a0_0 a0_1 a0_2 a0_3 a0_4 a0_5 a0_6 a0_7 a0_8 a0_9 a1_0 a1_1 a1_2 a1_3 a2_0 a2_1 a2_2 a2_3 r1 r2 r3 r4 r5 w h
  rw [if_neg c11] at h ⊢
  by_cases c12 : a0_0 = 12
  · rw [if_pos c12] at h ⊢
    exact alu_worker_add.calls k a0_0 a0_1 a0_2 a0_3 a0_4 a0_5 a0_6 a0_7 a0_8 a0_9 a1_0 a1_1 a1_2 a1_3 a2_0 a2_1 a2_2 a2_3 r1 r2 r3 r4 r5 w h
  rw [if_neg c12] at h ⊢
  by_cases c13 : a0_0 = 13
  · rw [if_pos c13] at h ⊢
    exact alu_worker_sub.calls k a0_0 a0_1 a0_2 a0_3 a0_4 a0_5 a0_6 a0_7 a0_8 a0_9 a1_0 a1_1 a1_2 a1_3 a2_0 a2_1 a2_2 a2_3 r1 r2 r3 r4 r5 w h
  rw [if_neg c13] at h ⊢
  by_cases c14 : a0_0 = 14
  · rw [if_pos c14] at h ⊢
    exact alu_worker_adds.calls k a0_0 a0_1 a0_2 a0_3 a0_4 a0_5 a0_6 a0_7 a0_8 a0_9 a1_0 a1_1 a1_2 a1_3 a2_0 a2_1 a2_2 a2_3 r1 r2 r3 r4 r5 w h
  rw [if_neg c14] at h ⊢
  by_cases c15 : a0_0 = 15
  · rw [if_pos c15] at h ⊢
    exact alu_worker_subs.calls k a0_0 a0_1 a0_2 a0_3 a0_4 a0_5 a0_6 a0_7 a0_8 a0_9 a1_0 a1_1 a1_2 a1_3 a2_0 a2_1 a2_2 a2_3 r1 r2 r3 r4 r5 w h
  rw [if_neg c15] at h ⊢
  by_cases c16 : a0_0 = 16
  · rw [if_pos c16] at h ⊢
    exact alu_worker_and.calls k a0_0 a0_1 a0_2 a0_3 a0_4 a0_5 a0_6 a0_7 a0_8 a0_9 a1_0 a1_1 a1_2 a1_3 a2_0 a2_1 a2_2 a2_3 r1 r2 r3 r4 r5 w h
  rw [if_neg c16] at h ⊢
  by_cases c17 : a0_0 = 17
  · rw [if_pos c17] at h ⊢
    exact alu_worker_orr.calls k a0_0 a0_1 a0_2 a0_3 a0_4 a0_5 a0_6 a0_7 a0_8 a0_9 a1_0 a1_1 a1_2 a1_3 a2_0 a2_1 a2_2 a2_3 r1 r2 r3 r4 r5 w h
  rw [if_neg c17] at h ⊢
  by_cases c18 : a0_0 = 18
  · rw [if_pos c18] at h ⊢
    exact alu_worker_eor.calls k a0_0 a0_1 a0_2 a0_3 a0_4 a0_5 a0_6 a0_7 a0_8 a0_9 a1_0 a1_1 a1_2 a1_3 a2_0 a2_1 a2_2 a2_3 r1 r2 r3 r4 r5 w h
  rw [if_neg c18] at h ⊢
  by_cases c19 : a0_0 = 19
  · rw [if_pos c19] at h ⊢
    exact alu_worker_ands.calls k a0_0 a0_1 a0_2 a0_3 a0_4 a0_5 a0_6 a0_7 a0_8 a0_9 a1_0 a1_1 a1_2 a1_3 a2_0 a2_1 a2_2 a2_3 r1 r2 r3 r4 r5 w h
  rw [if_neg c19] at h ⊢
  by_cases c20 : a0_0 = 20
  · rw [if_pos c20] at h ⊢
    exact alu_worker_madd.calls a0_0 a0_1 a0_2 a0_3 a0_4 a0_5 a0_6 a0_7 a0_8 a0_9 a1_0 a1_1 a1_2 a1_3 a2_0 a2_1 a2_2 a2_3 r1 r2 r3 r4 r5 w h
  rw [if_neg c20] at h ⊢
  by_cases c21 : a0_0 = 21
  · rw [if_pos c21] at h ⊢
    exact alu_worker_msub.calls a0_0 a0_1 a0_2 a0_3 a0_4 a0_5 a0_6 a0_7 a0_8 a0_9 a1_0 a1_1 a1_2 a1_3 a2_0 a2_1 a2_2 a2_3 r1 r2 r3 r4 r5 w h
  rw [if_neg c21] at h ⊢
  by_cases c39 : a0_0 = 39
  · rw [if_pos c39] at h ⊢
    exact alu_worker_csel.calls a0_0 a0_1 a0_2 a0_3 a0_4 a0_5 a0_6 a0_7 a0_8 a0_9 a1_0 a1_1 a1_2 a1_3 a2_0 a2_1 a2_2 a2_3 r1 r2 r3 r4 r5 w h
  rw [if_neg c39] at h ⊢
  cases h
/-- The entries of a map of methods, bound to one worker. -/
def ments (x : Value) : List (Int × Nat) → Nat → List MapEntry
  | [], _ => []
  | (k, f) :: r, n => { key := .int .i64 k, val := .func (.func f) #[x] #[], born := n } :: ments x r (n + 1)
theorem ments_push (x : Value) (key : Int) (f : Nat) : ∀ (L : List (Int × Nat)) (n : Nat), ments x (L ++ [(key, f)]) n = ments x L n ++ [{ key := .int .i64 key, val := .func (.func f) #[x] #[], born := n + L.length }]
  | [], n => rfl
  | (k, g) :: r, n => by
    have := ments_push x key f r (n + 1)
    simp only [List.cons_append, ments, this, List.length_cons]
    rw [show n + 1 + r.length = n + (r.length + 1) by omega]
theorem find_none (x : Value) (key : Int) : ∀ (L : List (Int × Nat)) (n i : Nat), (∀ p ∈ L, p.1 ≠ key) → Instr.findNow (.int .i64) (.int .i64 key) (ments x L n) i = some none
  | [], n, i, _ => rfl
  | (k, g) :: r, n, i, h => by
    have hk : (key == k) = false := by simpa using fun e => h (k, g) (by simp) e.symm
    simp only [ments, Instr.findNow, Instr.sameNow, if_true, hk]
    exact find_none x key r (n + 1) (i + 1) fun p hp => h p (by simp [hp])
def mfind (key : Int) : List (Int × Nat) → Option Nat
  | [] => none
  | (k, f) :: r => if key = k then some f else mfind key r
theorem find_some (x : Value) (key : Int) : ∀ (L : List (Int × Nat)) (n i f : Nat), mfind key L = some f → ∃ j, Instr.findNow (.int .i64) (.int .i64 key) (ments x L n) i = some (some (j, .func (.func f) #[x] #[]))
  | [], n, i, f, h => by cases h
  | (k, g) :: r, n, i, f, h => by
    unfold mfind at h
    by_cases e : key = k
    · rw [if_pos e] at h
      obtain rfl := Option.some.inj h
      exact ⟨i, by simp [ments, Instr.findNow, Instr.sameNow, e]⟩
    · rw [if_neg e] at h
      have hk : (key == k) = false := by simpa using e
      obtain ⟨j, hj⟩ := find_some x key r (n + 1) (i + 1) f h
      exact ⟨j, by simp only [ments, Instr.findNow, Instr.sameNow, if_true, hk]; exact hj⟩
/-- A world whose last block is such a map. -/
def mworld (W : World) (x : Value) (L : List (Int × Nat)) : World := W.alloc (.map (ments x L 0).toArray L.length)
theorem mworld_heap (W : World) (x : Value) (L : List (Int × Nat)) : (mworld W x L).heap[W.heap.size]? = some (.map (ments x L 0).toArray L.length) := by
  show (W.heap.push _)[W.heap.size]? = _
  simp
theorem push_set_ {α : Type} (a : Array α) (x y : α) : (a.push x).setIfInBounds a.size y = a.push y := by
  apply Array.ext'
  simp
theorem mworld_cell (W : World) (x : Value) (L : List (Int × Nat)) (a : Addr) (h : a.block < W.heap.size) : (mworld W x L).cell? a = W.cell? a := by
  unfold mworld
  exact World.cell?_of_block (w := W) (by rw [Below.heap_alloc W _ a.block h])
theorem mput (W : World) (x : Value) (L : List (Int × Nat)) (key : Int) (f : Nat) (h : ∀ p ∈ L, p.1 ≠ key) :
    Sem.run Tryd.prog (Instr.mapUpdate 51 (.map (some W.heap.size)) (.int .i64 key) (.func (.func f) #[x] #[])) (mworld W x L) = .ok () (mworld W x (L ++ [(key, f)])) := by
  have hb := mworld_heap W x L
  have hf := find_none x key L 0 0 h
  simp [Instr.mapUpdate, run_underlying Tryd.underlying51, MapKept.run_getObj_map hb, MapKept.run_checkKey (d := .int .i64) (k := .int .i64 key) Tryd.underlying3 (by simp [MapKept.IsKey]), MapKept.run_findKey Tryd.underlying3 hf, MapKept.run_setObj_map _ hb, Result.andThen]
  rw [show (mworld W x L).heap = W.heap.push (.map (ments x L 0).toArray L.length) from rfl, push_set_]
  unfold mworld
  rw [ments_push, List.length_append]
  simp only [List.push_toArray, Nat.zero_add, List.length_singleton]
  rfl
theorem mlook (W : World) (x : Value) (L : List (Int × Nat)) (key : Int) (f : Nat) (h : mfind key L = some f) :
    Sem.run Tryd.prog (Instr.lookup 51 (.map (some W.heap.size)) (.int .i64 key) false) (mworld W x L) = .ok (.func (.func f) #[x] #[]) (mworld W x L) := by
  have hb := mworld_heap W x L
  obtain ⟨j, hj⟩ := find_some x key L 0 0 f h
  simp [Instr.lookup, run_underlying Tryd.underlying51, MapKept.run_getObj_map hb, MapKept.run_checkKey (d := .int .i64) (k := .int .i64 key) Tryd.underlying3 (by simp [MapKept.IsKey]), MapKept.run_findKey Tryd.underlying3 hj, Result.andThen]
theorem mmake (W : World) (x : Value) : Sem.run Tryd.prog (Instr.makeMap 51 none) W = .ok (.map (some W.heap.size)) (mworld W x []) := by
  simp [Instr.makeMap, run_underlying Tryd.underlying51, Result.andThen, mworld, ments]
/-- THE WALK OF Do. -/
theorem hl_ (w : World) (o : Obj) : (w.alloc o).heap[w.heap.size]? = some o := by
  show (w.heap.push o)[w.heap.size]? = _
  simp
def mKeys : List (Int × Nat) := [(1, 19), (2, 20), (3, 21), (4, 22), (5, 23), (6, 24), (7, 25), (8, 26), (9, 27), (10, 28), (11, 29), (12, 22), (13, 23), (14, 24), (15, 25), (16, 26), (17, 27), (18, 28), (19, 29), (20, 30), (21, 31), (39, 32)]
def mW (W : World) (x : Value) (j : Nat) : World := mworld W x (mKeys.take j)
theorem mW_put (W : World) (x : Value) (M j : Nat) (key : Int) (f : Nat) (hM : M = W.heap.size) (hj : mKeys.take (j + 1) = mKeys.take j ++ [(key, f)]) (h : (mKeys.take j).all (fun p => p.1 != key) = true) :
    Sem.run Tryd.prog (Instr.mapUpdate 51 (.map (some M)) (.int .i64 key) (.func (.func f) #[x] #[])) (mW W x j) = .ok () (mW W x (j + 1)) := by
  subst hM
  unfold mW
  rw [hj]
  exact mput W x _ key f fun p hp => by simpa using List.all_eq_true.1 h p hp
theorem mW_make (W : World) (x : Value) (M : Nat) (hM : M = W.heap.size) : Sem.run Tryd.prog (Instr.makeMap 51 none) W = .ok (.map (some M)) (mW W x 0) := by
  subst hM
  exact mmake W x
theorem mW_cell (W : World) (x : Value) (j : Nat) (a : Addr) (v : Value) (h : a.block < W.heap.size) (hc : W.cell? a = some v) : (mW W x j).cell? a = some v := (mworld_cell W x _ a h).trans hc
theorem mW_below {B : Nat} {a W : World} (h : Below B a W) (hB : B ≤ W.heap.size) (x : Value) (j : Nat) : Below B a (mW W x j) := h.alloc hB _
theorem mW_block (W : World) (x : Value) (j g : Nat) (h : g < W.heap.size) : (mW W x j).heap[g]? = W.heap[g]? := Below.heap_alloc W _ g h
theorem alu_key {op : Int} (h : op = 1 ∨ op = 2 ∨ op = 3 ∨ op = 4 ∨ op = 5 ∨ op = 6 ∨ op = 7 ∨ op = 8 ∨ op = 9 ∨ op = 10 ∨ op = 11 ∨ op = 12 ∨ op = 13 ∨ op = 14 ∨ op = 15 ∨ op = 16 ∨ op = 17 ∨ op = 18 ∨ op = 19 ∨ op = 20 ∨ op = 21 ∨ op = 39) : mfind op mKeys = some (alu_fn op) := by
  rcases h with rfl | rfl | rfl | rfl | rfl | rfl | rfl | rfl | rfl | rfl | rfl | rfl | rfl | rfl | rfl | rfl | rfl | rfl | rfl | rfl | rfl | rfl <;> rfl
theorem alu_enters {op : Int} (h : op = 1 ∨ op = 2 ∨ op = 3 ∨ op = 4 ∨ op = 5 ∨ op = 6 ∨ op = 7 ∨ op = 8 ∨ op = 9 ∨ op = 10 ∨ op = 11 ∨ op = 12 ∨ op = 13 ∨ op = 14 ∨ op = 15 ∨ op = 16 ∨ op = 17 ∨ op = 18 ∨ op = 19 ∨ op = 20 ∨ op = 21 ∨ op = 39) (x : Value) (W : World) : Sem.run Tryd.prog (callFunc (alu_fn op) #[x]) W = .ok (.enter (alu_fn op) #[x]) W := by
  rcases h with rfl | rfl | rfl | rfl | rfl | rfl | rfl | rfl | rfl | rfl | rfl | rfl | rfl | rfl | rfl | rfl | rfl | rfl | rfl | rfl | rfl | rfl
  · exact enters_ Tryd.func19 (by kernel_rfl) rfl _ _
  · exact enters_ Tryd.func20 (by kernel_rfl) rfl _ _
  · exact enters_ Tryd.func21 (by kernel_rfl) rfl _ _
  · exact enters_ Tryd.func22 (by kernel_rfl) rfl _ _
  · exact enters_ Tryd.func23 (by kernel_rfl) rfl _ _
  · exact enters_ Tryd.func24 (by kernel_rfl) rfl _ _
  · exact enters_ Tryd.func25 (by kernel_rfl) rfl _ _
  · exact enters_ Tryd.func26 (by kernel_rfl) rfl _ _
  · exact enters_ Tryd.func27 (by kernel_rfl) rfl _ _
  · exact enters_ Tryd.func28 (by kernel_rfl) rfl _ _
  · exact enters_ Tryd.func29 (by kernel_rfl) rfl _ _
  · exact enters_ Tryd.func22 (by kernel_rfl) rfl _ _
  · exact enters_ Tryd.func23 (by kernel_rfl) rfl _ _
  · exact enters_ Tryd.func24 (by kernel_rfl) rfl _ _
  · exact enters_ Tryd.func25 (by kernel_rfl) rfl _ _
  · exact enters_ Tryd.func26 (by kernel_rfl) rfl _ _
  · exact enters_ Tryd.func27 (by kernel_rfl) rfl _ _
  · exact enters_ Tryd.func28 (by kernel_rfl) rfl _ _
  · exact enters_ Tryd.func29 (by kernel_rfl) rfl _ _
  · exact enters_ Tryd.func30 (by kernel_rfl) rfl _ _
  · exact enters_ Tryd.func31 (by kernel_rfl) rfl _ _
  · exact enters_ Tryd.func32 (by kernel_rfl) rfl _ _
theorem alu_op {k : Nat} {a0_0 a0_1 a0_2 a0_3 a0_4 a0_5 a0_6 a0_7 a0_8 a0_9 : Int} {a1_0 a1_1 a1_2 a1_3 : Int} {a2_0 a2_1 a2_2 a2_3 : Bool} {p : Int × Bool × Bool × Bool × Bool} (h : alu_work.f k a0_0 a0_1 a0_2 a0_3 a0_4 a0_5 a0_6 a0_7 a0_8 a0_9 a1_0 a1_1 a1_2 a1_3 a2_0 a2_1 a2_2 a2_3 = some p) : a0_0 = 1 ∨ a0_0 = 2 ∨ a0_0 = 3 ∨ a0_0 = 4 ∨ a0_0 = 5 ∨ a0_0 = 6 ∨ a0_0 = 7 ∨ a0_0 = 8 ∨ a0_0 = 9 ∨ a0_0 = 10 ∨ a0_0 = 11 ∨ a0_0 = 12 ∨ a0_0 = 13 ∨ a0_0 = 14 ∨ a0_0 = 15 ∨ a0_0 = 16 ∨ a0_0 = 17 ∨ a0_0 = 18 ∨ a0_0 = 19 ∨ a0_0 = 20 ∨ a0_0 = 21 ∨ a0_0 = 39 := by
  unfold alu_work.f at h
  by_cases c1 : a0_0 = 1
  · omega
  rw [if_neg c1] at h
  by_cases c2 : a0_0 = 2
  · omega
  rw [if_neg c2] at h
  by_cases c3 : a0_0 = 3
  · omega
  rw [if_neg c3] at h
  by_cases c4 : a0_0 = 4
  · omega
  rw [if_neg c4] at h
  by_cases c5 : a0_0 = 5
  · omega
  rw [if_neg c5] at h
  by_cases c6 : a0_0 = 6
  · omega
  rw [if_neg c6] at h
  by_cases c7 : a0_0 = 7
  · omega
  rw [if_neg c7] at h
  by_cases c8 : a0_0 = 8
  · omega
  rw [if_neg c8] at h
  by_cases c9 : a0_0 = 9
  · omega
  rw [if_neg c9] at h
  by_cases c10 : a0_0 = 10
  · omega
  rw [if_neg c10] at h
  by_cases c11 : a0_0 = 11
  · omega
  rw [if_neg c11] at h
  by_cases c12 : a0_0 = 12
  · omega
  rw [if_neg c12] at h
  by_cases c13 : a0_0 = 13
  · omega
  rw [if_neg c13] at h
  by_cases c14 : a0_0 = 14
  · omega
  rw [if_neg c14] at h
  by_cases c15 : a0_0 = 15
  · omega
  rw [if_neg c15] at h
  by_cases c16 : a0_0 = 16
  · omega
  rw [if_neg c16] at h
  by_cases c17 : a0_0 = 17
  · omega
  rw [if_neg c17] at h
  by_cases c18 : a0_0 = 18
  · omega
  rw [if_neg c18] at h
  by_cases c19 : a0_0 = 19
  · omega
  rw [if_neg c19] at h
  by_cases c20 : a0_0 = 20
  · omega
  rw [if_neg c20] at h
  by_cases c21 : a0_0 = 21
  · omega
  rw [if_neg c21] at h
  by_cases c39 : a0_0 = 39
  · omega
  rw [if_neg c39] at h
  cases h
theorem al4 (w : World) (o0 o1 o2 o3 : Obj) : ((((w.alloc o0).alloc o1).alloc o2).alloc o3).heap[w.heap.size]? = some o0 ∧ ((((w.alloc o0).alloc o1).alloc o2).alloc o3).heap[w.heap.size + 1]? = some o1 ∧ ((((w.alloc o0).alloc o1).alloc o2).alloc o3).heap[w.heap.size + 2]? = some o2 ∧ ((((w.alloc o0).alloc o1).alloc o2).alloc o3).heap[w.heap.size + 3]? = some o3 ∧ w.heap.size + 4 = ((((w.alloc o0).alloc o1).alloc o2).alloc o3).heap.size := by
  have s1 : w.heap.size + 1 = (w.alloc o0).heap.size := by show _ = (w.heap.push _).size; rw [Array.size_push]
  have s2 : w.heap.size + 2 = ((w.alloc o0).alloc o1).heap.size := by show _ = ((w.alloc o0).heap.push _).size; rw [Array.size_push, ← s1]
  have s3 : w.heap.size + 3 = (((w.alloc o0).alloc o1).alloc o2).heap.size := by show _ = (((w.alloc o0).alloc o1).heap.push _).size; rw [Array.size_push, ← s2]
  refine ⟨blk_alloc (blk_alloc (blk_alloc (hl_ w o0) _) _) _, ?_, ?_, ?_, ?_⟩
  · rw [s1]; exact blk_alloc (blk_alloc (hl_ _ o1) _) _
  · rw [s2]; exact blk_alloc (hl_ _ o2) _
  · rw [s3]; exact hl_ _ o3
  · show _ = ((((w.alloc o0).alloc o1).alloc o2).heap.push _).size; rw [Array.size_push, ← s3]
theorem mKeys_take : mKeys.take 22 = mKeys := rfl
theorem mW_look (W : World) (x : Value) (M : Nat) (hM : M = W.heap.size) (key : Int) (f : Nat) (h : mfind key mKeys = some f) : Sem.run Tryd.prog (Instr.lookup 51 (.map (some M)) (.int .i64 key) false) (mW W x 22) = .ok (.func (.func f) #[x] #[]) (mW W x 22) := by
  subst hM
  unfold mW
  rw [mKeys_take]
  exact mlook W x mKeys key f h
theorem results_tct {P : Program} {fn : Func} {p u z : Tmp} {ty : TypeId} (h : fn.results = #[.tmp u, .cell p ty, .tmp z]) (tmps : Array Value) (w : World) (g : Nat) (t : TypeId) (cs : Array Value) (fr : Nat × Nat) (d : TypeDesc)
    (hp : tmps.getD p undef = .pointer (some ⟨g, 0, none⟩)) (hg : w.heap[g]? = some (.cells cs t fr))
    (hu : P.underlying ty = some d) (hd : (match d with | .struct _ | .array _ _ => true | _ => false) = true) (hi : (P.info? ty).map (·.size) = some cs.size) :
    (results fn tmps).run P w = .ok (.tuple #[tmps.getD u undef, .agg cs, tmps.getD z undef]) w := by
  have hp' : tmps[p]?.getD undef = .pointer (some ⟨g, 0, none⟩) := by simpa using hp
  simp [results, h, hp', asAddr, run_loadVar_row w g t ty cs fr d hg hu hd hi]
section
variable {P : Program} {ops : Array Oper} {Q : Exit → Act → World → Prop} {rest : List Oper}
theorem stepV {oi : Oper} {a : Act} {w w1 : World} {v : Value} (N : Option Tmp) (hd : oi.dst = N) (hg : oi.guard = none) (hrun : (execOp a.eval oi).run P w = .ok (.value v) w1) {a' : Act} (ha : a.put N v = a') (h : wpList P ops Q rest a' w1) : wpList P ops Q (oi :: rest) a w := by
  subst ha
  refine wpList_plain hg fun K hK => ?_
  unfold Oper.wp
  rw [hrun]
  subst hd
  exact hK _ _ h
theorem stepS {oi : Oper} {a : Act} {w w1 : World} (hd : oi.dst = none) (hg : oi.guard = none) (hrun : (execOp a.eval oi).run P w = .ok .skip w1) (h : wpList P ops Q rest a w1) : wpList P ops Q (oi :: rest) a w := by
  refine wpList_plain hg fun K hK => ?_
  unfold Oper.wp
  rw [hrun]
  refine hK _ _ ?_
  rw [hd]
  exact h
theorem exec_load {oi : Oper} {a : Act} {w : World} {v : Value} {t : TypeId} {p : Operand} (hop : oi.op = .load t p) (hrun : Sem.run P (Instr.loadAt t (a.eval p)) w = .ok v w) : (execOp a.eval oi).run P w = .ok (.value v) w := by
  unfold execOp
  simp [hop, hrun, Result.andThen]
theorem exec_fn {oi : Oper} {a : Act} {w : World} {f : Nat} {t : Tmp} (x : Value) (hop : oi.op = .makeFunc (.func f) #[.tmp t] #[]) (he : a.eval (.tmp t) = x) : (execOp a.eval oi).run P w = .ok (.value (.func (.func f) #[x] #[])) w := by
  subst he
  unfold execOp
  simp [hop, Instr.makeFunc]
theorem exec_ins {oi : Oper} {a : Act} {w w1 : World} {t : TypeId} {m k v : Operand} (hop : oi.op = .insert t m k v) (hrun : Sem.run P (Instr.mapUpdate t (a.eval m) (a.eval k) (a.eval v)) w = .ok () w1) : (execOp a.eval oi).run P w = .ok .skip w1 := by
  unfold execOp
  simp [hop, hrun, Result.andThen]
theorem exec_mk {oi : Oper} {a : Act} {w w1 : World} {v : Value} {t : TypeId} (hop : oi.op = .makeMap t none) (hrun : Sem.run P (Instr.makeMap t none) w = .ok v w1) : (execOp a.eval oi).run P w = .ok (.value v) w1 := by
  unfold execOp
  simp [hop, hrun, Result.andThen]
theorem exec_move {P : Program} {oi : Oper} {a : Act} {w : World} {x : Operand} (v : Value) (hop : oi.op = .move x) (he : a.eval x = v) : (execOp a.eval oi).run P w = .ok (.value v) w := by
  subst he
  unfold execOp
  simp [hop]
theorem exec_assign {P : Program} {oi : Oper} {a : Act} {w : World} {x : Operand} (v : Value) (hop : oi.op = .assign x) (he : a.eval x = v) : (execOp a.eval oi).run P w = .ok (.value v) w := by
  subst he
  unfold execOp
  simp [hop]
end
theorem load10 (W : World) (B : Nat) (v0 v1 v2 v3 v4 v5 v6 v7 v8 v9 : Value) (h : W.heap[B]? = some (.cells #[v0, v1, v2, v3, v4, v5, v6, v7, v8, v9] 25 (0, 0))) : Sem.run Tryd.prog (Instr.loadAt 25 (.pointer (some ⟨B, 0, none⟩))) W = .ok (.agg #[v0, v1, v2, v3, v4, v5, v6, v7, v8, v9]) W := by
  have c0 : W.cell? ⟨B, 0, none⟩ = some v0 := (blk_cell h 0).trans rfl
  have c1 : W.cell? ⟨B, 1, none⟩ = some v1 := (blk_cell h 1).trans rfl
  have c2 : W.cell? ⟨B, 2, none⟩ = some v2 := (blk_cell h 2).trans rfl
  have c3 : W.cell? ⟨B, 3, none⟩ = some v3 := (blk_cell h 3).trans rfl
  have c4 : W.cell? ⟨B, 4, none⟩ = some v4 := (blk_cell h 4).trans rfl
  have c5 : W.cell? ⟨B, 5, none⟩ = some v5 := (blk_cell h 5).trans rfl
  have c6 : W.cell? ⟨B, 6, none⟩ = some v6 := (blk_cell h 6).trans rfl
  have c7 : W.cell? ⟨B, 7, none⟩ = some v7 := (blk_cell h 7).trans rfl
  have c8 : W.cell? ⟨B, 8, none⟩ = some v8 := (blk_cell h 8).trans rfl
  have c9 : W.cell? ⟨B, 9, none⟩ = some v9 := (blk_cell h 9).trans rfl
  go_simp
theorem load4a (W : World) (B : Nat) (v0 v1 v2 v3 : Value) (h : W.heap[B]? = some (.cells #[v0, v1, v2, v3] 29 (0, 0))) : Sem.run Tryd.prog (Instr.loadAt 29 (.pointer (some ⟨B, 0, none⟩))) W = .ok (.agg #[v0, v1, v2, v3]) W := by
  have c0 : W.cell? ⟨B, 0, none⟩ = some v0 := (blk_cell h 0).trans rfl
  have c1 : W.cell? ⟨B, 1, none⟩ = some v1 := (blk_cell h 1).trans rfl
  have c2 : W.cell? ⟨B, 2, none⟩ = some v2 := (blk_cell h 2).trans rfl
  have c3 : W.cell? ⟨B, 3, none⟩ = some v3 := (blk_cell h 3).trans rfl
  go_simp
theorem load4f (W : World) (B : Nat) (v0 v1 v2 v3 : Value) (h : W.heap[B]? = some (.cells #[v0, v1, v2, v3] 35 (0, 0))) : Sem.run Tryd.prog (Instr.loadAt 35 (.pointer (some ⟨B, 0, none⟩))) W = .ok (.agg #[v0, v1, v2, v3]) W := by
  have c0 : W.cell? ⟨B, 0, none⟩ = some v0 := (blk_cell h 0).trans rfl
  have c1 : W.cell? ⟨B, 1, none⟩ = some v1 := (blk_cell h 1).trans rfl
  have c2 : W.cell? ⟨B, 2, none⟩ = some v2 := (blk_cell h 2).trans rfl
  have c3 : W.cell? ⟨B, 3, none⟩ = some v3 := (blk_cell h 3).trans rfl
  go_simp
theorem build18 (W : World) (v0 v1 v2 v3 v4 v5 v6 v7 v8 v9 v10 v11 v12 v13 v14 v15 v16 v17 : Value) : Sem.run Tryd.prog (Instr.build 49 #[(0, .agg #[v0, v1, v2, v3, v4, v5, v6, v7, v8, v9]), (1, .agg #[v10, v11, v12, v13]), (2, .agg #[v14, v15, v16, v17])]) W = .ok (.agg #[v0, v1, v2, v3, v4, v5, v6, v7, v8, v9, v10, v11, v12, v13, v14, v15, v16, v17]) W := by kernel_rfl
theorem alloc18 (W : World) : Sem.run Tryd.prog (Instr.alloc 49 true (.tuple #[])) W = .ok (.pointer (some ⟨W.heap.size, 0, none⟩)) (W.alloc (.cells #[.int .i64 0, .int .i64 0, .int .i64 0, .int .i64 0, .int .i64 0, .int .i64 0, .int .u64 0, .int .i64 0, .int .i64 0, .int .i64 0, .int .u64 0, .int .u64 0, .int .u64 0, .int .u64 0, .bool false, .bool false, .bool false, .bool false] 49)) := by
  go_simp
theorem store18 (W : World) (B : Nat) (hB : B = W.heap.size) (v0 v1 v2 v3 v4 v5 v6 v7 v8 v9 v10 v11 v12 v13 : Int) (v14 v15 v16 v17 : Bool) : Sem.run Tryd.prog (Instr.storeAt 49 (.pointer (some ⟨B, 0, none⟩)) (.agg #[.int .i64 v0, .int .i64 v1, .int .i64 v2, .int .i64 v3, .int .i64 v4, .int .i64 v5, .int .u64 v6, .int .i64 v7, .int .i64 v8, .int .i64 v9, .int .u64 v10, .int .u64 v11, .int .u64 v12, .int .u64 v13, .bool v14, .bool v15, .bool v16, .bool v17])) (W.alloc (.cells #[.int .i64 0, .int .i64 0, .int .i64 0, .int .i64 0, .int .i64 0, .int .i64 0, .int .u64 0, .int .i64 0, .int .i64 0, .int .i64 0, .int .u64 0, .int .u64 0, .int .u64 0, .int .u64 0, .bool false, .bool false, .bool false, .bool false] 49)) = .ok () (W.alloc (.cells #[.int .i64 v0, .int .i64 v1, .int .i64 v2, .int .i64 v3, .int .i64 v4, .int .i64 v5, .int .u64 v6, .int .i64 v7, .int .i64 v8, .int .i64 v9, .int .u64 v10, .int .u64 v11, .int .u64 v12, .int .u64 v13, .bool v14, .bool v15, .bool v16, .bool v17] 49)) := by
  subst hB
  have h := run_storeVar_new (P := Tryd.prog) W 49 #[.int .i64 0, .int .i64 0, .int .i64 0, .int .i64 0, .int .i64 0, .int .i64 0, .int .u64 0, .int .i64 0, .int .i64 0, .int .i64 0, .int .u64 0, .int .u64 0, .int .u64 0, .int .u64 0, .bool false, .bool false, .bool false, .bool false] #[.int .i64 v0, .int .i64 v1, .int .i64 v2, .int .i64 v3, .int .i64 v4, .int .i64 v5, .int .u64 v6, .int .i64 v7, .int .i64 v8, .int .i64 v9, .int .u64 v10, .int .u64 v11, .int .u64 v12, .int .u64 v13, .bool v14, .bool v15, .bool v16, .bool v17] (by kernel_rfl) rfl (by simp [Value.oneCell'])
  exact h
section
variable {P : Program}
theorem exec_build {oi : Oper} {a : Act} {w : World} {v : Value} {t : TypeId} {i j k : Operand} (hop : oi.op = .build t #[(0, i), (1, j), (2, k)]) (hrun : Sem.run P (Instr.build t #[(0, a.eval i), (1, a.eval j), (2, a.eval k)]) w = .ok v w) : (execOp a.eval oi).run P w = .ok (.value v) w := by
  unfold execOp
  simp [hop, hrun, Result.andThen]
theorem exec_alloc {oi : Oper} {a : Act} {w w1 : World} {v : Value} {t : TypeId} (hop : oi.op = .alloc t) (hrun : Sem.run P (Instr.alloc t true (.tuple #[])) w = .ok v w1) : (execOp a.eval oi).run P w = .ok (.value v) w1 := by
  unfold execOp
  simp [hop, hrun, Result.andThen]
theorem exec_store {oi : Oper} {a : Act} {w w1 : World} {t : TypeId} {m v : Operand} (hop : oi.op = .store t m v) (hrun : Sem.run P (Instr.storeAt t (a.eval m) (a.eval v)) w = .ok () w1) : (execOp a.eval oi).run P w = .ok .skip w1 := by
  unfold execOp
  simp [hop, hrun, Result.andThen]
end
set_option maxHeartbeats 4000000 in
theorem load18 (W : World) (B : Nat) (v0 v1 v2 v3 v4 v5 v6 v7 v8 v9 v10 v11 v12 v13 v14 v15 v16 v17 : Value) (h : W.heap[B]? = some (.cells #[v0, v1, v2, v3, v4, v5, v6, v7, v8, v9, v10, v11, v12, v13, v14, v15, v16, v17] 49 (0, 0))) : Sem.run Tryd.prog (Instr.loadAt 49 (.pointer (some ⟨B, 0, none⟩))) W = .ok (.agg #[v0, v1, v2, v3, v4, v5, v6, v7, v8, v9, v10, v11, v12, v13, v14, v15, v16, v17]) W := by
  have c0 : W.cell? ⟨B, 0, none⟩ = some v0 := (blk_cell h 0).trans rfl
  have c1 : W.cell? ⟨B, 1, none⟩ = some v1 := (blk_cell h 1).trans rfl
  have c2 : W.cell? ⟨B, 2, none⟩ = some v2 := (blk_cell h 2).trans rfl
  have c3 : W.cell? ⟨B, 3, none⟩ = some v3 := (blk_cell h 3).trans rfl
  have c4 : W.cell? ⟨B, 4, none⟩ = some v4 := (blk_cell h 4).trans rfl
  have c5 : W.cell? ⟨B, 5, none⟩ = some v5 := (blk_cell h 5).trans rfl
  have c6 : W.cell? ⟨B, 6, none⟩ = some v6 := (blk_cell h 6).trans rfl
  have c7 : W.cell? ⟨B, 7, none⟩ = some v7 := (blk_cell h 7).trans rfl
  have c8 : W.cell? ⟨B, 8, none⟩ = some v8 := (blk_cell h 8).trans rfl
  have c9 : W.cell? ⟨B, 9, none⟩ = some v9 := (blk_cell h 9).trans rfl
  have c10 : W.cell? ⟨B, 10, none⟩ = some v10 := (blk_cell h 10).trans rfl
  have c11 : W.cell? ⟨B, 11, none⟩ = some v11 := (blk_cell h 11).trans rfl
  have c12 : W.cell? ⟨B, 12, none⟩ = some v12 := (blk_cell h 12).trans rfl
  have c13 : W.cell? ⟨B, 13, none⟩ = some v13 := (blk_cell h 13).trans rfl
  have c14 : W.cell? ⟨B, 14, none⟩ = some v14 := (blk_cell h 14).trans rfl
  have c15 : W.cell? ⟨B, 15, none⟩ = some v15 := (blk_cell h 15).trans rfl
  have c16 : W.cell? ⟨B, 16, none⟩ = some v16 := (blk_cell h 16).trans rfl
  have c17 : W.cell? ⟨B, 17, none⟩ = some v17 := (blk_cell h 17).trans rfl
  go_simp
set_option maxHeartbeats 400000000 in
set_option maxRecDepth 100000 in
theorem alu_Do.calls (k : Nat) (a0_0 a0_1 a0_2 a0_3 a0_4 a0_5 a0_6 a0_7 a0_8 a0_9 : Int) (a1_0 a1_1 a1_2 a1_3 : Int) (a2_0 a2_1 a2_2 a2_3 : Bool) (r1 : Int) (r2 r3 r4 r5 : Bool) (r6 : Int) (w : World) (h : alu_Do.f k a0_0 a0_1 a0_2 a0_3 a0_4 a0_5 a0_6 a0_7 a0_8 a0_9 a1_0 a1_1 a1_2 a1_3 a2_0 a2_1 a2_2 a2_3 = some (r1, r2, r3, r4, r5, r6)) (hTab : TabW w := by first | exact hTab | exact TabW.drew hTab | exact TabW.drewN hTab _ | exact TabW.below hTab (by repeat (first | (with_reducible first | exact HB.out | apply below_alloc | apply pw_below_drewN | apply below_drew1) | refine Below.setCell ?_ (Aside0.out (by assumption)) _ | exact HB.out | exact Below.refl _ _))) :
    Calls Tryd.prog 11 #[.agg #[.int .i64 a0_0, .int .i64 a0_1, .int .i64 a0_2, .int .i64 a0_3, .int .i64 a0_4, .int .i64 a0_5, .int .u64 a0_6, .int .i64 a0_7, .int .i64 a0_8, .int .i64 a0_9], .agg #[.int .u64 a1_0, .int .u64 a1_1, .int .u64 a1_2, .int .u64 a1_3], .agg #[.bool a2_0, .bool a2_1, .bool a2_2, .bool a2_3]] w fun e w' => e = .returned (.tuple #[.int .u64 r1, .agg #[.bool r2, .bool r3, .bool r4, .bool r5], .int .i64 r6]) ∧ Below w.heap.size w w' := by
  unfold alu_Do.f at h
  obtain ⟨t, ht, h⟩ := Option.bind_eq_some_iff.mp h
  have A1 := Aside0.mk ht
  have HT := Aside0.mk (fun (W : World) (hb : Below w.heap.size w W) => TabW.below hTab hb)
  clear ht hTab
  by_cases c : t = true
  · subst c
    rw [if_pos rfl] at h
    obtain ⟨⟨p1, p2, p3, p4, p5⟩, hp, h⟩ := Option.bind_eq_some_iff.mp h
    obtain ⟨rfl, rfl, rfl, rfl, rfl, rfl⟩ : p1 = r1 ∧ p2 = r2 ∧ p3 = r3 ∧ p4 = r4 ∧ p5 = r5 ∧ 0 = r6 := by simpa using h
    have hop := alu_op hp
    have A2 := Aside0.mk hp
    have OP := Aside0.mk hop
    clear hp h hop
    go_enter Tryd.func11, Tryd.ntmps11
    go_upto_region 3 with (first | (go_at_call 12; refine (alu_Is.calls k a0_0 a0_1 a0_2 a0_3 a0_4 a0_5 a0_6 a0_7 a0_8 a0_9 true _ A1.out (HT.out _ (below_alloc (below_alloc (below_alloc (below_alloc (Below.refl _ _) _) _) _) _))).mono ?_; rintro e w1 ⟨rfl, hb1⟩; obtain ⟨q0, q1, q2, q3, q4⟩ := al4 w (.cells #[.int .i64 a0_0, .int .i64 a0_1, .int .i64 a0_2, .int .i64 a0_3, .int .i64 a0_4, .int .i64 a0_5, .int .u64 a0_6, .int .i64 a0_7, .int .i64 a0_8, .int .i64 a0_9] 25) (.cells #[.int .u64 a1_0, .int .u64 a1_1, .int .u64 a1_2, .int .u64 a1_3] 29) (.cells #[.bool a2_0, .bool a2_1, .bool a2_2, .bool a2_3] 35) (.cells #[.bool false, .bool false, .bool false, .bool false] 35); have bkA := (hb1.block w.heap.size (by omega)).trans q0; have bkB := (hb1.block (w.heap.size + 1) (by omega)).trans q1; have bkC := (hb1.block (w.heap.size + 2) (by omega)).trans q2; have bkR := Aside0.mk ((hb1.block (w.heap.size + 3) (by omega)).trans q3); have hsz := Aside0.mk (Nat.le_trans (Nat.le_of_eq q4) hb1.size); have HB := Aside0.mk (below_step (below_alloc (below_alloc (below_alloc (below_alloc (Below.refl _ _) _) _) _) _) hb1); have BKA := Aside0.mk bkA; have BKB := Aside0.mk bkB; have BKC := Aside0.mk bkC; clear bkA bkB bkC q0 q1 q2 q3 q4 hb1))
    refine wp_region_lit ?_
    refine stepV (some 17) rfl rfl (exec_load rfl (load10 w1 _ (.int .i64 a0_0) (.int .i64 a0_1) (.int .i64 a0_2) (.int .i64 a0_3) (.int .i64 a0_4) (.int .i64 a0_5) (.int .u64 a0_6) (.int .i64 a0_7) (.int .i64 a0_8) (.int .i64 a0_9) BKA.out)) (by simp only [qa_, qb_, qc_, qd_]; rfl) ?_
    refine stepV (some 18) rfl rfl (exec_load rfl (load4a w1 _ (.int .u64 a1_0) (.int .u64 a1_1) (.int .u64 a1_2) (.int .u64 a1_3) BKB.out)) (by simp only [qa_, qb_, qc_, qd_]; rfl) ?_
    refine stepV (some 19) rfl rfl (exec_load rfl (load4f w1 _ (.bool a2_0) (.bool a2_1) (.bool a2_2) (.bool a2_3) BKC.out)) (by simp only [qa_, qb_, qc_, qd_]; rfl) ?_
    refine stepV (some 20) rfl rfl (exec_build rfl (build18 w1 (.int .i64 a0_0) (.int .i64 a0_1) (.int .i64 a0_2) (.int .i64 a0_3) (.int .i64 a0_4) (.int .i64 a0_5) (.int .u64 a0_6) (.int .i64 a0_7) (.int .i64 a0_8) (.int .i64 a0_9) (.int .u64 a1_0) (.int .u64 a1_1) (.int .u64 a1_2) (.int .u64 a1_3) (.bool a2_0) (.bool a2_1) (.bool a2_2) (.bool a2_3))) (by simp only [qa_, qb_, qc_, qd_]; rfl) ?_
    refine stepV (some 9) rfl rfl (exec_alloc rfl (alloc18 w1)) (by simp only [qa_, qb_, qc_, qd_]; rfl) ?_
    refine stepS rfl rfl (exec_store rfl (store18 w1 _ rfl a0_0 a0_1 a0_2 a0_3 a0_4 a0_5 a0_6 a0_7 a0_8 a0_9 a1_0 a1_1 a1_2 a1_3 a2_0 a2_1 a2_2 a2_3)) ?_
    refine wpList_nil ?_
    go_upto_region 4 with fail
    refine wp_region_lit ?_
    have hsW : w1.heap.size + 1 = (w1.alloc (.cells #[.int .i64 a0_0, .int .i64 a0_1, .int .i64 a0_2, .int .i64 a0_3, .int .i64 a0_4, .int .i64 a0_5, .int .u64 a0_6, .int .i64 a0_7, .int .i64 a0_8, .int .i64 a0_9, .int .u64 a1_0, .int .u64 a1_1, .int .u64 a1_2, .int .u64 a1_3, .bool a2_0, .bool a2_1, .bool a2_2, .bool a2_3] 49)).heap.size := by
      show _ = (w1.heap.push _).size
      rw [Array.size_push]
    have hld := fun j => load18 (mW (w1.alloc (.cells #[.int .i64 a0_0, .int .i64 a0_1, .int .i64 a0_2, .int .i64 a0_3, .int .i64 a0_4, .int .i64 a0_5, .int .u64 a0_6, .int .i64 a0_7, .int .i64 a0_8, .int .i64 a0_9, .int .u64 a1_0, .int .u64 a1_1, .int .u64 a1_2, .int .u64 a1_3, .bool a2_0, .bool a2_1, .bool a2_2, .bool a2_3] 49)) (.agg #[.int .i64 a0_0, .int .i64 a0_1, .int .i64 a0_2, .int .i64 a0_3, .int .i64 a0_4, .int .i64 a0_5, .int .u64 a0_6, .int .i64 a0_7, .int .i64 a0_8, .int .i64 a0_9, .int .u64 a1_0, .int .u64 a1_1, .int .u64 a1_2, .int .u64 a1_3, .bool a2_0, .bool a2_1, .bool a2_2, .bool a2_3]) j) w1.heap.size (.int .i64 a0_0) (.int .i64 a0_1) (.int .i64 a0_2) (.int .i64 a0_3) (.int .i64 a0_4) (.int .i64 a0_5) (.int .u64 a0_6) (.int .i64 a0_7) (.int .i64 a0_8) (.int .i64 a0_9) (.int .u64 a1_0) (.int .u64 a1_1) (.int .u64 a1_2) (.int .u64 a1_3) (.bool a2_0) (.bool a2_1) (.bool a2_2) (.bool a2_3) ((mW_block (w1.alloc (.cells #[.int .i64 a0_0, .int .i64 a0_1, .int .i64 a0_2, .int .i64 a0_3, .int .i64 a0_4, .int .i64 a0_5, .int .u64 a0_6, .int .i64 a0_7, .int .i64 a0_8, .int .i64 a0_9, .int .u64 a1_0, .int .u64 a1_1, .int .u64 a1_2, .int .u64 a1_3, .bool a2_0, .bool a2_1, .bool a2_2, .bool a2_3] 49)) (.agg #[.int .i64 a0_0, .int .i64 a0_1, .int .i64 a0_2, .int .i64 a0_3, .int .i64 a0_4, .int .i64 a0_5, .int .u64 a0_6, .int .i64 a0_7, .int .i64 a0_8, .int .i64 a0_9, .int .u64 a1_0, .int .u64 a1_1, .int .u64 a1_2, .int .u64 a1_3, .bool a2_0, .bool a2_1, .bool a2_2, .bool a2_3]) j w1.heap.size (Nat.lt_of_lt_of_eq (Nat.lt_succ_self _) hsW)).trans (hl_ w1 _))
    have hblk := fun g h => Below.heap_alloc w1 (.cells #[.int .i64 a0_0, .int .i64 a0_1, .int .i64 a0_2, .int .i64 a0_3, .int .i64 a0_4, .int .i64 a0_5, .int .u64 a0_6, .int .i64 a0_7, .int .i64 a0_8, .int .i64 a0_9, .int .u64 a1_0, .int .u64 a1_1, .int .u64 a1_2, .int .u64 a1_3, .bool a2_0, .bool a2_1, .bool a2_2, .bool a2_3] 49) g h
    have HB0 := below_alloc HB.out (.cells #[.int .i64 a0_0, .int .i64 a0_1, .int .i64 a0_2, .int .i64 a0_3, .int .i64 a0_4, .int .i64 a0_5, .int .u64 a0_6, .int .i64 a0_7, .int .i64 a0_8, .int .i64 a0_9, .int .u64 a1_0, .int .u64 a1_1, .int .u64 a1_2, .int .u64 a1_3, .bool a2_0, .bool a2_1, .bool a2_2, .bool a2_3] 49)
    have CALL := fun W => alu_work.calls k a0_0 a0_1 a0_2 a0_3 a0_4 a0_5 a0_6 a0_7 a0_8 a0_9 a1_0 a1_1 a1_2 a1_3 a2_0 a2_1 a2_2 a2_3 p1 p2 p3 p4 p5 W A2.out
    have hent := fun W' => alu_enters OP.out (.agg #[.int .i64 a0_0, .int .i64 a0_1, .int .i64 a0_2, .int .i64 a0_3, .int .i64 a0_4, .int .i64 a0_5, .int .u64 a0_6, .int .i64 a0_7, .int .i64 a0_8, .int .i64 a0_9, .int .u64 a1_0, .int .u64 a1_1, .int .u64 a1_2, .int .u64 a1_3, .bool a2_0, .bool a2_1, .bool a2_2, .bool a2_3]) W'
    have hlk2 := mW_look (w1.alloc (.cells #[.int .i64 a0_0, .int .i64 a0_1, .int .i64 a0_2, .int .i64 a0_3, .int .i64 a0_4, .int .i64 a0_5, .int .u64 a0_6, .int .i64 a0_7, .int .i64 a0_8, .int .i64 a0_9, .int .u64 a1_0, .int .u64 a1_1, .int .u64 a1_2, .int .u64 a1_3, .bool a2_0, .bool a2_1, .bool a2_2, .bool a2_3] 49)) (.agg #[.int .i64 a0_0, .int .i64 a0_1, .int .i64 a0_2, .int .i64 a0_3, .int .i64 a0_4, .int .i64 a0_5, .int .u64 a0_6, .int .i64 a0_7, .int .i64 a0_8, .int .i64 a0_9, .int .u64 a1_0, .int .u64 a1_1, .int .u64 a1_2, .int .u64 a1_3, .bool a2_0, .bool a2_1, .bool a2_2, .bool a2_3]) _ hsW a0_0 _ (alu_key OP.out)
    generalize Value.agg #[.int .i64 a0_0, .int .i64 a0_1, .int .i64 a0_2, .int .i64 a0_3, .int .i64 a0_4, .int .i64 a0_5, .int .u64 a0_6, .int .i64 a0_7, .int .i64 a0_8, .int .i64 a0_9, .int .u64 a1_0, .int .u64 a1_1, .int .u64 a1_2, .int .u64 a1_3, .bool a2_0, .bool a2_1, .bool a2_2, .bool a2_3] = X at hld CALL hent hlk2 ⊢
    generalize w1.alloc (Obj.cells #[.int .i64 a0_0, .int .i64 a0_1, .int .i64 a0_2, .int .i64 a0_3, .int .i64 a0_4, .int .i64 a0_5, .int .u64 a0_6, .int .i64 a0_7, .int .i64 a0_8, .int .i64 a0_9, .int .u64 a1_0, .int .u64 a1_1, .int .u64 a1_2, .int .u64 a1_3, .bool a2_0, .bool a2_1, .bool a2_2, .bool a2_3] 49) = W0 at hsW hld hblk HB0 hlk2 ⊢
    generalize Value.agg #[.int .i64 a0_0, .int .i64 a0_1, .int .i64 a0_2, .int .i64 a0_3, .int .i64 a0_4, .int .i64 a0_5, .int .u64 a0_6, .int .i64 a0_7, .int .i64 a0_8, .int .i64 a0_9] = XI at ⊢
    generalize Value.agg #[.int .u64 a1_0, .int .u64 a1_1, .int .u64 a1_2, .int .u64 a1_3] = XA at ⊢
    generalize Value.agg #[.bool a2_0, .bool a2_1, .bool a2_2, .bool a2_3] = XF at ⊢
    simp only [List.append_eq, List.cons_append, List.nil_append]
    refine stepV (some 21) rfl rfl (exec_mk rfl (mW_make W0 X _ hsW)) (by simp only [qa_, qb_, qc_, qd_]; rfl) ?_
    refine stepV (some 22) rfl rfl (exec_load rfl (hld 0)) (by simp only [qa_, qb_, qc_, qd_]; rfl) ?_
    refine stepV (some 23) rfl rfl (exec_fn X rfl rfl) (by simp only [qa_, qb_, qc_, qd_]; rfl) ?_
    refine stepS rfl rfl (exec_ins rfl (mW_put W0 X _ 0 1 19 hsW (by rfl) (by rfl))) ?_
    refine stepV (some 24) rfl rfl (exec_load rfl (hld 1)) (by simp only [qa_, qb_, qc_, qd_]; rfl) ?_
    refine stepV (some 25) rfl rfl (exec_fn X rfl rfl) (by simp only [qa_, qb_, qc_, qd_]; rfl) ?_
    refine stepS rfl rfl (exec_ins rfl (mW_put W0 X _ 1 2 20 hsW (by rfl) (by rfl))) ?_
    refine stepV (some 26) rfl rfl (exec_load rfl (hld 2)) (by simp only [qa_, qb_, qc_, qd_]; rfl) ?_
    refine stepV (some 27) rfl rfl (exec_fn X rfl rfl) (by simp only [qa_, qb_, qc_, qd_]; rfl) ?_
    refine stepS rfl rfl (exec_ins rfl (mW_put W0 X _ 2 3 21 hsW (by rfl) (by rfl))) ?_
    refine stepV (some 28) rfl rfl (exec_load rfl (hld 3)) (by simp only [qa_, qb_, qc_, qd_]; rfl) ?_
    refine stepV (some 29) rfl rfl (exec_fn X rfl rfl) (by simp only [qa_, qb_, qc_, qd_]; rfl) ?_
    refine stepS rfl rfl (exec_ins rfl (mW_put W0 X _ 3 4 22 hsW (by rfl) (by rfl))) ?_
    refine stepV (some 30) rfl rfl (exec_load rfl (hld 4)) (by simp only [qa_, qb_, qc_, qd_]; rfl) ?_
    refine stepV (some 31) rfl rfl (exec_fn X rfl rfl) (by simp only [qa_, qb_, qc_, qd_]; rfl) ?_
    refine stepS rfl rfl (exec_ins rfl (mW_put W0 X _ 4 5 23 hsW (by rfl) (by rfl))) ?_
    refine stepV (some 32) rfl rfl (exec_load rfl (hld 5)) (by simp only [qa_, qb_, qc_, qd_]; rfl) ?_
    refine stepV (some 33) rfl rfl (exec_fn X rfl rfl) (by simp only [qa_, qb_, qc_, qd_]; rfl) ?_
    refine stepS rfl rfl (exec_ins rfl (mW_put W0 X _ 5 6 24 hsW (by rfl) (by rfl))) ?_
    refine stepV (some 34) rfl rfl (exec_load rfl (hld 6)) (by simp only [qa_, qb_, qc_, qd_]; rfl) ?_
    refine stepV (some 35) rfl rfl (exec_fn X rfl rfl) (by simp only [qa_, qb_, qc_, qd_]; rfl) ?_
    refine stepS rfl rfl (exec_ins rfl (mW_put W0 X _ 6 7 25 hsW (by rfl) (by rfl))) ?_
    refine stepV (some 36) rfl rfl (exec_load rfl (hld 7)) (by simp only [qa_, qb_, qc_, qd_]; rfl) ?_
    refine stepV (some 37) rfl rfl (exec_fn X rfl rfl) (by simp only [qa_, qb_, qc_, qd_]; rfl) ?_
    refine stepS rfl rfl (exec_ins rfl (mW_put W0 X _ 7 8 26 hsW (by rfl) (by rfl))) ?_
    refine stepV (some 38) rfl rfl (exec_load rfl (hld 8)) (by simp only [qa_, qb_, qc_, qd_]; rfl) ?_
    refine stepV (some 39) rfl rfl (exec_fn X rfl rfl) (by simp only [qa_, qb_, qc_, qd_]; rfl) ?_
    refine stepS rfl rfl (exec_ins rfl (mW_put W0 X _ 8 9 27 hsW (by rfl) (by rfl))) ?_
    refine stepV (some 40) rfl rfl (exec_load rfl (hld 9)) (by simp only [qa_, qb_, qc_, qd_]; rfl) ?_
    refine stepV (some 41) rfl rfl (exec_fn X rfl rfl) (by simp only [qa_, qb_, qc_, qd_]; rfl) ?_
    refine stepS rfl rfl (exec_ins rfl (mW_put W0 X _ 9 10 28 hsW (by rfl) (by rfl))) ?_
    refine stepV (some 42) rfl rfl (exec_load rfl (hld 10)) (by simp only [qa_, qb_, qc_, qd_]; rfl) ?_
    refine stepV (some 43) rfl rfl (exec_fn X rfl rfl) (by simp only [qa_, qb_, qc_, qd_]; rfl) ?_
    refine stepS rfl rfl (exec_ins rfl (mW_put W0 X _ 10 11 29 hsW (by rfl) (by rfl))) ?_
    refine stepV (some 44) rfl rfl (exec_load rfl (hld 11)) (by simp only [qa_, qb_, qc_, qd_]; rfl) ?_
    refine stepV (some 45) rfl rfl (exec_fn X rfl rfl) (by simp only [qa_, qb_, qc_, qd_]; rfl) ?_
    refine stepS rfl rfl (exec_ins rfl (mW_put W0 X _ 11 12 22 hsW (by rfl) (by rfl))) ?_
    refine stepV (some 46) rfl rfl (exec_load rfl (hld 12)) (by simp only [qa_, qb_, qc_, qd_]; rfl) ?_
    refine stepV (some 47) rfl rfl (exec_fn X rfl rfl) (by simp only [qa_, qb_, qc_, qd_]; rfl) ?_
    refine stepS rfl rfl (exec_ins rfl (mW_put W0 X _ 12 13 23 hsW (by rfl) (by rfl))) ?_
    refine stepV (some 48) rfl rfl (exec_load rfl (hld 13)) (by simp only [qa_, qb_, qc_, qd_]; rfl) ?_
    refine stepV (some 49) rfl rfl (exec_fn X rfl rfl) (by simp only [qa_, qb_, qc_, qd_]; rfl) ?_
    refine stepS rfl rfl (exec_ins rfl (mW_put W0 X _ 13 14 24 hsW (by rfl) (by rfl))) ?_
    refine stepV (some 50) rfl rfl (exec_load rfl (hld 14)) (by simp only [qa_, qb_, qc_, qd_]; rfl) ?_
    refine stepV (some 51) rfl rfl (exec_fn X rfl rfl) (by simp only [qa_, qb_, qc_, qd_]; rfl) ?_
    refine stepS rfl rfl (exec_ins rfl (mW_put W0 X _ 14 15 25 hsW (by rfl) (by rfl))) ?_
    refine stepV (some 52) rfl rfl (exec_load rfl (hld 15)) (by simp only [qa_, qb_, qc_, qd_]; rfl) ?_
    refine stepV (some 53) rfl rfl (exec_fn X rfl rfl) (by simp only [qa_, qb_, qc_, qd_]; rfl) ?_
    refine stepS rfl rfl (exec_ins rfl (mW_put W0 X _ 15 16 26 hsW (by rfl) (by rfl))) ?_
    refine stepV (some 54) rfl rfl (exec_load rfl (hld 16)) (by simp only [qa_, qb_, qc_, qd_]; rfl) ?_
    refine stepV (some 55) rfl rfl (exec_fn X rfl rfl) (by simp only [qa_, qb_, qc_, qd_]; rfl) ?_
    refine stepS rfl rfl (exec_ins rfl (mW_put W0 X _ 16 17 27 hsW (by rfl) (by rfl))) ?_
    refine stepV (some 56) rfl rfl (exec_load rfl (hld 17)) (by simp only [qa_, qb_, qc_, qd_]; rfl) ?_
    refine stepV (some 57) rfl rfl (exec_fn X rfl rfl) (by simp only [qa_, qb_, qc_, qd_]; rfl) ?_
    refine stepS rfl rfl (exec_ins rfl (mW_put W0 X _ 17 18 28 hsW (by rfl) (by rfl))) ?_
    refine stepV (some 58) rfl rfl (exec_load rfl (hld 18)) (by simp only [qa_, qb_, qc_, qd_]; rfl) ?_
    refine stepV (some 59) rfl rfl (exec_fn X rfl rfl) (by simp only [qa_, qb_, qc_, qd_]; rfl) ?_
    refine stepS rfl rfl (exec_ins rfl (mW_put W0 X _ 18 19 29 hsW (by rfl) (by rfl))) ?_
    refine stepV (some 60) rfl rfl (exec_load rfl (hld 19)) (by simp only [qa_, qb_, qc_, qd_]; rfl) ?_
    refine stepV (some 61) rfl rfl (exec_fn X rfl rfl) (by simp only [qa_, qb_, qc_, qd_]; rfl) ?_
    refine stepS rfl rfl (exec_ins rfl (mW_put W0 X _ 19 20 30 hsW (by rfl) (by rfl))) ?_
    refine stepV (some 62) rfl rfl (exec_load rfl (hld 20)) (by simp only [qa_, qb_, qc_, qd_]; rfl) ?_
    refine stepV (some 63) rfl rfl (exec_fn X rfl rfl) (by simp only [qa_, qb_, qc_, qd_]; rfl) ?_
    refine stepS rfl rfl (exec_ins rfl (mW_put W0 X _ 20 21 31 hsW (by rfl) (by rfl))) ?_
    refine stepV (some 64) rfl rfl (exec_load rfl (hld 21)) (by simp only [qa_, qb_, qc_, qd_]; rfl) ?_
    refine stepV (some 65) rfl rfl (exec_fn X rfl rfl) (by simp only [qa_, qb_, qc_, qd_]; rfl) ?_
    refine stepS rfl rfl (exec_ins rfl (mW_put W0 X _ 21 39 32 hsW (by rfl) (by rfl))) ?_
    refine stepV (some 66) rfl rfl (exec_move (.map (some (w1.heap.size + 1))) rfl rfl) (by simp only [qa_, qb_, qc_, qd_]; rfl) ?_
    refine stepV (some 10) rfl rfl (exec_assign (.map (some (w1.heap.size + 1))) rfl rfl) (by simp only [qa_, qb_, qc_, qd_]; rfl) ?_
    refine wpList_nil ?_
    clear hld
    have hlt : w.heap.size + 3 < w1.heap.size := by
      have := hsz.out
      omega
    have hlt0 : w1.heap.size < W0.heap.size := by omega
    have bk0 : (mW W0 X 22).heap[w.heap.size]? = some (.cells #[.int .i64 a0_0, .int .i64 a0_1, .int .i64 a0_2, .int .i64 a0_3, .int .i64 a0_4, .int .i64 a0_5, .int .u64 a0_6, .int .i64 a0_7, .int .i64 a0_8, .int .i64 a0_9] 25) := (mW_block W0 X 22 _ (by omega)).trans ((hblk _ (by omega)).trans BKA.out)
    have u0 : (mW W0 X 22).cell? ⟨w.heap.size, 0, none⟩ = some (.int .i64 a0_0) := (blk_cell bk0 0).trans rfl
    clear bk0
    have bkR1 := Aside0.mk ((mW_block W0 X 22 (w.heap.size + 3) (by omega)).trans ((hblk _ hlt).trans bkR.out))
    have HB1 := Aside0.mk (mW_below HB0 (by omega) X 22)
    have hltM : w.heap.size + 3 < (mW W0 X 22).heap.size := Nat.lt_of_lt_of_le (Nat.lt_trans hlt hlt0) (mW_below (Below.refl 0 W0) (Nat.zero_le _) X 22).size
    clear HB0 hblk hsW hlt0
    have CALLS := Aside0.mk CALL
    have HLT := Aside0.mk hltM
    clear CALL hltM hlt
    go_upto_region 6 with (first | ((with_reducible refine (CALLS.out _).mono ?_); rintro e w2 ⟨rfl, hb2⟩; have bkR2 := (hb2.block (w.heap.size + 3) HLT.out).trans bkR1.out; have HB2 := Aside0.mk (below_step HB1.out hb2); have ra0 := fun o => (blk_cell (blk_alloc bkR2 o) 0).trans rfl; have ra1 := fun o => (blk_cell (blk_alloc bkR2 o) 1).trans rfl; have ra2 := fun o => (blk_cell (blk_alloc bkR2 o) 2).trans rfl; have ra3 := fun o => (blk_cell (blk_alloc bkR2 o) 3).trans rfl; have rf := fun o j => blk_frozen (blk_alloc bkR2 o) j; have BKR2 := Aside0.mk bkR2; clear hb2 bkR2))
    go_region
    all_goals go_wp2
    all_goals refine bodyPost_ret (results_tct rfl _ _ (w.heap.size + 3) 35 #[.bool p2, .bool p3, .bool p4, .bool p5] (0, 0) _ rfl (by (with_reducible repeat (first | refine blk_drewN ?_ _ | refine blk_drew ?_ | refine blk_alloc ?_ _)); refine blk_put (cs := #[.bool p2, .bool p3, .bool p4, .bool false]) ?_ 3 _ rfl; (with_reducible repeat (first | refine blk_drewN ?_ _ | refine blk_drew ?_ | refine blk_alloc ?_ _)); refine blk_put (cs := #[.bool p2, .bool p3, .bool false, .bool false]) ?_ 2 _ rfl; (with_reducible repeat (first | refine blk_drewN ?_ _ | refine blk_drew ?_ | refine blk_alloc ?_ _)); refine blk_put (cs := #[.bool p2, .bool false, .bool false, .bool false]) ?_ 1 _ rfl; (with_reducible repeat (first | refine blk_drewN ?_ _ | refine blk_drew ?_ | refine blk_alloc ?_ _)); refine blk_put (cs := #[.bool false, .bool false, .bool false, .bool false]) ?_ 0 _ rfl; (with_reducible repeat (first | refine blk_drewN ?_ _ | refine blk_drew ?_ | refine blk_alloc ?_ _)); exact BKR2.out) Tryd.underlying35 rfl (by kernel_rfl)) rfl ⟨rfl, ?_⟩
    all_goals repeat (first | exact HB2.out | apply below_drew1 | apply pw_below_drewN | apply below_alloc | refine Below.setCell ?_ (show w.heap.size ≤ w.heap.size + 3 from Nat.le_add_right _ _) _)
  · rw [if_neg c] at h
    obtain rfl : t = false := by simpa using c
    obtain ⟨rfl, rfl, rfl, rfl, rfl, rfl⟩ : 0 = r1 ∧ false = r2 ∧ false = r3 ∧ false = r4 ∧ false = r5 ∧ 1 = r6 := by simpa using h
    clear h c
    go_enter Tryd.func11, Tryd.ntmps11
    go_upto_region 2 with (first | (go_at_call 12; refine (alu_Is.calls k a0_0 a0_1 a0_2 a0_3 a0_4 a0_5 a0_6 a0_7 a0_8 a0_9 false _ A1.out (HT.out _ (below_alloc (below_alloc (below_alloc (below_alloc (Below.refl _ _) _) _) _) _))).mono ?_; rintro e w1 ⟨rfl, hb1⟩; obtain ⟨q0, q1, q2, q3, q4⟩ := al4 w (.cells #[.int .i64 a0_0, .int .i64 a0_1, .int .i64 a0_2, .int .i64 a0_3, .int .i64 a0_4, .int .i64 a0_5, .int .u64 a0_6, .int .i64 a0_7, .int .i64 a0_8, .int .i64 a0_9] 25) (.cells #[.int .u64 a1_0, .int .u64 a1_1, .int .u64 a1_2, .int .u64 a1_3] 29) (.cells #[.bool a2_0, .bool a2_1, .bool a2_2, .bool a2_3] 35) (.cells #[.bool false, .bool false, .bool false, .bool false] 35); have bkR := (hb1.block (w.heap.size + 3) (by omega)).trans q3; have BKR := Aside0.mk bkR; have HB := Aside0.mk (below_step (below_alloc (below_alloc (below_alloc (below_alloc (Below.refl _ _) _) _) _) _) hb1); obtain ⟨z0, z1, z2, z3⟩ := cells4_ bkR; have rf := fun j => blk_frozen bkR j; clear bkR q0 q1 q2 q3 q4 hb1))
    go_wp2
    refine bodyPost_ret (results_tct rfl _ _ (w.heap.size + 3) 35 #[.bool false, .bool false, .bool false, .bool false] (0, 0) _ rfl (by (with_reducible repeat (first | refine blk_drewN ?_ _ | refine blk_drew ?_ | refine blk_alloc ?_ _)); refine blk_put (cs := #[.bool false, .bool false, .bool false, .bool false]) ?_ 3 _ rfl; (with_reducible repeat (first | refine blk_drewN ?_ _ | refine blk_drew ?_ | refine blk_alloc ?_ _)); refine blk_put (cs := #[.bool false, .bool false, .bool false, .bool false]) ?_ 2 _ rfl; (with_reducible repeat (first | refine blk_drewN ?_ _ | refine blk_drew ?_ | refine blk_alloc ?_ _)); refine blk_put (cs := #[.bool false, .bool false, .bool false, .bool false]) ?_ 1 _ rfl; (with_reducible repeat (first | refine blk_drewN ?_ _ | refine blk_drew ?_ | refine blk_alloc ?_ _)); refine blk_put (cs := #[.bool false, .bool false, .bool false, .bool false]) ?_ 0 _ rfl; (with_reducible repeat (first | refine blk_drewN ?_ _ | refine blk_drew ?_ | refine blk_alloc ?_ _)); exact BKR.out) Tryd.underlying35 rfl (by kernel_rfl)) rfl ⟨rfl, ?_⟩
    repeat (first | exact HB.out | apply below_drew1 | apply pw_below_drewN | apply below_alloc | refine Below.setCell ?_ (show w.heap.size ≤ w.heap.size + 3 from Nat.le_add_right _ _) _)

/-! ### alu_Load: function 15 -/
def alu_Load.l0 : Nat → Int → List (S25) → Int → Option ((List (S25)))
 | 0, _, _, _ => none
 | k + 1, x0, x3, x7 => if x7 < 4 then (if 0 ≤ (wrap64 (16 * x7)) then (if (wrap64 (Go.bits .and .u64 (shr .u64 x0 (wrap64 (16 * x7))) 65535)) = 0 then (alu_Load.l0 k x0 x3 (wrap64 (x7 + 1))) else (if (x3.length : Int) = 0 then (if x3.length < 1759218604441 then (alu_Load.l0 k x0 (x3 ++ [(⟨1, 0, 0, 0, 0, wrap64 (Go.bits .and .u64 (shr .u64 x0 (wrap64 (16 * x7))) 65535), 0, 0, wrap64 (16 * x7), 0⟩ : S25)]) (wrap64 (x7 + 1))) else (none)) else (if x3.length < 1759218604441 then (alu_Load.l0 k x0 (x3 ++ [(⟨3, 0, 0, 0, 0, wrap64 (Go.bits .and .u64 (shr .u64 x0 (wrap64 (16 * x7))) 65535), 0, 0, wrap64 (16 * x7), 0⟩ : S25)]) (wrap64 (x7 + 1))) else (none)))) else (none)) else (if (x3.length : Int) = 0 then (some (([(⟨1, 0, 0, 0, 0, 0, 0, 0, 0, 0⟩ : S25)] : List (S25)))) else (some x3))
def alu_Load.f (k : Nat) (a0 : Int) : Option ((List (S25))) := alu_Load.l0 k a0 ([] : List (S25)) 0
theorem alu_Load.mono_l : ∀ k, (∀ y0 y1 y2, LeO (alu_Load.l0 k y0 y1 y2) (alu_Load.l0 (k + 1) y0 y1 y2))
 | 0 => fun _ _ _ r h => by simp [alu_Load.l0] at h
 | k + 1 => by
  have ih0 := alu_Load.mono_l k
  ·
   intro y0 y1 y2
   unfold alu_Load.l0
   repeat' first
   | (with_reducible exact ih0 _ _ _)
   | (with_reducible exact LeO.refl _)
   | (with_reducible exact LeO.none _)
   | (with_reducible refine LeO.ite ?_ ?_)
   | (with_reducible refine LeO.bind ?_ (fun _ => ?_))
   | exact ih0 _ _ _
   | exact LeO.none _
   | refine LeO.ite ?_ ?_
   | refine LeO.bind ?_ (fun _ => ?_)
theorem alu_Load.mono : ∀ a0 k, LeO (alu_Load.f k a0) (alu_Load.f (k + 1) a0) := by
 intro a0 k
 have ih0 := alu_Load.mono_l k
 unfold alu_Load.f
 repeat' first
   | (with_reducible exact ih0 _ _ _)
   | (with_reducible exact LeO.refl _)
   | (with_reducible exact LeO.none _)
   | (with_reducible refine LeO.ite ?_ ?_)
   | (with_reducible refine LeO.bind ?_ (fun _ => ?_))
   | exact ih0 _ _ _
   | exact LeO.none _
   | refine LeO.ite ?_ ?_
   | refine LeO.bind ?_ (fun _ => ?_)
set_option maxHeartbeats 8000000 in
set_option maxRecDepth 100000 in
theorem alu_Load.calls (k : Nat) (a0 : Int) (r : List (S25)) (w : World) (h : alu_Load.f k a0 = some r) :
    Calls Tryd.prog 15 #[.int .u64 a0] w fun e w' => ∃ v0_ : Value, e = .returned (v0_) ∧ Kd.R k25 25 w' w.heap.size (fun _ => True) v0_ r ∧ Below w.heap.size w w' := by
 have hu25 := Tryd.underlying25
 have HB := Aside0.mk (Below.refl w.heap.size w)
 have H : (alu_Load.l0 k a0 ([] : List (S25)) 0) = some r := h
 clear h
 have H' := Aside0.mk H
 clear H
 go_enter Tryd.func15, Tryd.ntmps15
 go_wp2
 go_loopg [3, 7] k (fun kq v3 v7 w' => ∃ (x3_1 : List (S25)) (x7_1 : Int), v7 = .int .i64 x7_1 ∧ Aside0 (alu_Load.l0 kq a0 x3_1 x7_1 = some r) ∧ Aside0 (kq ≤ k) ∧ Aside0 (Kd.R k25 25 w' w.heap.size (fun _ => True) v3 x3_1) ∧ Aside0 (Below w.heap.size w w'))
 case atStart => exact ⟨(([] : List (S25))), (0), (by first | rfl | (simp; done) | (simp [*]; done)), H', ⟨Nat.le_refl _⟩, ⟨by first | exact Kd.R_nil _ _ _ _ _ | exact Kd.N_nil _ _ _ _ _ | exact Kd.V_nil _ _ _ _ _ | exact Kd.Q_nil _ _ _ _ _ | exact Kd.S_nil _ _ _ _ _⟩, ⟨by repeat (first | (with_reducible first | exact HB.out | apply below_alloc | apply pw_below_drewN | apply below_drew1) | exact HB.out)⟩⟩
 case round =>
  clear H'
  try clear c1
  obtain ⟨x3_1, x7_1, rfl, HA, HK1, HO_3, HB⟩ := hrel
  cases gk with
  | zero => exact absurd HA.out (by simp [alu_Load.l0])
  | succ k1 =>
   have H := HA.out
   clear HA
   simp only [alu_Load.l0] at H
   by_cases c2 : x7_1 < 4
   ·
    rw [if_pos c2] at H
    have c2b0 : decide (x7_1 < 4) = true := decide_eq_true c2
    clear c2
    obtain ⟨ji3, hji3⟩ : ∃ j_ : Int, (wrap64 (16 * x7_1)) = j_ := ⟨_, rfl⟩
    replace H : (if 0 ≤ (ji3) then (if (wrap64 (Go.bits .and .u64 (shr .u64 a0 (ji3)) 65535)) = 0 then (alu_Load.l0 k1 a0 x3_1 (wrap64 (x7_1 + 1))) else (if (x3_1.length : Int) = 0 then (if x3_1.length < 1759218604441 then (alu_Load.l0 k1 a0 (x3_1 ++ [(⟨1, 0, 0, 0, 0, wrap64 (Go.bits .and .u64 (shr .u64 a0 (ji3)) 65535), 0, 0, ji3, 0⟩ : S25)]) (wrap64 (x7_1 + 1))) else (none)) else (if x3_1.length < 1759218604441 then (alu_Load.l0 k1 a0 (x3_1 ++ [(⟨3, 0, 0, 0, 0, wrap64 (Go.bits .and .u64 (shr .u64 a0 (ji3)) 65535), 0, 0, ji3, 0⟩ : S25)]) (wrap64 (x7_1 + 1))) else (none)))) else (none)) = some r := by first | (rw [hji3] at H; exact H) | (simp only [hji3] at H ⊢; exact H)
    have hji3w : (IntKind.i64.wrap (16 * x7_1)) = ji3 := (i64_w _).trans hji3
    by_cases c4 : 0 ≤ (ji3)
    ·
     rw [if_pos c4] at H
     have c4b0 := eq_true c4
     have c4b1 : decide (0 ≤ (ji3)) = true := decide_eq_true c4
     clear c4
     obtain ⟨ji5, hji5⟩ : ∃ j_ : Int, (shr .u64 a0 (ji3)) = j_ := ⟨_, rfl⟩
     replace H : (if (wrap64 (Go.bits .and .u64 (ji5) 65535)) = 0 then (alu_Load.l0 k1 a0 x3_1 (wrap64 (x7_1 + 1))) else (if (x3_1.length : Int) = 0 then (if x3_1.length < 1759218604441 then (alu_Load.l0 k1 a0 (x3_1 ++ [(⟨1, 0, 0, 0, 0, wrap64 (Go.bits .and .u64 (ji5) 65535), 0, 0, ji3, 0⟩ : S25)]) (wrap64 (x7_1 + 1))) else (none)) else (if x3_1.length < 1759218604441 then (alu_Load.l0 k1 a0 (x3_1 ++ [(⟨3, 0, 0, 0, 0, wrap64 (Go.bits .and .u64 (ji5) 65535), 0, 0, ji3, 0⟩ : S25)]) (wrap64 (x7_1 + 1))) else (none)))) = some r := by first | (rw [hji5] at H; exact H) | (simp only [hji5] at H ⊢; exact H)
     have hji5_ : (a0 / 2 ^ min (ji3).toNat 64) = ji5 := hji5
     have hji5z : (ji3) ≤ 64 → (a0 / 2 ^ (ji3).toNat) = ji5 := shr_small hji5
     by_cases c6 : (wrap64 (Go.bits .and .u64 (ji5) 65535)) = 0
     ·
      rw [if_pos c6] at H
      have c6b0 : ((wrap64 (Go.bits .and .u64 (ji5) 65535)) == 0) = true := beq_iff_eq.mpr c6
      have c6b1 : ((wrap64 (Go.bits .and .u64 (ji5) 65535)) != 0) = false := bne_eq_false_iff_eq.mpr c6
      clear c6
      have H' := Aside0.mk H
      clear H
      go_wp2
      go_roundg k1
      case measure => have := HK1.out; omega
      case rel => exact ⟨(x3_1), (wrap64 (x7_1 + 1)), (by first | rfl | (simp; done) | (simp [*]; done)), H', ⟨by have := HK1.out; omega⟩, ⟨by (with_reducible repeat (first | apply Kd.R_alloc | apply Kd.R_drewN | apply Kd.R_drew)); exact HO_3.out⟩, ⟨by repeat (first | (with_reducible first | exact HB.out | apply below_alloc | apply pw_below_drewN | apply below_drew1) | exact HB.out)⟩⟩
     ·
      rw [if_neg c6] at H
      have c6b0 : ((wrap64 (Go.bits .and .u64 (ji5) 65535)) == 0) = false := beq_eq_false_iff_ne.mpr c6
      have c6b1 : ((wrap64 (Go.bits .and .u64 (ji5) 65535)) != 0) = true := bne_iff_ne.mpr c6
      by_cases c7 : (x3_1.length : Int) = 0
      ·
       rw [if_pos c7] at H
       have c7b0 : ((x3_1.length : Int) == 0) = true := beq_iff_eq.mpr c7
       have c7b1 : ((x3_1.length : Int) != 0) = false := bne_eq_false_iff_eq.mpr c7
       clear c7
       by_cases c8 : x3_1.length < 1759218604441
       ·
        rw [if_pos c8] at H
        have LMc8 := Aside0.mk c8
        clear c8
        obtain ⟨y221, hy221⟩ : ∃ y_ : List (S25), y_ = (x3_1 ++ [(⟨1, 0, 0, 0, 0, wrap64 (Go.bits .and .u64 (ji5) 65535), 0, 0, ji3, 0⟩ : S25)]) := ⟨_, rfl⟩
        replace H : (alu_Load.l0 k1 a0 y221 (wrap64 (x7_1 + 1))) = some r := by first | (rw [hy221]; with_reducible exact H) | (have H2_ := (Option.bind_some _ _).symm.trans H; rw [hy221]; with_reducible exact H2_) | (have H2_ := (Option.bind_some _ _).symm.trans H; with_reducible exact H2_) | with_reducible exact H | (rw [hy221]; exact H) | exact H
        have Ny221 := Aside0.mk hy221
        clear hy221
        have H' := Aside0.mk H
        clear H
        obtain ⟨Ao9, co9, eo9⟩ := Kd.R_slice HO_3.out
        subst eo9
        go_wp2_with (first | ((with_reducible refine gate_builtin (b := .append) (xs := #[.tmp 21, .tmp 27]) rfl ?_); at_builtin; refine Kd.R_append k25 (w0 := w) w.heap.size rfl (.tmp 21) (.tmp 27) 43 25 (.agg #[(.int .i64 0), (.int .i64 0), (.int .i64 0), (.int .i64 0), (.int .i64 0), (.int .i64 0), (.int .u64 0), (.int .i64 0), (.int .i64 0), (.int .i64 0)]) 80 rfl Tryd.underlying43 info25 rfl (by decide) (by omega) (.slice Ao9 x3_1.length co9) x3_1 (⟨1, 0, 0, 0, 0, wrap64 (Go.bits .and .u64 (ji5) 65535), 0, 0, ji3, 0⟩ : S25) [.int .i64 1, .int .i64 0, .int .i64 0, .int .i64 0, .int .i64 0, .int .i64 (wrap64 (Go.bits .and .u64 (ji5) 65535)), .int .u64 0, .int .i64 0, .int .i64 ji3, .int .i64 0] (fun _ => True) (fun _ => False) rfl rfl ?aP (fun _ hk => hk.elim) ?aF ?aO ?aB ?aS ?aL ?_; (case aP => exact k25_mkM _ _ _ (⟨1, 0, 0, 0, 0, wrap64 (Go.bits .and .u64 (ji5) 65535), 0, 0, ji3, 0⟩ : S25)); (case aB => exact (by repeat (first | (with_reducible first | exact HB.out | apply below_alloc | apply pw_below_drewN | apply below_drew1) | exact HB.out))); (case aF => exact (fun _ _ => trivial)); (case aO => exact (by (with_reducible repeat (first | apply Kd.R_alloc | apply Kd.R_drewN | apply Kd.R_drew)); exact HO_3.out)); (case aS => exact (below_size (by repeat (first | (with_reducible first | exact HB.out | apply below_alloc | apply pw_below_drewN | apply below_drew1) | exact HB.out)))); (case aL => have := LMc8.out; omega); intro v222 w10 ho hb hg hat; rw [← Ny221.out] at ho; have n0_ := Aside0.mk (hb); have n1_ := Aside0.mk (ho); clear HB; clear HO_3; have HB := n0_; have HO223 := n1_; clear n0_ n1_; clear ho hb hg hat))
        go_roundg k1
        case measure => have := HK1.out; omega
        case rel => exact ⟨(y221), (wrap64 (x7_1 + 1)), (by first | rfl | (simp; done) | (simp [*]; done)), H', ⟨by have := HK1.out; omega⟩, ⟨by (with_reducible repeat (first | apply Kd.R_alloc | apply Kd.R_drewN | apply Kd.R_drew)); exact HO223.out⟩, ⟨by repeat (first | (with_reducible first | exact HB.out | apply below_alloc | apply pw_below_drewN | apply below_drew1) | exact HB.out)⟩⟩
       ·
        rw [if_neg c8] at H
        exact absurd H (by simp)
      ·
       rw [if_neg c7] at H
       have c7b0 : ((x3_1.length : Int) == 0) = false := beq_eq_false_iff_ne.mpr c7
       have c7b1 : ((x3_1.length : Int) != 0) = true := bne_iff_ne.mpr c7
       have c7b2 : ¬ (x3_1 = []) := fun h_ => c7 (by rw [h_]; rfl)
       by_cases c11 : x3_1.length < 1759218604441
       ·
        rw [if_pos c11] at H
        have LMc11 := Aside0.mk c11
        clear c11
        obtain ⟨y224, hy224⟩ : ∃ y_ : List (S25), y_ = (x3_1 ++ [(⟨3, 0, 0, 0, 0, wrap64 (Go.bits .and .u64 (ji5) 65535), 0, 0, ji3, 0⟩ : S25)]) := ⟨_, rfl⟩
        replace H : (alu_Load.l0 k1 a0 y224 (wrap64 (x7_1 + 1))) = some r := by first | (rw [hy224]; with_reducible exact H) | (have H2_ := (Option.bind_some _ _).symm.trans H; rw [hy224]; with_reducible exact H2_) | (have H2_ := (Option.bind_some _ _).symm.trans H; with_reducible exact H2_) | with_reducible exact H | (rw [hy224]; exact H) | exact H
        have Ny224 := Aside0.mk hy224
        clear hy224
        have H' := Aside0.mk H
        clear H
        obtain ⟨Ao12, co12, eo12⟩ := Kd.R_slice HO_3.out
        subst eo12
        go_wp2_with (first | ((with_reducible refine gate_builtin (b := .append) (xs := #[.tmp 21, .tmp 27]) rfl ?_); at_builtin; refine Kd.R_append k25 (w0 := w) w.heap.size rfl (.tmp 21) (.tmp 27) 43 25 (.agg #[(.int .i64 0), (.int .i64 0), (.int .i64 0), (.int .i64 0), (.int .i64 0), (.int .i64 0), (.int .u64 0), (.int .i64 0), (.int .i64 0), (.int .i64 0)]) 80 rfl Tryd.underlying43 info25 rfl (by decide) (by omega) (.slice Ao12 x3_1.length co12) x3_1 (⟨3, 0, 0, 0, 0, wrap64 (Go.bits .and .u64 (ji5) 65535), 0, 0, ji3, 0⟩ : S25) [.int .i64 3, .int .i64 0, .int .i64 0, .int .i64 0, .int .i64 0, .int .i64 (wrap64 (Go.bits .and .u64 (ji5) 65535)), .int .u64 0, .int .i64 0, .int .i64 ji3, .int .i64 0] (fun _ => True) (fun _ => False) rfl rfl ?aP (fun _ hk => hk.elim) ?aF ?aO ?aB ?aS ?aL ?_; (case aP => exact k25_mkM _ _ _ (⟨3, 0, 0, 0, 0, wrap64 (Go.bits .and .u64 (ji5) 65535), 0, 0, ji3, 0⟩ : S25)); (case aB => exact (by repeat (first | (with_reducible first | exact HB.out | apply below_alloc | apply pw_below_drewN | apply below_drew1) | exact HB.out))); (case aF => exact (fun _ _ => trivial)); (case aO => exact (by (with_reducible repeat (first | apply Kd.R_alloc | apply Kd.R_drewN | apply Kd.R_drew)); exact HO_3.out)); (case aS => exact (below_size (by repeat (first | (with_reducible first | exact HB.out | apply below_alloc | apply pw_below_drewN | apply below_drew1) | exact HB.out)))); (case aL => have := LMc11.out; omega); intro v225 w13 ho hb hg hat; rw [← Ny224.out] at ho; have n0_ := Aside0.mk (hb); have n1_ := Aside0.mk (ho); clear HB; clear HO_3; have HB := n0_; have HO226 := n1_; clear n0_ n1_; clear ho hb hg hat))
        go_roundg k1
        case measure => have := HK1.out; omega
        case rel => exact ⟨(y224), (wrap64 (x7_1 + 1)), (by first | rfl | (simp; done) | (simp [*]; done)), H', ⟨by have := HK1.out; omega⟩, ⟨by (with_reducible repeat (first | apply Kd.R_alloc | apply Kd.R_drewN | apply Kd.R_drew)); exact HO226.out⟩, ⟨by repeat (first | (with_reducible first | exact HB.out | apply below_alloc | apply pw_below_drewN | apply below_drew1) | exact HB.out)⟩⟩
       ·
        rw [if_neg c11] at H
        exact absurd H (by simp)
    ·
     rw [if_neg c4] at H
     exact absurd H (by simp)
   ·
    rw [if_neg c2] at H
    have c2b0 : decide (x7_1 < 4) = false := decide_eq_false c2
    clear c2
    by_cases c14 : (x3_1.length : Int) = 0
    ·
     rw [if_pos c14] at H
     have c14b0 : ((x3_1.length : Int) == 0) = true := beq_iff_eq.mpr c14
     have c14b1 : ((x3_1.length : Int) != 0) = false := bne_eq_false_iff_eq.mpr c14
     clear c14
     obtain ⟨y227, hy227⟩ : ∃ y_ : List (S25), y_ = (([(⟨1, 0, 0, 0, 0, 0, 0, 0, 0, 0⟩ : S25)] : List (S25))) := ⟨_, rfl⟩
     replace H : (some y227) = some r := by first | (rw [hy227]; with_reducible exact H) | (have H2_ := (Option.bind_some _ _).symm.trans H; rw [hy227]; with_reducible exact H2_) | (have H2_ := (Option.bind_some _ _).symm.trans H; with_reducible exact H2_) | with_reducible exact H | (rw [hy227]; exact H) | exact H
     have Ny227 := Aside0.mk hy227
     clear hy227
     obtain rfl := Option.some.inj H
     obtain ⟨Ao15, co15, eo15⟩ := Kd.R_slice HO_3.out
     subst eo15
     go_wp2_with (first | ((with_reducible refine gate_dst (N := 34) rfl ?_); refine Kd.R_lit k25 _ 25 ?hg (N := 34) ?hd (xs := ([(⟨1, 0, 0, 0, 0, 0, 0, 0, 0, 0⟩ : S25)] : List (S25))) (inner := [.int .i64 1, .int .i64 0, .int .i64 0, .int .i64 0, .int .i64 0, .int .i64 0, .int .u64 0, .int .i64 0, .int .i64 0, .int .i64 0]) (ok := fun _ => True) (okp := fun _ => True) ?hr ?hp (fun _ hk => hk) trivial (Below.refl _ _) (Nat.le_refl _) (by simp) ?_; (case hd => rfl); (case hg => rfl); (case hr => first | (go_simp; done) | (go_simp; rfl)); (case hp => exact (Reps.c10 (show Kd.M k25 _ _ _ (⟨1, 0, 0, 0, 0, 0, 0, 0, 0, 0⟩ : S25) [.int .i64 1, .int .i64 0, .int .i64 0, .int .i64 0, .int .i64 0, .int .i64 0, .int .u64 0, .int .i64 0, .int .i64 0, .int .i64 0] from (k25_mkM _ _ _ (⟨1, 0, 0, 0, 0, 0, 0, 0, 0, 0⟩ : S25) )) (Reps.none _ _))); intro v228 w16 ho17 hb hg_ hnew_; clear hg_ hnew_; (first | rw [← Ny227.out] at ho17 | (simp only [Int.reduceToNat] at ho17; rw [← Ny227.out] at ho17)); have n0_ := Aside0.mk (Kd.R_elder' (by (with_reducible repeat (first | apply Kd.R_alloc | apply Kd.R_drewN | apply Kd.R_drew)); exact HO_3.out) (Kd.R_base ho17) hb); have n1_ := Aside0.mk (Kd.R_lower (Kd.R_new' ho17 (Kd.R_lt (by (with_reducible repeat (first | apply Kd.R_alloc | apply Kd.R_drewN | apply Kd.R_drew)); exact HO_3.out))) (below_size (by repeat (first | (with_reducible first | exact HB.out | apply below_alloc | apply pw_below_drewN | apply below_drew1) | exact HB.out)))); have n2_ := Aside0.mk (below_step (by repeat (first | (with_reducible first | exact HB.out | apply below_alloc | apply pw_below_drewN | apply below_drew1) | exact HB.out)) hb); clear HO_3; clear HB; have HO_3 := n0_; have HO229 := n1_; have HB := n2_; clear n0_ n1_ n2_; clear hb ho17))
     go_ret
     exact ⟨_, by first | rfl | (simp [errW_none, errW_some] <;> rfl) | (simp [*, errW_none, errW_some] <;> rfl), by (with_reducible repeat (first | apply Kd.R_alloc | apply Kd.R_drewN | apply Kd.R_drew)); exact Kd.R_mono HO229.out (fun _ hk => trivial), by repeat (first | (with_reducible first | exact HB.out | apply below_alloc | apply pw_below_drewN | apply below_drew1) | exact HB.out)⟩
    ·
     rw [if_neg c14] at H
     have c14b0 : ((x3_1.length : Int) == 0) = false := beq_eq_false_iff_ne.mpr c14
     have c14b1 : ((x3_1.length : Int) != 0) = true := bne_iff_ne.mpr c14
     have c14b2 : ¬ (x3_1 = []) := fun h_ => c14 (by rw [h_]; rfl)
     obtain rfl := Option.some.inj H
     obtain ⟨Ao18, co18, eo18⟩ := Kd.R_slice HO_3.out
     subst eo18
     go_wp2
     go_ret
     exact ⟨_, by first | rfl | (simp [errW_none, errW_some] <;> rfl) | (simp [*, errW_none, errW_some] <;> rfl), by (with_reducible repeat (first | apply Kd.R_alloc | apply Kd.R_drewN | apply Kd.R_drew)); exact HO_3.out, by repeat (first | (with_reducible first | exact HB.out | apply below_alloc | apply pw_below_drewN | apply below_drew1) | exact HB.out)⟩

end Go.Proofs.YtkmochnefidlmaaDoor.P
