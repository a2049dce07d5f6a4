/- Written for this claim by a program of this session (drive.py, over the print of the kit): Lean functions with the answers of Go functions, and the proofs that the Go code comes to these answers, under no condition but the readings of the arguments that each theorem names. -/
import Derived.Test.YtclomjndhcpmfaaPx0
import Derived.Test.YtclomjndhcpmfaaPx3
import Derived.Test.YtclomjndhcpmfaaPx5
namespace Go.Proofs.Ytclomjndhcpmfaa.P
open Go.RowKit Go.Proofs.YtclomjndhcpmfaaW.PrintWords Go.Proofs.YtclomjndhcpmfaaW.PrintLast Go.Proofs.YtclomjndhcpmfaaW.PrintMore
attribute [local go_sem] max2_int min2_int max_two min_two max_three min_three max_four min_four   -- for this text's walks alone
set_option linter.unusedVariables false
set_option linter.unusedSimpArgs false

/-! ### cleatlaw03_FlagOrder: function 4 -/
def cleatlaw03_FlagOrder.j0 : Nat → Int → Int → Int → Int → Int → Bool → Bool → Bool → Bool → Bool → Option (Bool)
  | 0, _, _, _, _, _, _, _, _, _, _ => none
  | k + 1, x0, x1, x5, x7, x8, x9, x196000, x196001, x196002, x196003 => (cleatlaw03_holds.f 10 x196000 x196001 x196002 x196003).bind fun t199 => (if (t199 == (decide (x7 ≥ x8))) = true then ((cleatlaw03_holds.f 12 x196000 x196001 x196002 x196003).bind fun t200 => (if (t200 == (decide (x7 > x8))) = true then ((cleatlaw03_holds.f 11 x196000 x196001 x196002 x196003).bind fun t201 => (if (t201 == (decide (x7 < x8))) = true then ((cleatlaw03_holds.f 13 x196000 x196001 x196002 x196003).bind fun t202 => ((cleatlaw03_flagged.f k).bind fun t203 => (if t203 = true then (if x5 = (IntKind.u64.wrap (x0 - x1)) then (if x9 = true then (if (t202 == (decide (x7 ≤ x8))) = true then ((cleatlaw03_holds.f 4 x196000 x196001 x196002 x196003).bind fun t204 => (some (t204 == (decide ((wrap64 (x5)) < 0))))) else (none)) else (none)) else (none)) else (none)))) else (none))) else (none))) else (none))
def cleatlaw03_FlagOrder.f (k : Nat) (a0 : Int) (a1 : Int) : Option (Bool) := (flag_Sub.f a0 a1).bind fun bt190 => ((cleatlaw03_holds.f 0 bt190.2.1 bt190.2.2.1 bt190.2.2.2.1 bt190.2.2.2.2).bind fun t196 => (if (t196 == (a0 == a1)) = true then ((cleatlaw03_holds.f 2 bt190.2.1 bt190.2.2.1 bt190.2.2.2.1 bt190.2.2.2.2).bind fun t197 => (if (t197 == (decide (a0 ≥ a1))) = true then ((cleatlaw03_holds.f 8 bt190.2.1 bt190.2.2.1 bt190.2.2.2.1 bt190.2.2.2.2).bind fun t198 => (cleatlaw03_FlagOrder.j0 k a0 a1 bt190.1 (wrap64 (a0)) (wrap64 (a1)) (t198 == (decide (a0 > a1))) bt190.2.1 bt190.2.2.1 bt190.2.2.2.1 bt190.2.2.2.2)) else (cleatlaw03_FlagOrder.j0 k a0 a1 bt190.1 (wrap64 (a0)) (wrap64 (a1)) false bt190.2.1 bt190.2.2.1 bt190.2.2.2.1 bt190.2.2.2.2))) else (cleatlaw03_FlagOrder.j0 k a0 a1 bt190.1 (wrap64 (a0)) (wrap64 (a1)) false bt190.2.1 bt190.2.2.1 bt190.2.2.2.1 bt190.2.2.2.2)))
theorem cleatlaw03_FlagOrder.mono_l : ∀ k, (∀ y0 y1 y2 y3 y4 y5 y6 y7 y8 y9, LeO (cleatlaw03_FlagOrder.j0 k y0 y1 y2 y3 y4 y5 y6 y7 y8 y9) (cleatlaw03_FlagOrder.j0 (k + 1) y0 y1 y2 y3 y4 y5 y6 y7 y8 y9))
  | 0 => fun _ _ _ _ _ _ _ _ _ _ r h => by simp [cleatlaw03_FlagOrder.j0] at h
  | k + 1 => by
    have ih0 := cleatlaw03_FlagOrder.mono_l k
    · intro y0 y1 y2 y3 y4 y5 y6 y7 y8 y9
      unfold cleatlaw03_FlagOrder.j0
      repeat' first
      | (with_reducible exact ih0 _ _ _ _ _ _ _ _ _ _)
      | (with_reducible exact cleatlaw03_flagged.mono _)
      | (with_reducible exact LeO.refl _)
      | (with_reducible exact LeO.none _)
      | (with_reducible refine LeO.ite ?_ ?_)
      | (with_reducible refine LeO.bind ?_ (fun _ => ?_))
      | exact ih0 _ _ _ _ _ _ _ _ _ _
      | exact cleatlaw03_flagged.mono _
      | exact LeO.none _
      | refine LeO.ite ?_ ?_
      | refine LeO.bind ?_ (fun _ => ?_)
theorem cleatlaw03_FlagOrder.mono : ∀ a0 a1 k, LeO (cleatlaw03_FlagOrder.f k a0 a1) (cleatlaw03_FlagOrder.f (k + 1) a0 a1) := by
  intro a0 a1 k
  have ih0 := cleatlaw03_FlagOrder.mono_l k
  unfold cleatlaw03_FlagOrder.f
  repeat' first
      | (with_reducible exact ih0 _ _ _ _ _ _ _ _ _ _)
      | (with_reducible exact cleatlaw03_flagged.mono _)
      | (with_reducible exact LeO.refl _)
      | (with_reducible exact LeO.none _)
      | (with_reducible refine LeO.ite ?_ ?_)
      | (with_reducible refine LeO.bind ?_ (fun _ => ?_))
      | exact ih0 _ _ _ _ _ _ _ _ _ _
      | exact cleatlaw03_flagged.mono _
      | exact LeO.none _
      | refine LeO.ite ?_ ?_
      | refine LeO.bind ?_ (fun _ => ?_)
set_option maxHeartbeats 8000000 in
set_option maxRecDepth 100000 in
theorem cleatlaw03_FlagOrder.calls (k : Nat) (a0 : Int) (a1 : Int) (r : Bool) (w : World) (h : cleatlaw03_FlagOrder.f k a0 a1 = some r) :
    Calls Try.prog 4 #[.int .u64 a0, .int .u64 a1] w fun e w' => e = .returned (.bool r) ∧ Below w.heap.size w w' := by
  have hu24 := Try.underlying24
  have HB := Aside0.mk (Below.refl w.heap.size w)
  have H : ((flag_Sub.f a0 a1).bind fun bt190 => ((cleatlaw03_holds.f 0 bt190.2.1 bt190.2.2.1 bt190.2.2.2.1 bt190.2.2.2.2).bind fun t196 => (if (t196 == (a0 == a1)) = true then ((cleatlaw03_holds.f 2 bt190.2.1 bt190.2.2.1 bt190.2.2.2.1 bt190.2.2.2.2).bind fun t197 => (if (t197 == (decide (a0 ≥ a1))) = true then ((cleatlaw03_holds.f 8 bt190.2.1 bt190.2.2.1 bt190.2.2.2.1 bt190.2.2.2.2).bind fun t198 => (cleatlaw03_FlagOrder.j0 k a0 a1 bt190.1 (wrap64 (a0)) (wrap64 (a1)) (t198 == (decide (a0 > a1))) bt190.2.1 bt190.2.2.1 bt190.2.2.2.1 bt190.2.2.2.2)) else (cleatlaw03_FlagOrder.j0 k a0 a1 bt190.1 (wrap64 (a0)) (wrap64 (a1)) false bt190.2.1 bt190.2.2.1 bt190.2.2.2.1 bt190.2.2.2.2))) else (cleatlaw03_FlagOrder.j0 k a0 a1 bt190.1 (wrap64 (a0)) (wrap64 (a1)) false bt190.2.1 bt190.2.2.1 bt190.2.2.2.1 bt190.2.2.2.2)))) = some r := h
  clear h
  replace H := Option.bind_eq_some_iff.mp H
  obtain ⟨⟨t190, t191, t192, t193, t194⟩, A30, H⟩ := H
  replace H : ((cleatlaw03_holds.f 0 t191 t192 t193 t194).bind fun t196 => (if (t196 == (a0 == a1)) = true then ((cleatlaw03_holds.f 2 t191 t192 t193 t194).bind fun t197 => (if (t197 == (decide (a0 ≥ a1))) = true then ((cleatlaw03_holds.f 8 t191 t192 t193 t194).bind fun t198 => (cleatlaw03_FlagOrder.j0 k a0 a1 t190 (wrap64 (a0)) (wrap64 (a1)) (t198 == (decide (a0 > a1))) t191 t192 t193 t194)) else (cleatlaw03_FlagOrder.j0 k a0 a1 t190 (wrap64 (a0)) (wrap64 (a1)) false t191 t192 t193 t194))) else (cleatlaw03_FlagOrder.j0 k a0 a1 t190 (wrap64 (a0)) (wrap64 (a1)) false t191 t192 t193 t194))) = some r := H
  have A3 := Aside0.mk A30
  clear A30
  have HC4 := Aside0.mk H
  clear H
  go_enter Try.func4, Try.ntmps4
  go_upto_region 4 with (first | ((with_reducible refine gate_callee (f := 16) rfl ?_); refine goesL_ (some 14) rfl rfl Try.func16 (by kernel_rfl) rfl #[.int .u64 a0, .int .u64 a1] rfl (by (try simp only [List.map_toArray, List.map_cons, List.map_nil]); first | done | rfl | (simp only [List.length_drop, List.length_take]; rfl)) ?_; (with_reducible refine (flag_Sub.calls a0 a1 t190 t191 t192 t193 t194 _ A3.out).mono ?_); rintro e w5 ⟨rfl, hb⟩; refine ⟨_, rfl, ?_⟩; have n0_ := Aside0.mk (below_step (by repeat (first | (with_reducible first | exact HB.out | apply below_alloc | apply pw_below_drewN | apply below_drew1) | exact HB.out)) hb); clear HB; have HB := n0_; clear n0_; (try clear hb); (try clear hb2); (try clear hk); (try clear hi)) | ((with_reducible refine gate_dst (N := 6) rfl ?_); refine box_event ?hg (N := 6) ?hd (cs := #[.bool false, .bool false, .bool false, .bool false]) (t := 24) ?hr ?_; (case hd => rfl); (case hg => rfl); (case hr => first | (go_simp; done) | (go_simp; rfl)); intro gb195 hg w6 hbox hb; have n0_ := Aside0.mk (below_step (by repeat (first | (with_reducible first | exact HB.out | apply below_alloc | apply pw_below_drewN | apply below_drew1) | exact HB.out)) hb); have n1_ := Aside0.mk (hbox); have n2_ := Aside0.mk ((by rw [hg]; exact (below_size (by repeat (first | (with_reducible first | exact HB.out | apply below_alloc | apply pw_below_drewN | apply below_drew1) | exact HB.out))) : w.heap.size ≤ gb195)); have n3_ := Aside0.mk ((by rw [hg]; exact (below_size (by repeat (first | (with_reducible first | exact HB.out | apply below_alloc | apply pw_below_drewN | apply below_drew1) | exact HB.out))) : w.heap.size ≤ gb195)); clear HB; have HB := n0_; have BK195 := n1_; have GW195 := n2_; have GE195 := n3_; clear n0_ n1_ n2_ n3_; clear hb hbox hg; have hcz7_0 : w6.cell? ⟨gb195, 0, none⟩ = some (.bool false) := (blk_cell BK195.out 0).trans rfl; have hcz7_1 : w6.cell? ⟨gb195, 1, none⟩ = some (.bool false) := (blk_cell BK195.out 1).trans rfl; have hcz7_2 : w6.cell? ⟨gb195, 2, none⟩ = some (.bool false) := (blk_cell BK195.out 2).trans rfl; have hcz7_3 : w6.cell? ⟨gb195, 3, none⟩ = some (.bool false) := (blk_cell BK195.out 3).trans rfl; have hfz7_0 := blk_frozen BK195.out 0; have hfz7_1 := blk_frozen BK195.out 1; have hfz7_2 := blk_frozen BK195.out 2; have hfz7_3 := blk_frozen BK195.out 3))
  (try simp only [Act.put, List.setIfInBounds_toArray, List.set_cons_zero, List.set_cons_succ])
  go_cut [9] (fun v9 wc => ∃ (kq : Nat) (x9_3 : Bool), v9 = .bool x9_3 ∧ Aside0 (cleatlaw03_FlagOrder.j0 kq a0 a1 t190 (wrap64 (a0)) (wrap64 (a1)) x9_3 t191 t192 t193 t194 = some r) ∧ Aside0 (kq ≤ k) ∧ Aside0 (wc.heap[gb195]? = some (.cells #[.bool t191, .bool t192, .bool t193, .bool t194] 24 (0, 0))) ∧ Aside0 (Below w.heap.size w wc))
  case first =>
    have H := HC4.out
    clear HC4
    replace H := Option.bind_eq_some_iff.mp H
    obtain ⟨t196, A80, H⟩ := H
    replace H : (if (t196 == (a0 == a1)) = true then ((cleatlaw03_holds.f 2 t191 t192 t193 t194).bind fun t197 => (if (t197 == (decide (a0 ≥ a1))) = true then ((cleatlaw03_holds.f 8 t191 t192 t193 t194).bind fun t198 => (cleatlaw03_FlagOrder.j0 k a0 a1 t190 (wrap64 (a0)) (wrap64 (a1)) (t198 == (decide (a0 > a1))) t191 t192 t193 t194)) else (cleatlaw03_FlagOrder.j0 k a0 a1 t190 (wrap64 (a0)) (wrap64 (a1)) false t191 t192 t193 t194))) else (cleatlaw03_FlagOrder.j0 k a0 a1 t190 (wrap64 (a0)) (wrap64 (a1)) false t191 t192 t193 t194)) = some r := H
    have A8 := Aside0.mk A80
    clear A80
    by_cases c9 : (t196 == (a0 == a1)) = true
    · rw [if_pos c9] at H
      have c9b0 : (t196 == (a0 == a1)) = true := c9
      (try (have c9b1 : decide (t196 = (a0 == a1)) = true := by simpa using c9))
      (try (have c9b2 : (t196 == (a0 == a1)) = true := by simpa using c9))
      clear c9
      (first | rw [c9b0] | (simp only [i64_w, i32_w]; rw [c9b0]) | skip)
      replace H := Option.bind_eq_some_iff.mp H
      obtain ⟨t197, A100, H⟩ := H
      replace H : (if (t197 == (decide (a0 ≥ a1))) = true then ((cleatlaw03_holds.f 8 t191 t192 t193 t194).bind fun t198 => (cleatlaw03_FlagOrder.j0 k a0 a1 t190 (wrap64 (a0)) (wrap64 (a1)) (t198 == (decide (a0 > a1))) t191 t192 t193 t194)) else (cleatlaw03_FlagOrder.j0 k a0 a1 t190 (wrap64 (a0)) (wrap64 (a1)) false t191 t192 t193 t194)) = some r := H
      have A10 := Aside0.mk A100
      clear A100
      by_cases c11 : (t197 == (decide (a0 ≥ a1))) = true
      · rw [if_pos c11] at H
        have c11b0 : (t197 == (decide (a0 ≥ a1))) = true := c11
        (try (have c11b1 : decide (t197 = (decide (a0 ≥ a1))) = true := by simpa using c11))
        (try (have c11b2 : (t197 == (decide (a0 ≥ a1))) = true := by simpa using c11))
        clear c11
        replace H := Option.bind_eq_some_iff.mp H
        obtain ⟨t198, A120, H⟩ := H
        replace H : (cleatlaw03_FlagOrder.j0 k a0 a1 t190 (wrap64 (a0)) (wrap64 (a1)) (t198 == (decide (a0 > a1))) t191 t192 t193 t194) = some r := H
        have A12 := Aside0.mk A120
        clear A120
        have H' := Aside0.mk H
        clear H
        have hcz13_0 : w6.cell? ⟨gb195, 0, none⟩ = some (.bool false) := (blk_cell BK195.out 0).trans rfl
        have hcz13_1 : w6.cell? ⟨gb195, 1, none⟩ = some (.bool false) := (blk_cell BK195.out 1).trans rfl
        have hcz13_2 : w6.cell? ⟨gb195, 2, none⟩ = some (.bool false) := (blk_cell BK195.out 2).trans rfl
        have hcz13_3 : w6.cell? ⟨gb195, 3, none⟩ = some (.bool false) := (blk_cell BK195.out 3).trans rfl
        have hfz13_0 := blk_frozen BK195.out 0
        have hfz13_1 := blk_frozen BK195.out 1
        have hfz13_2 := blk_frozen BK195.out 2
        have hfz13_3 := blk_frozen BK195.out 3
        go_wp2_with (first | ((with_reducible refine gate_callee (f := 25) rfl ?_); refine goesL_ (some 22) rfl rfl Try.func25 (by kernel_rfl) rfl #[.int .i64 0, .agg #[.bool t191, .bool t192, .bool t193, .bool t194]] rfl (by (try simp only [List.map_toArray, List.map_cons, List.map_nil]); first | done | rfl | (simp only [List.length_drop, List.length_take]; rfl)) ?_; (with_reducible refine (cleatlaw03_holds.calls 0 t191 t192 t193 t194 t196 _ A8.out).mono ?_); rintro e w14 ⟨rfl, hb⟩; refine ⟨_, rfl, ?_⟩; have n0_ := Aside0.mk (blk_below (g := gb195) (o := .cells #[.bool t191, .bool t192, .bool t193, .bool t194] 24 (0, 0)) (by (with_reducible repeat (first | refine blk_drewN ?_ _ | refine blk_drew ?_ | refine blk_alloc ?_ _)); refine blk_put (cs := #[.bool t191, .bool t192, .bool t193, .bool false]) ?_ 3 _ rfl; (with_reducible repeat (first | refine blk_drewN ?_ _ | refine blk_drew ?_ | refine blk_alloc ?_ _)); refine blk_put (cs := #[.bool t191, .bool t192, .bool false, .bool false]) ?_ 2 _ rfl; (with_reducible repeat (first | refine blk_drewN ?_ _ | refine blk_drew ?_ | refine blk_alloc ?_ _)); refine blk_put (cs := #[.bool t191, .bool false, .bool false, .bool false]) ?_ 1 _ rfl; (with_reducible repeat (first | refine blk_drewN ?_ _ | refine blk_drew ?_ | refine blk_alloc ?_ _)); refine blk_put (cs := #[.bool false, .bool false, .bool false, .bool false]) ?_ 0 _ rfl; (with_reducible repeat (first | refine blk_drewN ?_ _ | refine blk_drew ?_ | refine blk_alloc ?_ _)); exact BK195.out) hb); have n1_ := Aside0.mk (below_step (by repeat (first | (with_reducible first | exact HB.out | apply below_alloc | apply pw_below_drewN | apply below_drew1 | refine below_set ?_ GE195.out) | exact HB.out)) hb); clear BK195; clear HB; have BK195 := n0_; have HB := n1_; clear n0_ n1_; (try clear hb); (try clear hb2); (try clear hk); (try clear hi); have hcz15_0 : w14.cell? ⟨gb195, 0, none⟩ = some (.bool t191) := (blk_cell BK195.out 0).trans rfl; have hcz15_1 : w14.cell? ⟨gb195, 1, none⟩ = some (.bool t192) := (blk_cell BK195.out 1).trans rfl; have hcz15_2 : w14.cell? ⟨gb195, 2, none⟩ = some (.bool t193) := (blk_cell BK195.out 2).trans rfl; have hcz15_3 : w14.cell? ⟨gb195, 3, none⟩ = some (.bool t194) := (blk_cell BK195.out 3).trans rfl; have hfz15_0 := blk_frozen BK195.out 0; have hfz15_1 := blk_frozen BK195.out 1; have hfz15_2 := blk_frozen BK195.out 2; have hfz15_3 := blk_frozen BK195.out 3) | (go_at_call 25; (with_reducible refine (cleatlaw03_holds.calls 2 t191 t192 t193 t194 t197 _ A10.out).mono ?_); rintro e w16 ⟨rfl, hb⟩; have n0_ := Aside0.mk (blk_below (g := gb195) (o := .cells #[.bool t191, .bool t192, .bool t193, .bool t194] 24 (0, 0)) (by (with_reducible repeat (first | refine blk_drewN ?_ _ | refine blk_drew ?_ | refine blk_alloc ?_ _)); exact BK195.out) hb); have n1_ := Aside0.mk (below_step (by repeat (first | (with_reducible first | exact HB.out | apply below_alloc | apply pw_below_drewN | apply below_drew1 | refine below_set ?_ GE195.out) | exact HB.out)) hb); clear BK195; clear HB; have BK195 := n0_; have HB := n1_; clear n0_ n1_; (try clear hb); (try clear hb2); (try clear hk); (try clear hi); have hcz17_0 : w16.cell? ⟨gb195, 0, none⟩ = some (.bool t191) := (blk_cell BK195.out 0).trans rfl; have hcz17_1 : w16.cell? ⟨gb195, 1, none⟩ = some (.bool t192) := (blk_cell BK195.out 1).trans rfl; have hcz17_2 : w16.cell? ⟨gb195, 2, none⟩ = some (.bool t193) := (blk_cell BK195.out 2).trans rfl; have hcz17_3 : w16.cell? ⟨gb195, 3, none⟩ = some (.bool t194) := (blk_cell BK195.out 3).trans rfl; have hfz17_0 := blk_frozen BK195.out 0; have hfz17_1 := blk_frozen BK195.out 1; have hfz17_2 := blk_frozen BK195.out 2; have hfz17_3 := blk_frozen BK195.out 3) | (go_at_call 25; (with_reducible refine (cleatlaw03_holds.calls 8 t191 t192 t193 t194 t198 _ A12.out).mono ?_); rintro e w18 ⟨rfl, hb⟩; have n0_ := Aside0.mk (blk_below (g := gb195) (o := .cells #[.bool t191, .bool t192, .bool t193, .bool t194] 24 (0, 0)) (by (with_reducible repeat (first | refine blk_drewN ?_ _ | refine blk_drew ?_ | refine blk_alloc ?_ _)); exact BK195.out) hb); have n1_ := Aside0.mk (below_step (by repeat (first | (with_reducible first | exact HB.out | apply below_alloc | apply pw_below_drewN | apply below_drew1 | refine below_set ?_ GE195.out) | exact HB.out)) hb); clear BK195; clear HB; have BK195 := n0_; have HB := n1_; clear n0_ n1_; (try clear hb); (try clear hb2); (try clear hk); (try clear hi)))
        go_meet
        case rel => exact ⟨_, ((t198 == (decide (a0 > a1)))), (by first | rfl | (simp; done) | (simp [*]; done)), H', ⟨by first | omega | exact Nat.le_refl _⟩, ⟨by (with_reducible repeat (first | refine blk_drewN ?_ _ | refine blk_drew ?_ | refine blk_alloc ?_ _)); exact BK195.out⟩, ⟨by repeat (first | (with_reducible first | exact HB.out | apply below_alloc | apply pw_below_drewN | apply below_drew1 | refine below_set ?_ GE195.out) | exact HB.out)⟩⟩
      · rw [if_neg c11] at H
        have c11b0 : (t197 == (decide (a0 ≥ a1))) = false := by simpa using c11
        (try (have c11b1 : decide (t197 = (decide (a0 ≥ a1))) = false := by simpa using c11))
        (try (have c11b2 : (t197 == (decide (a0 ≥ a1))) = false := by simpa using c11))
        (try (have c11b3 : ¬ (t197 = (decide (a0 ≥ a1))) := by simpa using c11))
        clear c11
        have H' := Aside0.mk H
        clear H
        have hcz19_0 : w6.cell? ⟨gb195, 0, none⟩ = some (.bool false) := (blk_cell BK195.out 0).trans rfl
        have hcz19_1 : w6.cell? ⟨gb195, 1, none⟩ = some (.bool false) := (blk_cell BK195.out 1).trans rfl
        have hcz19_2 : w6.cell? ⟨gb195, 2, none⟩ = some (.bool false) := (blk_cell BK195.out 2).trans rfl
        have hcz19_3 : w6.cell? ⟨gb195, 3, none⟩ = some (.bool false) := (blk_cell BK195.out 3).trans rfl
        have hfz19_0 := blk_frozen BK195.out 0
        have hfz19_1 := blk_frozen BK195.out 1
        have hfz19_2 := blk_frozen BK195.out 2
        have hfz19_3 := blk_frozen BK195.out 3
        go_wp2_with (first | ((with_reducible refine gate_callee (f := 25) rfl ?_); refine goesL_ (some 22) rfl rfl Try.func25 (by kernel_rfl) rfl #[.int .i64 0, .agg #[.bool t191, .bool t192, .bool t193, .bool t194]] rfl (by (try simp only [List.map_toArray, List.map_cons, List.map_nil]); first | done | rfl | (simp only [List.length_drop, List.length_take]; rfl)) ?_; (with_reducible refine (cleatlaw03_holds.calls 0 t191 t192 t193 t194 t196 _ A8.out).mono ?_); rintro e w20 ⟨rfl, hb⟩; refine ⟨_, rfl, ?_⟩; have n0_ := Aside0.mk (blk_below (g := gb195) (o := .cells #[.bool t191, .bool t192, .bool t193, .bool t194] 24 (0, 0)) (by (with_reducible repeat (first | refine blk_drewN ?_ _ | refine blk_drew ?_ | refine blk_alloc ?_ _)); refine blk_put (cs := #[.bool t191, .bool t192, .bool t193, .bool false]) ?_ 3 _ rfl; (with_reducible repeat (first | refine blk_drewN ?_ _ | refine blk_drew ?_ | refine blk_alloc ?_ _)); refine blk_put (cs := #[.bool t191, .bool t192, .bool false, .bool false]) ?_ 2 _ rfl; (with_reducible repeat (first | refine blk_drewN ?_ _ | refine blk_drew ?_ | refine blk_alloc ?_ _)); refine blk_put (cs := #[.bool t191, .bool false, .bool false, .bool false]) ?_ 1 _ rfl; (with_reducible repeat (first | refine blk_drewN ?_ _ | refine blk_drew ?_ | refine blk_alloc ?_ _)); refine blk_put (cs := #[.bool false, .bool false, .bool false, .bool false]) ?_ 0 _ rfl; (with_reducible repeat (first | refine blk_drewN ?_ _ | refine blk_drew ?_ | refine blk_alloc ?_ _)); exact BK195.out) hb); have n1_ := Aside0.mk (below_step (by repeat (first | (with_reducible first | exact HB.out | apply below_alloc | apply pw_below_drewN | apply below_drew1 | refine below_set ?_ GE195.out) | exact HB.out)) hb); clear BK195; clear HB; have BK195 := n0_; have HB := n1_; clear n0_ n1_; (try clear hb); (try clear hb2); (try clear hk); (try clear hi); have hcz21_0 : w20.cell? ⟨gb195, 0, none⟩ = some (.bool t191) := (blk_cell BK195.out 0).trans rfl; have hcz21_1 : w20.cell? ⟨gb195, 1, none⟩ = some (.bool t192) := (blk_cell BK195.out 1).trans rfl; have hcz21_2 : w20.cell? ⟨gb195, 2, none⟩ = some (.bool t193) := (blk_cell BK195.out 2).trans rfl; have hcz21_3 : w20.cell? ⟨gb195, 3, none⟩ = some (.bool t194) := (blk_cell BK195.out 3).trans rfl; have hfz21_0 := blk_frozen BK195.out 0; have hfz21_1 := blk_frozen BK195.out 1; have hfz21_2 := blk_frozen BK195.out 2; have hfz21_3 := blk_frozen BK195.out 3) | (go_at_call 25; (with_reducible refine (cleatlaw03_holds.calls 2 t191 t192 t193 t194 t197 _ A10.out).mono ?_); rintro e w22 ⟨rfl, hb⟩; have n0_ := Aside0.mk (blk_below (g := gb195) (o := .cells #[.bool t191, .bool t192, .bool t193, .bool t194] 24 (0, 0)) (by (with_reducible repeat (first | refine blk_drewN ?_ _ | refine blk_drew ?_ | refine blk_alloc ?_ _)); exact BK195.out) hb); have n1_ := Aside0.mk (below_step (by repeat (first | (with_reducible first | exact HB.out | apply below_alloc | apply pw_below_drewN | apply below_drew1 | refine below_set ?_ GE195.out) | exact HB.out)) hb); clear BK195; clear HB; have BK195 := n0_; have HB := n1_; clear n0_ n1_; (try clear hb); (try clear hb2); (try clear hk); (try clear hi)))
        go_meet
        case rel => exact ⟨_, (false), (by first | rfl | (simp; done) | (simp [*]; done)), H', ⟨by first | omega | exact Nat.le_refl _⟩, ⟨by (with_reducible repeat (first | refine blk_drewN ?_ _ | refine blk_drew ?_ | refine blk_alloc ?_ _)); exact BK195.out⟩, ⟨by repeat (first | (with_reducible first | exact HB.out | apply below_alloc | apply pw_below_drewN | apply below_drew1 | refine below_set ?_ GE195.out) | exact HB.out)⟩⟩
    · rw [if_neg c9] at H
      have c9b0 : (t196 == (a0 == a1)) = false := by simpa using c9
      (try (have c9b1 : decide (t196 = (a0 == a1)) = false := by simpa using c9))
      (try (have c9b2 : (t196 == (a0 == a1)) = false := by simpa using c9))
      (try (have c9b3 : ¬ (t196 = (a0 == a1)) := by simpa using c9))
      clear c9
      (first | rw [c9b0] | (simp only [i64_w, i32_w]; rw [c9b0]) | skip)
      have H' := Aside0.mk H
      clear H
      have hcz23_0 : w6.cell? ⟨gb195, 0, none⟩ = some (.bool false) := (blk_cell BK195.out 0).trans rfl
      have hcz23_1 : w6.cell? ⟨gb195, 1, none⟩ = some (.bool false) := (blk_cell BK195.out 1).trans rfl
      have hcz23_2 : w6.cell? ⟨gb195, 2, none⟩ = some (.bool false) := (blk_cell BK195.out 2).trans rfl
      have hcz23_3 : w6.cell? ⟨gb195, 3, none⟩ = some (.bool false) := (blk_cell BK195.out 3).trans rfl
      have hfz23_0 := blk_frozen BK195.out 0
      have hfz23_1 := blk_frozen BK195.out 1
      have hfz23_2 := blk_frozen BK195.out 2
      have hfz23_3 := blk_frozen BK195.out 3
      go_wp2_with (first | ((with_reducible refine gate_callee (f := 25) rfl ?_); refine goesL_ (some 22) rfl rfl Try.func25 (by kernel_rfl) rfl #[.int .i64 0, .agg #[.bool t191, .bool t192, .bool t193, .bool t194]] rfl (by (try simp only [List.map_toArray, List.map_cons, List.map_nil]); first | done | rfl | (simp only [List.length_drop, List.length_take]; rfl)) ?_; (with_reducible refine (cleatlaw03_holds.calls 0 t191 t192 t193 t194 t196 _ A8.out).mono ?_); rintro e w24 ⟨rfl, hb⟩; refine ⟨_, rfl, ?_⟩; have n0_ := Aside0.mk (blk_below (g := gb195) (o := .cells #[.bool t191, .bool t192, .bool t193, .bool t194] 24 (0, 0)) (by (with_reducible repeat (first | refine blk_drewN ?_ _ | refine blk_drew ?_ | refine blk_alloc ?_ _)); refine blk_put (cs := #[.bool t191, .bool t192, .bool t193, .bool false]) ?_ 3 _ rfl; (with_reducible repeat (first | refine blk_drewN ?_ _ | refine blk_drew ?_ | refine blk_alloc ?_ _)); refine blk_put (cs := #[.bool t191, .bool t192, .bool false, .bool false]) ?_ 2 _ rfl; (with_reducible repeat (first | refine blk_drewN ?_ _ | refine blk_drew ?_ | refine blk_alloc ?_ _)); refine blk_put (cs := #[.bool t191, .bool false, .bool false, .bool false]) ?_ 1 _ rfl; (with_reducible repeat (first | refine blk_drewN ?_ _ | refine blk_drew ?_ | refine blk_alloc ?_ _)); refine blk_put (cs := #[.bool false, .bool false, .bool false, .bool false]) ?_ 0 _ rfl; (with_reducible repeat (first | refine blk_drewN ?_ _ | refine blk_drew ?_ | refine blk_alloc ?_ _)); exact BK195.out) hb); have n1_ := Aside0.mk (below_step (by repeat (first | (with_reducible first | exact HB.out | apply below_alloc | apply pw_below_drewN | apply below_drew1 | refine below_set ?_ GE195.out) | exact HB.out)) hb); clear BK195; clear HB; have BK195 := n0_; have HB := n1_; clear n0_ n1_; (try clear hb); (try clear hb2); (try clear hk); (try clear hi)))
      go_meet
      case rel => exact ⟨_, (false), (by first | rfl | (simp; done) | (simp [*]; done)), H', ⟨by first | omega | exact Nat.le_refl _⟩, ⟨by (with_reducible repeat (first | refine blk_drewN ?_ _ | refine blk_drew ?_ | refine blk_alloc ?_ _)); exact BK195.out⟩, ⟨by repeat (first | (with_reducible first | exact HB.out | apply below_alloc | apply pw_below_drewN | apply below_drew1 | refine below_set ?_ GE195.out) | exact HB.out)⟩⟩
  case rest =>
    clear HC4
    try clear c1
    try clear c2
    try clear p2
    try clear c4
    try clear p6
    try clear c9
    try clear c9b0
    try clear c9b1
    try clear c9b2
    try clear c11
    try clear c11b0
    try clear c11b1
    try clear c11b2
    try clear c16
    try clear hcz13_0
    try clear hcz13_1
    try clear hcz13_2
    try clear hcz13_3
    try clear hcz15_0
    try clear hcz15_1
    try clear hcz15_2
    try clear hcz15_3
    try clear hcz17_0
    try clear hcz17_1
    try clear hcz17_2
    try clear hcz17_3
    try clear hcz19_0
    try clear hcz19_1
    try clear hcz19_2
    try clear hcz19_3
    try clear hcz21_0
    try clear hcz21_1
    try clear hcz21_2
    try clear hcz21_3
    try clear hcz23_0
    try clear hcz23_1
    try clear hcz23_2
    try clear hcz23_3
    try clear hcz7_0
    try clear hcz7_1
    try clear hcz7_2
    try clear hcz7_3
    try clear hfz13_0
    try clear hfz13_1
    try clear hfz13_2
    try clear hfz13_3
    try clear hfz15_0
    try clear hfz15_1
    try clear hfz15_2
    try clear hfz15_3
    try clear hfz17_0
    try clear hfz17_1
    try clear hfz17_2
    try clear hfz17_3
    try clear hfz19_0
    try clear hfz19_1
    try clear hfz19_2
    try clear hfz19_3
    try clear hfz21_0
    try clear hfz21_1
    try clear hfz21_2
    try clear hfz21_3
    try clear hfz23_0
    try clear hfz23_1
    try clear hfz23_2
    try clear hfz23_3
    try clear hfz7_0
    try clear hfz7_1
    try clear hfz7_2
    try clear hfz7_3
    obtain ⟨kq, x9_3, rfl, HA, HJ3, BK195, HB⟩ := hcut
    cases kq with
    | zero => exact absurd HA.out (by simp [cleatlaw03_FlagOrder.j0])
    | succ kj3 =>
      have H := HA.out
      clear HA
      simp only [cleatlaw03_FlagOrder.j0] at H
      replace H := Option.bind_eq_some_iff.mp H
      obtain ⟨t199, A250, H⟩ := H
      replace H : (if (t199 == (decide ((wrap64 (a0)) ≥ (wrap64 (a1))))) = true then ((cleatlaw03_holds.f 12 t191 t192 t193 t194).bind fun t200 => (if (t200 == (decide ((wrap64 (a0)) > (wrap64 (a1))))) = true then ((cleatlaw03_holds.f 11 t191 t192 t193 t194).bind fun t201 => (if (t201 == (decide ((wrap64 (a0)) < (wrap64 (a1))))) = true then ((cleatlaw03_holds.f 13 t191 t192 t193 t194).bind fun t202 => ((cleatlaw03_flagged.f kj3).bind fun t203 => (if t203 = true then (if t190 = (IntKind.u64.wrap (a0 - a1)) then (if x9_3 = true then (if (t202 == (decide ((wrap64 (a0)) ≤ (wrap64 (a1))))) = true then ((cleatlaw03_holds.f 4 t191 t192 t193 t194).bind fun t204 => (some (t204 == (decide ((wrap64 (t190)) < 0))))) else (none)) else (none)) else (none)) else (none)))) else (none))) else (none))) else (none)) = some r := H
      have A25 := Aside0.mk A250
      clear A250
      by_cases c26 : (t199 == (decide ((wrap64 (a0)) ≥ (wrap64 (a1))))) = true
      · rw [if_pos c26] at H
        have c26b0 : (t199 == (decide ((wrap64 (a0)) ≥ (wrap64 (a1))))) = true := c26
        (try (have c26b1 : decide (t199 = (decide ((wrap64 (a0)) ≥ (wrap64 (a1))))) = true := by simpa using c26))
        (try (have c26b2 : (t199 == (decide ((wrap64 (a0)) ≥ (wrap64 (a1))))) = true := by simpa using c26))
        clear c26
        replace H := Option.bind_eq_some_iff.mp H
        obtain ⟨t200, A270, H⟩ := H
        replace H : (if (t200 == (decide ((wrap64 (a0)) > (wrap64 (a1))))) = true then ((cleatlaw03_holds.f 11 t191 t192 t193 t194).bind fun t201 => (if (t201 == (decide ((wrap64 (a0)) < (wrap64 (a1))))) = true then ((cleatlaw03_holds.f 13 t191 t192 t193 t194).bind fun t202 => ((cleatlaw03_flagged.f kj3).bind fun t203 => (if t203 = true then (if t190 = (IntKind.u64.wrap (a0 - a1)) then (if x9_3 = true then (if (t202 == (decide ((wrap64 (a0)) ≤ (wrap64 (a1))))) = true then ((cleatlaw03_holds.f 4 t191 t192 t193 t194).bind fun t204 => (some (t204 == (decide ((wrap64 (t190)) < 0))))) else (none)) else (none)) else (none)) else (none)))) else (none))) else (none)) = some r := H
        have A27 := Aside0.mk A270
        clear A270
        by_cases c28 : (t200 == (decide ((wrap64 (a0)) > (wrap64 (a1))))) = true
        · rw [if_pos c28] at H
          have c28b0 : (t200 == (decide ((wrap64 (a0)) > (wrap64 (a1))))) = true := c28
          (try (have c28b1 : decide (t200 = (decide ((wrap64 (a0)) > (wrap64 (a1))))) = true := by simpa using c28))
          (try (have c28b2 : (t200 == (decide ((wrap64 (a0)) > (wrap64 (a1))))) = true := by simpa using c28))
          clear c28
          replace H := Option.bind_eq_some_iff.mp H
          obtain ⟨t201, A290, H⟩ := H
          replace H : (if (t201 == (decide ((wrap64 (a0)) < (wrap64 (a1))))) = true then ((cleatlaw03_holds.f 13 t191 t192 t193 t194).bind fun t202 => ((cleatlaw03_flagged.f kj3).bind fun t203 => (if t203 = true then (if t190 = (IntKind.u64.wrap (a0 - a1)) then (if x9_3 = true then (if (t202 == (decide ((wrap64 (a0)) ≤ (wrap64 (a1))))) = true then ((cleatlaw03_holds.f 4 t191 t192 t193 t194).bind fun t204 => (some (t204 == (decide ((wrap64 (t190)) < 0))))) else (none)) else (none)) else (none)) else (none)))) else (none)) = some r := H
          have A29 := Aside0.mk A290
          clear A290
          by_cases c30 : (t201 == (decide ((wrap64 (a0)) < (wrap64 (a1))))) = true
          · rw [if_pos c30] at H
            have c30b0 : (t201 == (decide ((wrap64 (a0)) < (wrap64 (a1))))) = true := c30
            (try (have c30b1 : decide (t201 = (decide ((wrap64 (a0)) < (wrap64 (a1))))) = true := by simpa using c30))
            (try (have c30b2 : (t201 == (decide ((wrap64 (a0)) < (wrap64 (a1))))) = true := by simpa using c30))
            clear c30
            replace H := Option.bind_eq_some_iff.mp H
            obtain ⟨t202, A310, H⟩ := H
            replace H : ((cleatlaw03_flagged.f kj3).bind fun t203 => (if t203 = true then (if t190 = (IntKind.u64.wrap (a0 - a1)) then (if x9_3 = true then (if (t202 == (decide ((wrap64 (a0)) ≤ (wrap64 (a1))))) = true then ((cleatlaw03_holds.f 4 t191 t192 t193 t194).bind fun t204 => (some (t204 == (decide ((wrap64 (t190)) < 0))))) else (none)) else (none)) else (none)) else (none))) = some r := H
            have A31 := Aside0.mk A310
            clear A310
            replace H := Option.bind_eq_some_iff.mp H
            obtain ⟨t203, A320, H⟩ := H
            replace H : (if t203 = true then (if t190 = (IntKind.u64.wrap (a0 - a1)) then (if x9_3 = true then (if (t202 == (decide ((wrap64 (a0)) ≤ (wrap64 (a1))))) = true then ((cleatlaw03_holds.f 4 t191 t192 t193 t194).bind fun t204 => (some (t204 == (decide ((wrap64 (t190)) < 0))))) else (none)) else (none)) else (none)) else (none)) = some r := H
            have A32 := Aside0.mk A320
            clear A320
            by_cases c33 : t203 = true
            · subst c33
              have H1 : (if t190 = (IntKind.u64.wrap (a0 - a1)) then (if x9_3 = true then (if (t202 == (decide ((wrap64 (a0)) ≤ (wrap64 (a1))))) = true then ((cleatlaw03_holds.f 4 t191 t192 t193 t194).bind fun t204 => (some (t204 == (decide ((wrap64 (t190)) < 0))))) else (none)) else (none)) else (none)) = some r := by rw [if_pos rfl] at H; exact H
              clear H
              have H := H1
              clear H1
              by_cases c34 : t190 = (IntKind.u64.wrap (a0 - a1))
              · rw [if_pos c34] at H
                have c34b0 : (t190 == (IntKind.u64.wrap (a0 - a1))) = true := beq_iff_eq.mpr c34
                have c34b1 : (t190 != (IntKind.u64.wrap (a0 - a1))) = false := bne_eq_false_iff_eq.mpr c34
                clear c34
                by_cases c35 : x9_3 = true
                · subst c35
                  have H1 : (if (t202 == (decide ((wrap64 (a0)) ≤ (wrap64 (a1))))) = true then ((cleatlaw03_holds.f 4 t191 t192 t193 t194).bind fun t204 => (some (t204 == (decide ((wrap64 (t190)) < 0))))) else (none)) = some r := by rw [if_pos rfl] at H; exact H
                  clear H
                  have H := H1
                  clear H1
                  by_cases c36 : (t202 == (decide ((wrap64 (a0)) ≤ (wrap64 (a1))))) = true
                  · rw [if_pos c36] at H
                    have c36b0 : (t202 == (decide ((wrap64 (a0)) ≤ (wrap64 (a1))))) = true := c36
                    (try (have c36b1 : decide (t202 = (decide ((wrap64 (a0)) ≤ (wrap64 (a1))))) = true := by simpa using c36))
                    (try (have c36b2 : (t202 == (decide ((wrap64 (a0)) ≤ (wrap64 (a1))))) = true := by simpa using c36))
                    clear c36
                    replace H := Option.bind_eq_some_iff.mp H
                    obtain ⟨t204, A370, H⟩ := H
                    replace H : (some (t204 == (decide ((wrap64 (t190)) < 0)))) = some r := H
                    have A37 := Aside0.mk A370
                    clear A370
                    obtain rfl := Option.some.inj H
                    have hcz38_0 : wc.cell? ⟨gb195, 0, none⟩ = some (.bool t191) := (blk_cell BK195.out 0).trans rfl
                    have hcz38_1 : wc.cell? ⟨gb195, 1, none⟩ = some (.bool t192) := (blk_cell BK195.out 1).trans rfl
                    have hcz38_2 : wc.cell? ⟨gb195, 2, none⟩ = some (.bool t193) := (blk_cell BK195.out 2).trans rfl
                    have hcz38_3 : wc.cell? ⟨gb195, 3, none⟩ = some (.bool t194) := (blk_cell BK195.out 3).trans rfl
                    have hfz38_0 := blk_frozen BK195.out 0
                    have hfz38_1 := blk_frozen BK195.out 1
                    have hfz38_2 := blk_frozen BK195.out 2
                    have hfz38_3 := blk_frozen BK195.out 3
                    go_wp2_with (first | ((with_reducible refine gate_callee (f := 25) rfl ?_); refine goesL_ (some 44) rfl rfl Try.func25 (by kernel_rfl) rfl #[.int .i64 10, .agg #[.bool t191, .bool t192, .bool t193, .bool t194]] rfl (by (try simp only [List.map_toArray, List.map_cons, List.map_nil]); first | done | rfl | (simp only [List.length_drop, List.length_take]; rfl)) ?_; (with_reducible refine (cleatlaw03_holds.calls 10 t191 t192 t193 t194 t199 _ A25.out).mono ?_); rintro e w39 ⟨rfl, hb⟩; refine ⟨_, rfl, ?_⟩; have n0_ := Aside0.mk (blk_below (g := gb195) (o := .cells #[.bool t191, .bool t192, .bool t193, .bool t194] 24 (0, 0)) (by (with_reducible repeat (first | refine blk_drewN ?_ _ | refine blk_drew ?_ | refine blk_alloc ?_ _)); exact BK195.out) hb); have n1_ := Aside0.mk (below_step (by repeat (first | (with_reducible first | exact HB.out | apply below_alloc | apply pw_below_drewN | apply below_drew1 | refine below_set ?_ GE195.out) | exact HB.out)) hb); clear BK195; clear HB; have BK195 := n0_; have HB := n1_; clear n0_ n1_; (try clear hb); (try clear hb2); (try clear hk); (try clear hi); have hcz40_0 : w39.cell? ⟨gb195, 0, none⟩ = some (.bool t191) := (blk_cell BK195.out 0).trans rfl; have hcz40_1 : w39.cell? ⟨gb195, 1, none⟩ = some (.bool t192) := (blk_cell BK195.out 1).trans rfl; have hcz40_2 : w39.cell? ⟨gb195, 2, none⟩ = some (.bool t193) := (blk_cell BK195.out 2).trans rfl; have hcz40_3 : w39.cell? ⟨gb195, 3, none⟩ = some (.bool t194) := (blk_cell BK195.out 3).trans rfl; have hfz40_0 := blk_frozen BK195.out 0; have hfz40_1 := blk_frozen BK195.out 1; have hfz40_2 := blk_frozen BK195.out 2; have hfz40_3 := blk_frozen BK195.out 3) | (go_at_call 25; (with_reducible refine (cleatlaw03_holds.calls 12 t191 t192 t193 t194 t200 _ A27.out).mono ?_); rintro e w41 ⟨rfl, hb⟩; have n0_ := Aside0.mk (blk_below (g := gb195) (o := .cells #[.bool t191, .bool t192, .bool t193, .bool t194] 24 (0, 0)) (by (with_reducible repeat (first | refine blk_drewN ?_ _ | refine blk_drew ?_ | refine blk_alloc ?_ _)); exact BK195.out) hb); have n1_ := Aside0.mk (below_step (by repeat (first | (with_reducible first | exact HB.out | apply below_alloc | apply pw_below_drewN | apply below_drew1 | refine below_set ?_ GE195.out) | exact HB.out)) hb); clear BK195; clear HB; have BK195 := n0_; have HB := n1_; clear n0_ n1_; (try clear hb); (try clear hb2); (try clear hk); (try clear hi); have hcz42_0 : w41.cell? ⟨gb195, 0, none⟩ = some (.bool t191) := (blk_cell BK195.out 0).trans rfl; have hcz42_1 : w41.cell? ⟨gb195, 1, none⟩ = some (.bool t192) := (blk_cell BK195.out 1).trans rfl; have hcz42_2 : w41.cell? ⟨gb195, 2, none⟩ = some (.bool t193) := (blk_cell BK195.out 2).trans rfl; have hcz42_3 : w41.cell? ⟨gb195, 3, none⟩ = some (.bool t194) := (blk_cell BK195.out 3).trans rfl; have hfz42_0 := blk_frozen BK195.out 0; have hfz42_1 := blk_frozen BK195.out 1; have hfz42_2 := blk_frozen BK195.out 2; have hfz42_3 := blk_frozen BK195.out 3) | (go_at_call 25; (with_reducible refine (cleatlaw03_holds.calls 11 t191 t192 t193 t194 t201 _ A29.out).mono ?_); rintro e w43 ⟨rfl, hb⟩; have n0_ := Aside0.mk (blk_below (g := gb195) (o := .cells #[.bool t191, .bool t192, .bool t193, .bool t194] 24 (0, 0)) (by (with_reducible repeat (first | refine blk_drewN ?_ _ | refine blk_drew ?_ | refine blk_alloc ?_ _)); exact BK195.out) hb); have n1_ := Aside0.mk (below_step (by repeat (first | (with_reducible first | exact HB.out | apply below_alloc | apply pw_below_drewN | apply below_drew1 | refine below_set ?_ GE195.out) | exact HB.out)) hb); clear BK195; clear HB; have BK195 := n0_; have HB := n1_; clear n0_ n1_; (try clear hb); (try clear hb2); (try clear hk); (try clear hi); have hcz44_0 : w43.cell? ⟨gb195, 0, none⟩ = some (.bool t191) := (blk_cell BK195.out 0).trans rfl; have hcz44_1 : w43.cell? ⟨gb195, 1, none⟩ = some (.bool t192) := (blk_cell BK195.out 1).trans rfl; have hcz44_2 : w43.cell? ⟨gb195, 2, none⟩ = some (.bool t193) := (blk_cell BK195.out 2).trans rfl; have hcz44_3 : w43.cell? ⟨gb195, 3, none⟩ = some (.bool t194) := (blk_cell BK195.out 3).trans rfl; have hfz44_0 := blk_frozen BK195.out 0; have hfz44_1 := blk_frozen BK195.out 1; have hfz44_2 := blk_frozen BK195.out 2; have hfz44_3 := blk_frozen BK195.out 3) | (go_at_call 25; (with_reducible refine (cleatlaw03_holds.calls 13 t191 t192 t193 t194 t202 _ A31.out).mono ?_); rintro e w45 ⟨rfl, hb⟩; have n0_ := Aside0.mk (blk_below (g := gb195) (o := .cells #[.bool t191, .bool t192, .bool t193, .bool t194] 24 (0, 0)) (by (with_reducible repeat (first | refine blk_drewN ?_ _ | refine blk_drew ?_ | refine blk_alloc ?_ _)); exact BK195.out) hb); have n1_ := Aside0.mk (below_step (by repeat (first | (with_reducible first | exact HB.out | apply below_alloc | apply pw_below_drewN | apply below_drew1 | refine below_set ?_ GE195.out) | exact HB.out)) hb); clear BK195; clear HB; have BK195 := n0_; have HB := n1_; clear n0_ n1_; (try clear hb); (try clear hb2); (try clear hk); (try clear hi)) | ((with_reducible refine gate_callee (f := 22) rfl ?_); refine goesL_ (some 73) rfl rfl Try.func22 (by kernel_rfl) rfl #[] rfl (by (try simp only [List.map_toArray, List.map_cons, List.map_nil]); first | done | rfl | (simp only [List.length_drop, List.length_take]; rfl)) ?_; (with_reducible refine (cleatlaw03_flagged.calls kj3  true _ A32.out).mono ?_); rintro e w46 ⟨rfl, hb⟩; refine ⟨_, rfl, ?_⟩; have n0_ := Aside0.mk (blk_below (g := gb195) (o := .cells #[.bool t191, .bool t192, .bool t193, .bool t194] 24 (0, 0)) (by (with_reducible repeat (first | refine blk_drewN ?_ _ | refine blk_drew ?_ | refine blk_alloc ?_ _)); exact BK195.out) hb); have n1_ := Aside0.mk (below_step (by repeat (first | (with_reducible first | exact HB.out | apply below_alloc | apply pw_below_drewN | apply below_drew1 | refine below_set ?_ GE195.out) | exact HB.out)) hb); clear BK195; clear HB; have BK195 := n0_; have HB := n1_; clear n0_ n1_; (try clear hb); (try clear hb2); (try clear hk); (try clear hi); have hcz47_0 : w46.cell? ⟨gb195, 0, none⟩ = some (.bool t191) := (blk_cell BK195.out 0).trans rfl; have hcz47_1 : w46.cell? ⟨gb195, 1, none⟩ = some (.bool t192) := (blk_cell BK195.out 1).trans rfl; have hcz47_2 : w46.cell? ⟨gb195, 2, none⟩ = some (.bool t193) := (blk_cell BK195.out 2).trans rfl; have hcz47_3 : w46.cell? ⟨gb195, 3, none⟩ = some (.bool t194) := (blk_cell BK195.out 3).trans rfl; have hfz47_0 := blk_frozen BK195.out 0; have hfz47_1 := blk_frozen BK195.out 1; have hfz47_2 := blk_frozen BK195.out 2; have hfz47_3 := blk_frozen BK195.out 3) | (go_at_call 25; (with_reducible refine (cleatlaw03_holds.calls 4 t191 t192 t193 t194 t204 _ A37.out).mono ?_); rintro e w48 ⟨rfl, hb⟩; have n0_ := Aside0.mk (blk_below (g := gb195) (o := .cells #[.bool t191, .bool t192, .bool t193, .bool t194] 24 (0, 0)) (by (with_reducible repeat (first | refine blk_drewN ?_ _ | refine blk_drew ?_ | refine blk_alloc ?_ _)); exact BK195.out) hb); have n1_ := Aside0.mk (below_step (by repeat (first | (with_reducible first | exact HB.out | apply below_alloc | apply pw_below_drewN | apply below_drew1 | refine below_set ?_ GE195.out) | exact HB.out)) hb); clear BK195; clear HB; have BK195 := n0_; have HB := n1_; clear n0_ n1_; (try clear hb); (try clear hb2); (try clear hk); (try clear hi)))
                    go_ret
                    exact ⟨by first | rfl | (simp [errW_none, errW_some] <;> rfl) | (simp [*, errW_none, errW_some] <;> rfl), by repeat (first | (with_reducible first | exact HB.out | apply below_alloc | apply pw_below_drewN | apply below_drew1 | refine below_set ?_ GE195.out) | exact HB.out)⟩
                  · rw [if_neg c36] at H
                    exact absurd H (by simp)
                · replace c35 := Bool.eq_false_iff.mpr c35
                  subst c35
                  have H1 : (none) = some r := by rw [if_neg (show ¬ (false = true) by decide)] at H; exact H
                  clear H
                  have H := H1
                  clear H1
                  exact absurd H (by simp)
              · rw [if_neg c34] at H
                exact absurd H (by simp)
            · replace c33 := Bool.eq_false_iff.mpr c33
              subst c33
              have H1 : (none) = some r := by rw [if_neg (show ¬ (false = true) by decide)] at H; exact H
              clear H
              have H := H1
              clear H1
              exact absurd H (by simp)
          · rw [if_neg c30] at H
            exact absurd H (by simp)
        · rw [if_neg c28] at H
          exact absurd H (by simp)
      · rw [if_neg c26] at H
        exact absurd H (by simp)

/-- THE ONE PURE STATEMENT of cleatlaw03_FlagOrder: yours. -/
def cleatlaw03_FlagOrder.Pure : Prop := ∀ (a0 : Int) (a1 : Int), (Lit.int .u64 a0).wf = true → (Lit.int .u64 a1).wf = true → ∃ k, cleatlaw03_FlagOrder.f k a0 a1 = some true
theorem cleatlaw03_FlagOrder.walk (P : cleatlaw03_FlagOrder.Pure) (a0 : Int) (a1 : Int) (w : World) (w0 : (Lit.int .u64 a0).wf = true) (w1 : (Lit.int .u64 a1).wf = true) :
    Calls Try.prog 4 #[.int .u64 a0, .int .u64 a1] w fun e w' => e = .returned (.bool true) ∧ Below w.heap.size w w' := by
  obtain ⟨k, h⟩ := P a0 a1 w0 w1
  refine (cleatlaw03_FlagOrder.calls k a0 a1 true w h).mono ?_
  rintro e w' ⟨rfl, hd⟩
  exact ⟨rfl, hd⟩

/-! ### cleatlaw03_FlagTwo: function 5 -/
def cleatlaw03_FlagTwo.j0 : Nat → Int → Bool → Int → Bool → Bool → Bool → Bool → Bool → Option (Bool)
  | 0, _, _, _, _, _, _, _, _ => none
  | k + 1, x0, x5, x6, x21, x209000, x209001, x209002, x209003 => if x21 = true then ((cleatlaw03_flagged.f k).bind fun t211 => (if t211 = true then (if x6 = 1 then (some (!x5)) else (none)) else (none))) else ((flag_Holds.f (wrap64 ((wrap64 (x0 + 1)) - (wrap64 (2 * (Int.tmod x0 2))))) x209000 x209001 x209002 x209003).bind fun bt212 => ((cleatlaw03_flagged.f k).bind fun t214 => (if t214 = true then (if x6 = 0 then (if bt212.2 = 0 then (some (x5 != bt212.1)) else (none)) else (none)) else (none))))
def cleatlaw03_FlagTwo.f (k : Nat) (a0 : Int) (a1_0 : Bool) (a1_1 : Bool) (a1_2 : Bool) (a1_3 : Bool) : Option (Bool) := (flag_Holds.f a0 a1_0 a1_1 a1_2 a1_3).bind fun bt209 => (if a0 < 0 then (cleatlaw03_FlagTwo.j0 k a0 bt209.1 bt209.2 true a1_0 a1_1 a1_2 a1_3) else (cleatlaw03_FlagTwo.j0 k a0 bt209.1 bt209.2 (decide (a0 > 13)) a1_0 a1_1 a1_2 a1_3))
theorem cleatlaw03_FlagTwo.mono_l : ∀ k, (∀ y0 y1 y2 y3 y4 y5 y6 y7, LeO (cleatlaw03_FlagTwo.j0 k y0 y1 y2 y3 y4 y5 y6 y7) (cleatlaw03_FlagTwo.j0 (k + 1) y0 y1 y2 y3 y4 y5 y6 y7))
  | 0 => fun _ _ _ _ _ _ _ _ r h => by simp [cleatlaw03_FlagTwo.j0] at h
  | k + 1 => by
    have ih0 := cleatlaw03_FlagTwo.mono_l k
    · intro y0 y1 y2 y3 y4 y5 y6 y7
      unfold cleatlaw03_FlagTwo.j0
      repeat' first
      | (with_reducible exact ih0 _ _ _ _ _ _ _ _)
      | (with_reducible exact cleatlaw03_flagged.mono _)
      | (with_reducible exact LeO.refl _)
      | (with_reducible exact LeO.none _)
      | (with_reducible refine LeO.ite ?_ ?_)
      | (with_reducible refine LeO.bind ?_ (fun _ => ?_))
      | exact ih0 _ _ _ _ _ _ _ _
      | exact cleatlaw03_flagged.mono _
      | exact LeO.none _
      | refine LeO.ite ?_ ?_
      | refine LeO.bind ?_ (fun _ => ?_)
theorem cleatlaw03_FlagTwo.mono : ∀ a0 a1 a2 a3 a4 k, LeO (cleatlaw03_FlagTwo.f k a0 a1 a2 a3 a4) (cleatlaw03_FlagTwo.f (k + 1) a0 a1 a2 a3 a4) := by
  intro a0 a1 a2 a3 a4 k
  have ih0 := cleatlaw03_FlagTwo.mono_l k
  unfold cleatlaw03_FlagTwo.f
  repeat' first
      | (with_reducible exact ih0 _ _ _ _ _ _ _ _)
      | (with_reducible exact cleatlaw03_flagged.mono _)
      | (with_reducible exact LeO.refl _)
      | (with_reducible exact LeO.none _)
      | (with_reducible refine LeO.ite ?_ ?_)
      | (with_reducible refine LeO.bind ?_ (fun _ => ?_))
      | exact ih0 _ _ _ _ _ _ _ _
      | exact cleatlaw03_flagged.mono _
      | exact LeO.none _
      | refine LeO.ite ?_ ?_
      | refine LeO.bind ?_ (fun _ => ?_)
set_option maxHeartbeats 8000000 in
set_option maxRecDepth 100000 in
theorem cleatlaw03_FlagTwo.calls (k : Nat) (a0 : Int) (a1_0 : Bool) (a1_1 : Bool) (a1_2 : Bool) (a1_3 : Bool) (r : Bool) (w : World) (h : cleatlaw03_FlagTwo.f k a0 a1_0 a1_1 a1_2 a1_3 = some r) :
    Calls Try.prog 5 #[.int .i64 a0, .agg #[.bool a1_0, .bool a1_1, .bool a1_2, .bool a1_3]] w fun e w' => e = .returned (.bool r) ∧ Below w.heap.size w w' := by
  have hu24 := Try.underlying24
  have HB := Aside0.mk (Below.refl w.heap.size w)
  have H : ((flag_Holds.f a0 a1_0 a1_1 a1_2 a1_3).bind fun bt209 => (if a0 < 0 then (cleatlaw03_FlagTwo.j0 k a0 bt209.1 bt209.2 true a1_0 a1_1 a1_2 a1_3) else (cleatlaw03_FlagTwo.j0 k a0 bt209.1 bt209.2 (decide (a0 > 13)) a1_0 a1_1 a1_2 a1_3))) = some r := h
  clear h
  replace H := Option.bind_eq_some_iff.mp H
  obtain ⟨⟨t209, t210⟩, A30, H⟩ := H
  replace H : (if a0 < 0 then (cleatlaw03_FlagTwo.j0 k a0 t209 t210 true a1_0 a1_1 a1_2 a1_3) else (cleatlaw03_FlagTwo.j0 k a0 t209 t210 (decide (a0 > 13)) a1_0 a1_1 a1_2 a1_3)) = some r := H
  have A3 := Aside0.mk A30
  clear A30
  have HC4 := Aside0.mk H
  clear H
  go_enter Try.func5, Try.ntmps5
  go_upto_region 2 with (first | ((with_reducible refine gate_dst (N := 3) rfl ?_); refine box_event ?hg (N := 3) ?hd (cs := #[.bool a1_0, .bool a1_1, .bool a1_2, .bool a1_3]) (t := 24) ?hr ?_; (case hd => rfl); (case hg => rfl); (case hr => first | (go_simp; done) | (go_simp; rfl)); intro gb208 hg w5 hbox hb; have n0_ := Aside0.mk (below_step (by repeat (first | (with_reducible first | exact HB.out | apply below_alloc | apply pw_below_drewN | apply below_drew1) | exact HB.out)) hb); have n1_ := Aside0.mk (hbox); have n2_ := Aside0.mk ((by rw [hg]; exact (below_size (by repeat (first | (with_reducible first | exact HB.out | apply below_alloc | apply pw_below_drewN | apply below_drew1) | exact HB.out))) : w.heap.size ≤ gb208)); have n3_ := Aside0.mk ((by rw [hg]; exact (below_size (by repeat (first | (with_reducible first | exact HB.out | apply below_alloc | apply pw_below_drewN | apply below_drew1) | exact HB.out))) : w.heap.size ≤ gb208)); clear HB; have HB := n0_; have BK208 := n1_; have GW208 := n2_; have GE208 := n3_; clear n0_ n1_ n2_ n3_; clear hb hbox hg; have hcz6_0 : w5.cell? ⟨gb208, 0, none⟩ = some (.bool a1_0) := (blk_cell BK208.out 0).trans rfl; have hcz6_1 : w5.cell? ⟨gb208, 1, none⟩ = some (.bool a1_1) := (blk_cell BK208.out 1).trans rfl; have hcz6_2 : w5.cell? ⟨gb208, 2, none⟩ = some (.bool a1_2) := (blk_cell BK208.out 2).trans rfl; have hcz6_3 : w5.cell? ⟨gb208, 3, none⟩ = some (.bool a1_3) := (blk_cell BK208.out 3).trans rfl; have hfz6_0 := blk_frozen BK208.out 0; have hfz6_1 := blk_frozen BK208.out 1; have hfz6_2 := blk_frozen BK208.out 2; have hfz6_3 := blk_frozen BK208.out 3) | ((with_reducible refine gate_callee (f := 18) rfl ?_); refine goesL_ (some 13) rfl rfl Try.func18 (by kernel_rfl) rfl #[.int .i64 a0, .agg #[.bool a1_0, .bool a1_1, .bool a1_2, .bool a1_3]] rfl (by (try simp only [List.map_toArray, List.map_cons, List.map_nil]); first | done | rfl | (simp only [List.length_drop, List.length_take]; rfl)) ?_; (with_reducible refine (flag_Holds.calls a0 a1_0 a1_1 a1_2 a1_3 t209 t210 _ A3.out).mono ?_); rintro e w7 ⟨rfl, hb⟩; refine ⟨_, rfl, ?_⟩; have n0_ := Aside0.mk (blk_below (g := gb208) (o := .cells #[.bool a1_0, .bool a1_1, .bool a1_2, .bool a1_3] 24 (0, 0)) (by (with_reducible repeat (first | refine blk_drewN ?_ _ | refine blk_drew ?_ | refine blk_alloc ?_ _)); exact BK208.out) hb); have n1_ := Aside0.mk (below_step (by repeat (first | (with_reducible first | exact HB.out | apply below_alloc | apply pw_below_drewN | apply below_drew1 | refine below_set ?_ GE208.out) | exact HB.out)) hb); clear BK208; clear HB; have BK208 := n0_; have HB := n1_; clear n0_ n1_; (try clear hb); (try clear hb2); (try clear hk); (try clear hi)))
  (try simp only [Act.put, List.setIfInBounds_toArray, List.set_cons_zero, List.set_cons_succ])
  go_cut [21] (fun v21 wc => ∃ (kq : Nat) (x21_3 : Bool), v21 = .bool x21_3 ∧ Aside0 (cleatlaw03_FlagTwo.j0 kq a0 t209 t210 x21_3 a1_0 a1_1 a1_2 a1_3 = some r) ∧ Aside0 (kq ≤ k) ∧ Aside0 (wc.heap[gb208]? = some (.cells #[.bool a1_0, .bool a1_1, .bool a1_2, .bool a1_3] 24 (0, 0))) ∧ Aside0 (Below w.heap.size w wc))
  case first =>
    have H := HC4.out
    clear HC4
    by_cases c8 : a0 < 0
    · rw [if_pos c8] at H
      have c8b0 : decide (a0 < 0) = true := decide_eq_true c8
      clear c8
      (first | rw [c8b0] | (simp only [i64_w, i32_w]; rw [c8b0]) | skip)
      have H' := Aside0.mk H
      clear H
      go_wp2
      go_meet
      case rel => exact ⟨_, (true), (by first | rfl | (simp; done) | (simp [*]; done)), H', ⟨by first | omega | exact Nat.le_refl _⟩, ⟨by (with_reducible repeat (first | refine blk_drewN ?_ _ | refine blk_drew ?_ | refine blk_alloc ?_ _)); exact BK208.out⟩, ⟨by repeat (first | (with_reducible first | exact HB.out | apply below_alloc | apply pw_below_drewN | apply below_drew1 | refine below_set ?_ GE208.out) | exact HB.out)⟩⟩
    · rw [if_neg c8] at H
      have c8b0 : decide (a0 < 0) = false := decide_eq_false c8
      clear c8
      (first | rw [c8b0] | (simp only [i64_w, i32_w]; rw [c8b0]) | skip)
      have H' := Aside0.mk H
      clear H
      go_wp2
      go_meet
      case rel => exact ⟨_, (decide (a0 > 13)), (by first | rfl | (simp; done) | (simp [*]; done)), H', ⟨by first | omega | exact Nat.le_refl _⟩, ⟨by (with_reducible repeat (first | refine blk_drewN ?_ _ | refine blk_drew ?_ | refine blk_alloc ?_ _)); exact BK208.out⟩, ⟨by repeat (first | (with_reducible first | exact HB.out | apply below_alloc | apply pw_below_drewN | apply below_drew1 | refine below_set ?_ GE208.out) | exact HB.out)⟩⟩
  case rest =>
    clear HC4
    try clear c1
    try clear p2
    try clear c5
    try clear c8
    try clear c8b0
    try clear hcz6_0
    try clear hcz6_1
    try clear hcz6_2
    try clear hcz6_3
    try clear hfz6_0
    try clear hfz6_1
    try clear hfz6_2
    try clear hfz6_3
    obtain ⟨kq, x21_3, rfl, HA, HJ3, BK208, HB⟩ := hcut
    cases kq with
    | zero => exact absurd HA.out (by simp [cleatlaw03_FlagTwo.j0])
    | succ kj3 =>
      have H := HA.out
      clear HA
      simp only [cleatlaw03_FlagTwo.j0] at H
      by_cases c9 : x21_3 = true
      · subst c9
        have H1 : ((cleatlaw03_flagged.f kj3).bind fun t211 => (if t211 = true then (if t210 = 1 then (some (!t209)) else (none)) else (none))) = some r := by rw [if_pos rfl] at H; exact H
        clear H
        have H := H1
        clear H1
        replace H := Option.bind_eq_some_iff.mp H
        obtain ⟨t211, A100, H⟩ := H
        replace H : (if t211 = true then (if t210 = 1 then (some (!t209)) else (none)) else (none)) = some r := H
        have A10 := Aside0.mk A100
        clear A100
        by_cases c11 : t211 = true
        · subst c11
          have H1 : (if t210 = 1 then (some (!t209)) else (none)) = some r := by rw [if_pos rfl] at H; exact H
          clear H
          have H := H1
          clear H1
          by_cases c12 : t210 = 1
          · rw [if_pos c12] at H
            have c12b0 : (t210 == 1) = true := beq_iff_eq.mpr c12
            have c12b1 : (t210 != 1) = false := bne_eq_false_iff_eq.mpr c12
            clear c12
            obtain rfl := Option.some.inj H
            go_wp2_with (first | ((with_reducible refine gate_callee (f := 22) rfl ?_); refine goesL_ (some 22) rfl rfl Try.func22 (by kernel_rfl) rfl #[] rfl (by (try simp only [List.map_toArray, List.map_cons, List.map_nil]); first | done | rfl | (simp only [List.length_drop, List.length_take]; rfl)) ?_; (with_reducible refine (cleatlaw03_flagged.calls kj3  true _ A10.out).mono ?_); rintro e w13 ⟨rfl, hb⟩; refine ⟨_, rfl, ?_⟩; have n0_ := Aside0.mk (blk_below (g := gb208) (o := .cells #[.bool a1_0, .bool a1_1, .bool a1_2, .bool a1_3] 24 (0, 0)) (by (with_reducible repeat (first | refine blk_drewN ?_ _ | refine blk_drew ?_ | refine blk_alloc ?_ _)); exact BK208.out) hb); have n1_ := Aside0.mk (below_step (by repeat (first | (with_reducible first | exact HB.out | apply below_alloc | apply pw_below_drewN | apply below_drew1 | refine below_set ?_ GE208.out) | exact HB.out)) hb); clear BK208; clear HB; have BK208 := n0_; have HB := n1_; clear n0_ n1_; (try clear hb); (try clear hb2); (try clear hk); (try clear hi)))
            go_ret
            exact ⟨by first | rfl | (simp [errW_none, errW_some] <;> rfl) | (simp [*, errW_none, errW_some] <;> rfl), by repeat (first | (with_reducible first | exact HB.out | apply below_alloc | apply pw_below_drewN | apply below_drew1 | refine below_set ?_ GE208.out) | exact HB.out)⟩
          · rw [if_neg c12] at H
            exact absurd H (by simp)
        · replace c11 := Bool.eq_false_iff.mpr c11
          subst c11
          have H1 : (none) = some r := by rw [if_neg (show ¬ (false = true) by decide)] at H; exact H
          clear H
          have H := H1
          clear H1
          exact absurd H (by simp)
      · replace c9 := Bool.eq_false_iff.mpr c9
        subst c9
        have H1 : ((flag_Holds.f (wrap64 ((wrap64 (a0 + 1)) - (wrap64 (2 * (Int.tmod a0 2))))) a1_0 a1_1 a1_2 a1_3).bind fun bt212 => ((cleatlaw03_flagged.f kj3).bind fun t214 => (if t214 = true then (if t210 = 0 then (if bt212.2 = 0 then (some (t209 != bt212.1)) else (none)) else (none)) else (none)))) = some r := by rw [if_neg (show ¬ (false = true) by decide)] at H; exact H
        clear H
        have H := H1
        clear H1
        replace H := Option.bind_eq_some_iff.mp H
        obtain ⟨⟨t212, t213⟩, A140, H⟩ := H
        replace H : ((cleatlaw03_flagged.f kj3).bind fun t214 => (if t214 = true then (if t210 = 0 then (if t213 = 0 then (some (t209 != t212)) else (none)) else (none)) else (none))) = some r := H
        have A14 := Aside0.mk A140
        clear A140
        replace H := Option.bind_eq_some_iff.mp H
        obtain ⟨t214, A150, H⟩ := H
        replace H : (if t214 = true then (if t210 = 0 then (if t213 = 0 then (some (t209 != t212)) else (none)) else (none)) else (none)) = some r := H
        have A15 := Aside0.mk A150
        clear A150
        by_cases c16 : t214 = true
        · subst c16
          have H1 : (if t210 = 0 then (if t213 = 0 then (some (t209 != t212)) else (none)) else (none)) = some r := by rw [if_pos rfl] at H; exact H
          clear H
          have H := H1
          clear H1
          by_cases c17 : t210 = 0
          · rw [if_pos c17] at H
            have c17b0 : (t210 == 0) = true := beq_iff_eq.mpr c17
            have c17b1 : (t210 != 0) = false := bne_eq_false_iff_eq.mpr c17
            clear c17
            by_cases c18 : t213 = 0
            · rw [if_pos c18] at H
              have c18b0 : (t213 == 0) = true := beq_iff_eq.mpr c18
              have c18b1 : (t213 != 0) = false := bne_eq_false_iff_eq.mpr c18
              clear c18
              obtain rfl := Option.some.inj H
              have hcz19_0 : wc.cell? ⟨gb208, 0, none⟩ = some (.bool a1_0) := (blk_cell BK208.out 0).trans rfl
              have hcz19_1 : wc.cell? ⟨gb208, 1, none⟩ = some (.bool a1_1) := (blk_cell BK208.out 1).trans rfl
              have hcz19_2 : wc.cell? ⟨gb208, 2, none⟩ = some (.bool a1_2) := (blk_cell BK208.out 2).trans rfl
              have hcz19_3 : wc.cell? ⟨gb208, 3, none⟩ = some (.bool a1_3) := (blk_cell BK208.out 3).trans rfl
              have hfz19_0 := blk_frozen BK208.out 0
              have hfz19_1 := blk_frozen BK208.out 1
              have hfz19_2 := blk_frozen BK208.out 2
              have hfz19_3 := blk_frozen BK208.out 3
              go_wp2_with (first | ((with_reducible refine gate_callee (f := 18) rfl ?_); refine goesL_ (some 40) rfl rfl Try.func18 (by kernel_rfl) rfl #[.int .i64 (wrap64 ((wrap64 (a0 + 1)) - (wrap64 (2 * (Int.tmod a0 2))))), .agg #[.bool a1_0, .bool a1_1, .bool a1_2, .bool a1_3]] rfl (by (try simp only [List.map_toArray, List.map_cons, List.map_nil]); first | done | rfl | (simp only [List.length_drop, List.length_take]; rfl)) ?_; (with_reducible refine (flag_Holds.calls (wrap64 ((wrap64 (a0 + 1)) - (wrap64 (2 * (Int.tmod a0 2))))) a1_0 a1_1 a1_2 a1_3 t212 t213 _ A14.out).mono ?_); rintro e w20 ⟨rfl, hb⟩; refine ⟨_, rfl, ?_⟩; have n0_ := Aside0.mk (blk_below (g := gb208) (o := .cells #[.bool a1_0, .bool a1_1, .bool a1_2, .bool a1_3] 24 (0, 0)) (by (with_reducible repeat (first | refine blk_drewN ?_ _ | refine blk_drew ?_ | refine blk_alloc ?_ _)); exact BK208.out) hb); have n1_ := Aside0.mk (below_step (by repeat (first | (with_reducible first | exact HB.out | apply below_alloc | apply pw_below_drewN | apply below_drew1 | refine below_set ?_ GE208.out) | exact HB.out)) hb); clear BK208; clear HB; have BK208 := n0_; have HB := n1_; clear n0_ n1_; (try clear hb); (try clear hb2); (try clear hk); (try clear hi)) | ((with_reducible refine gate_callee (f := 22) rfl ?_); refine goesL_ (some 43) rfl rfl Try.func22 (by kernel_rfl) rfl #[] rfl (by (try simp only [List.map_toArray, List.map_cons, List.map_nil]); first | done | rfl | (simp only [List.length_drop, List.length_take]; rfl)) ?_; (with_reducible refine (cleatlaw03_flagged.calls kj3  true _ A15.out).mono ?_); rintro e w21 ⟨rfl, hb⟩; refine ⟨_, rfl, ?_⟩; have n0_ := Aside0.mk (blk_below (g := gb208) (o := .cells #[.bool a1_0, .bool a1_1, .bool a1_2, .bool a1_3] 24 (0, 0)) (by (with_reducible repeat (first | refine blk_drewN ?_ _ | refine blk_drew ?_ | refine blk_alloc ?_ _)); exact BK208.out) hb); have n1_ := Aside0.mk (below_step (by repeat (first | (with_reducible first | exact HB.out | apply below_alloc | apply pw_below_drewN | apply below_drew1 | refine below_set ?_ GE208.out) | exact HB.out)) hb); clear BK208; clear HB; have BK208 := n0_; have HB := n1_; clear n0_ n1_; (try clear hb); (try clear hb2); (try clear hk); (try clear hi)))
              go_ret
              exact ⟨by first | rfl | (simp [errW_none, errW_some] <;> rfl) | (simp [*, errW_none, errW_some] <;> rfl), by repeat (first | (with_reducible first | exact HB.out | apply below_alloc | apply pw_below_drewN | apply below_drew1 | refine below_set ?_ GE208.out) | exact HB.out)⟩
            · rw [if_neg c18] at H
              exact absurd H (by simp)
          · rw [if_neg c17] at H
            exact absurd H (by simp)
        · replace c16 := Bool.eq_false_iff.mpr c16
          subst c16
          have H1 : (none) = some r := by rw [if_neg (show ¬ (false = true) by decide)] at H; exact H
          clear H
          have H := H1
          clear H1
          exact absurd H (by simp)

end Go.Proofs.Ytclomjndhcpmfaa.P
