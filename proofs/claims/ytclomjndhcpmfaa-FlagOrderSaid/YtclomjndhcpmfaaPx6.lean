-- WRITTEN FOR THIS CLAIM BY A PROGRAM OF THE SESSION'S OWN (drive.py, over the kit's print)
import Derived.Test.YtclomjndhcpmfaaPx0
import Derived.Test.YtclomjndhcpmfaaPx3
import Derived.Test.YtclomjndhcpmfaaPx5
namespace Go.Proofs.Ytclomjndhcpmfaa.P
open Go.RowKit Go.Proofs.YtclomjndhcpmfaaW.PrintWords Go.Proofs.YtclomjndhcpmfaaW.PrintLast Go.Proofs.YtclomjndhcpmfaaW.PrintMore
attribute [local go_sem] max2_int min2_int max_two min_two max_three min_three max_four min_four   -- for this text's walks alone
set_option linter.unusedVariables false
set_option linter.unusedSimpArgs false

/-! ### cleatlaw03_FlagOrder: function 4 -/
def cleatlaw03_FlagOrder.j0 : Nat → Int → Int → Int → Int → Int → Bool → Bool → Bool → Bool → Bool → Option (Bool)
  | 0, _, _, _, _, _, _, _, _, _, _ => none
  | k + 1, x0, x1, x5, x7, x8, x9, x196000, x196001, x196002, x196003 => (cleatlaw03_holds.f 10 x196000 x196001 x196002 x196003).bind fun t199 => (if (t199 == (decide (x7 ≥ x8))) = true then ((cleatlaw03_holds.f 12 x196000 x196001 x196002 x196003).bind fun t200 => (if (t200 == (decide (x7 > x8))) = true then ((cleatlaw03_holds.f 11 x196000 x196001 x196002 x196003).bind fun t201 => (if (t201 == (decide (x7 < x8))) = true then ((cleatlaw03_holds.f 13 x196000 x196001 x196002 x196003).bind fun t202 => ((cleatlaw03_flagged.f k).bind fun t203 => (if t203 = true then (if x5 = (IntKind.u64.wrap (x0 - x1)) then (if x9 = true then (if (t202 == (decide (x7 ≤ x8))) = true then ((cleatlaw03_holds.f 4 x196000 x196001 x196002 x196003).bind fun t204 => (some (t204 == (decide ((wrap64 (x5)) < 0))))) else (some false)) else (some false)) else (some false)) else (some false)))) else ((cleatlaw03_flagged.f k).bind fun t205 => (if t205 = true then (if x5 = (IntKind.u64.wrap (x0 - x1)) then (if x9 = true then (some false) else (some false)) else (some false)) else (some false))))) else ((cleatlaw03_flagged.f k).bind fun t206 => (if t206 = true then (if x5 = (IntKind.u64.wrap (x0 - x1)) then (if x9 = true then (some false) else (some false)) else (some false)) else (some false))))) else ((cleatlaw03_flagged.f k).bind fun t207 => (if t207 = true then (if x5 = (IntKind.u64.wrap (x0 - x1)) then (if x9 = true then (some false) else (some false)) else (some false)) else (some false))))
def cleatlaw03_FlagOrder.f (k : Nat) (a0 : Int) (a1 : Int) : Option (Bool) := (flag_Sub.f a0 a1).bind fun bt190 => ((cleatlaw03_holds.f 0 bt190.2.1 bt190.2.2.1 bt190.2.2.2.1 bt190.2.2.2.2).bind fun t196 => (if (t196 == (a0 == a1)) = true then ((cleatlaw03_holds.f 2 bt190.2.1 bt190.2.2.1 bt190.2.2.2.1 bt190.2.2.2.2).bind fun t197 => (if (t197 == (decide (a0 ≥ a1))) = true then ((cleatlaw03_holds.f 8 bt190.2.1 bt190.2.2.1 bt190.2.2.2.1 bt190.2.2.2.2).bind fun t198 => (cleatlaw03_FlagOrder.j0 k a0 a1 bt190.1 (wrap64 (a0)) (wrap64 (a1)) (t198 == (decide (a0 > a1))) bt190.2.1 bt190.2.2.1 bt190.2.2.2.1 bt190.2.2.2.2)) else (cleatlaw03_FlagOrder.j0 k a0 a1 bt190.1 (wrap64 (a0)) (wrap64 (a1)) false bt190.2.1 bt190.2.2.1 bt190.2.2.2.1 bt190.2.2.2.2))) else (cleatlaw03_FlagOrder.j0 k a0 a1 bt190.1 (wrap64 (a0)) (wrap64 (a1)) false bt190.2.1 bt190.2.2.1 bt190.2.2.2.1 bt190.2.2.2.2)))
theorem cleatlaw03_FlagOrder.mono_l : ∀ k, (∀ y0 y1 y2 y3 y4 y5 y6 y7 y8 y9, LeO (cleatlaw03_FlagOrder.j0 k y0 y1 y2 y3 y4 y5 y6 y7 y8 y9) (cleatlaw03_FlagOrder.j0 (k + 1) y0 y1 y2 y3 y4 y5 y6 y7 y8 y9))
  | 0 => fun _ _ _ _ _ _ _ _ _ _ r h => by simp [cleatlaw03_FlagOrder.j0] at h
  | k + 1 => by
    have ih0 := cleatlaw03_FlagOrder.mono_l k
    · intro y0 y1 y2 y3 y4 y5 y6 y7 y8 y9
      unfold cleatlaw03_FlagOrder.j0
      repeat' first
      | (with_reducible exact ih0 _ _ _ _ _ _ _ _ _ _)
      | (with_reducible exact cleatlaw03_flagged.mono _)
      | (with_reducible exact LeO.refl _)
      | (with_reducible exact LeO.none _)
      | (with_reducible refine LeO.ite ?_ ?_)
      | (with_reducible refine LeO.bind ?_ (fun _ => ?_))
      | exact ih0 _ _ _ _ _ _ _ _ _ _
      | exact cleatlaw03_flagged.mono _
      | exact LeO.none _
      | refine LeO.ite ?_ ?_
      | refine LeO.bind ?_ (fun _ => ?_)
theorem cleatlaw03_FlagOrder.mono : ∀ a0 a1 k, LeO (cleatlaw03_FlagOrder.f k a0 a1) (cleatlaw03_FlagOrder.f (k + 1) a0 a1) := by
  intro a0 a1 k
  have ih0 := cleatlaw03_FlagOrder.mono_l k
  unfold cleatlaw03_FlagOrder.f
  repeat' first
      | (with_reducible exact ih0 _ _ _ _ _ _ _ _ _ _)
      | (with_reducible exact cleatlaw03_flagged.mono _)
      | (with_reducible exact LeO.refl _)
      | (with_reducible exact LeO.none _)
      | (with_reducible refine LeO.ite ?_ ?_)
      | (with_reducible refine LeO.bind ?_ (fun _ => ?_))
      | exact ih0 _ _ _ _ _ _ _ _ _ _
      | exact cleatlaw03_flagged.mono _
      | exact LeO.none _
      | refine LeO.ite ?_ ?_
      | refine LeO.bind ?_ (fun _ => ?_)
set_option maxHeartbeats 8000000 in
set_option maxRecDepth 100000 in
theorem cleatlaw03_FlagOrder.calls (k : Nat) (a0 : Int) (a1 : Int) (r : Bool) (w : World) (h : cleatlaw03_FlagOrder.f k a0 a1 = some r) :
    Calls Try.prog 4 #[.int .u64 a0, .int .u64 a1] w fun e w' => e = .returned (.bool r) ∧ Below w.heap.size w w' := by
  have hu24 := Try.underlying24
  have HB := Aside0.mk (Below.refl w.heap.size w)
  have H : ((flag_Sub.f a0 a1).bind fun bt190 => ((cleatlaw03_holds.f 0 bt190.2.1 bt190.2.2.1 bt190.2.2.2.1 bt190.2.2.2.2).bind fun t196 => (if (t196 == (a0 == a1)) = true then ((cleatlaw03_holds.f 2 bt190.2.1 bt190.2.2.1 bt190.2.2.2.1 bt190.2.2.2.2).bind fun t197 => (if (t197 == (decide (a0 ≥ a1))) = true then ((cleatlaw03_holds.f 8 bt190.2.1 bt190.2.2.1 bt190.2.2.2.1 bt190.2.2.2.2).bind fun t198 => (cleatlaw03_FlagOrder.j0 k a0 a1 bt190.1 (wrap64 (a0)) (wrap64 (a1)) (t198 == (decide (a0 > a1))) bt190.2.1 bt190.2.2.1 bt190.2.2.2.1 bt190.2.2.2.2)) else (cleatlaw03_FlagOrder.j0 k a0 a1 bt190.1 (wrap64 (a0)) (wrap64 (a1)) false bt190.2.1 bt190.2.2.1 bt190.2.2.2.1 bt190.2.2.2.2))) else (cleatlaw03_FlagOrder.j0 k a0 a1 bt190.1 (wrap64 (a0)) (wrap64 (a1)) false bt190.2.1 bt190.2.2.1 bt190.2.2.2.1 bt190.2.2.2.2)))) = some r := h
  clear h
  replace H := Option.bind_eq_some_iff.mp H
  obtain ⟨⟨t190, t191, t192, t193, t194⟩, A30, H⟩ := H
  replace H : ((cleatlaw03_holds.f 0 t191 t192 t193 t194).bind fun t196 => (if (t196 == (a0 == a1)) = true then ((cleatlaw03_holds.f 2 t191 t192 t193 t194).bind fun t197 => (if (t197 == (decide (a0 ≥ a1))) = true then ((cleatlaw03_holds.f 8 t191 t192 t193 t194).bind fun t198 => (cleatlaw03_FlagOrder.j0 k a0 a1 t190 (wrap64 (a0)) (wrap64 (a1)) (t198 == (decide (a0 > a1))) t191 t192 t193 t194)) else (cleatlaw03_FlagOrder.j0 k a0 a1 t190 (wrap64 (a0)) (wrap64 (a1)) false t191 t192 t193 t194))) else (cleatlaw03_FlagOrder.j0 k a0 a1 t190 (wrap64 (a0)) (wrap64 (a1)) false t191 t192 t193 t194))) = some r := H
  have A3 := Aside0.mk A30
  clear A30
  have HC4 := Aside0.mk H
  clear H
  go_enter Try.func4, Try.ntmps4
  go_upto_region 4 with (first | ((with_reducible refine gate_callee (f := 16) rfl ?_); refine goesL_ (some 14) rfl rfl Try.func16 (by kernel_rfl) rfl #[.int .u64 a0, .int .u64 a1] rfl (by (try simp only [List.map_toArray, List.map_cons, List.map_nil]); first | done | rfl | (simp only [List.length_drop, List.length_take]; rfl)) ?_; (with_reducible refine (flag_Sub.calls a0 a1 t190 t191 t192 t193 t194 _ A3.out).mono ?_); rintro e w5 ⟨rfl, hb⟩; refine ⟨_, rfl, ?_⟩; have n0_ := Aside0.mk (below_step (by repeat (first | (with_reducible first | exact HB.out | apply below_alloc | apply pw_below_drewN | apply below_drew1) | exact HB.out)) hb); clear HB; have HB := n0_; clear n0_; (try clear hb); (try clear hb2); (try clear hk); (try clear hi)) | ((with_reducible refine gate_dst (N := 6) rfl ?_); refine box_event ?hg (N := 6) ?hd (cs := #[.bool false, .bool false, .bool false, .bool false]) (t := 24) ?hr ?_; (case hd => rfl); (case hg => rfl); (case hr => first | (go_simp; done) | (go_simp; rfl)); intro gb195 hg w6 hbox hb; have n0_ := Aside0.mk (below_step (by repeat (first | (with_reducible first | exact HB.out | apply below_alloc | apply pw_below_drewN | apply below_drew1) | exact HB.out)) hb); have n1_ := Aside0.mk (hbox); have n2_ := Aside0.mk ((by rw [hg]; exact (below_size (by repeat (first | (with_reducible first | exact HB.out | apply below_alloc | apply pw_below_drewN | apply below_drew1) | exact HB.out))) : w.heap.size ≤ gb195)); have n3_ := Aside0.mk ((by rw [hg]; exact (below_size (by repeat (first | (with_reducible first | exact HB.out | apply below_alloc | apply pw_below_drewN | apply below_drew1) | exact HB.out))) : w.heap.size ≤ gb195)); clear HB; have HB := n0_; have BK195 := n1_; have GW195 := n2_; have GE195 := n3_; clear n0_ n1_ n2_ n3_; clear hb hbox hg; have hcz7_0 : w6.cell? ⟨gb195, 0, none⟩ = some (.bool false) := (blk_cell BK195.out 0).trans rfl; have hcz7_1 : w6.cell? ⟨gb195, 1, none⟩ = some (.bool false) := (blk_cell BK195.out 1).trans rfl; have hcz7_2 : w6.cell? ⟨gb195, 2, none⟩ = some (.bool false) := (blk_cell BK195.out 2).trans rfl; have hcz7_3 : w6.cell? ⟨gb195, 3, none⟩ = some (.bool false) := (blk_cell BK195.out 3).trans rfl; have hfz7_0 := blk_frozen BK195.out 0; have hfz7_1 := blk_frozen BK195.out 1; have hfz7_2 := blk_frozen BK195.out 2; have hfz7_3 := blk_frozen BK195.out 3))
  (try simp only [Act.put, List.setIfInBounds_toArray, List.set_cons_zero, List.set_cons_succ])
  go_cut [9] (fun v9 wc => ∃ (kq : Nat) (x9_3 : Bool), v9 = .bool x9_3 ∧ Aside0 (cleatlaw03_FlagOrder.j0 kq a0 a1 t190 (wrap64 (a0)) (wrap64 (a1)) x9_3 t191 t192 t193 t194 = some r) ∧ Aside0 (kq ≤ k) ∧ Aside0 (wc.heap[gb195]? = some (.cells #[.bool t191, .bool t192, .bool t193, .bool t194] 24 (0, 0))) ∧ Aside0 (Below w.heap.size w wc))
  case first =>
    have H := HC4.out
    clear HC4
    replace H := Option.bind_eq_some_iff.mp H
    obtain ⟨t196, A80, H⟩ := H
    replace H : (if (t196 == (a0 == a1)) = true then ((cleatlaw03_holds.f 2 t191 t192 t193 t194).bind fun t197 => (if (t197 == (decide (a0 ≥ a1))) = true then ((cleatlaw03_holds.f 8 t191 t192 t193 t194).bind fun t198 => (cleatlaw03_FlagOrder.j0 k a0 a1 t190 (wrap64 (a0)) (wrap64 (a1)) (t198 == (decide (a0 > a1))) t191 t192 t193 t194)) else (cleatlaw03_FlagOrder.j0 k a0 a1 t190 (wrap64 (a0)) (wrap64 (a1)) false t191 t192 t193 t194))) else (cleatlaw03_FlagOrder.j0 k a0 a1 t190 (wrap64 (a0)) (wrap64 (a1)) false t191 t192 t193 t194)) = some r := H
    have A8 := Aside0.mk A80
    clear A80
    by_cases c9 : (t196 == (a0 == a1)) = true
    · rw [if_pos c9] at H
      have c9b0 : (t196 == (a0 == a1)) = true := c9
      (try (have c9b1 : decide (t196 = (a0 == a1)) = true := by simpa using c9))
      (try (have c9b2 : (t196 == (a0 == a1)) = true := by simpa using c9))
      clear c9
      (first | rw [c9b0] | (simp only [i64_w, i32_w]; rw [c9b0]) | skip)
      replace H := Option.bind_eq_some_iff.mp H
      obtain ⟨t197, A100, H⟩ := H
      replace H : (if (t197 == (decide (a0 ≥ a1))) = true then ((cleatlaw03_holds.f 8 t191 t192 t193 t194).bind fun t198 => (cleatlaw03_FlagOrder.j0 k a0 a1 t190 (wrap64 (a0)) (wrap64 (a1)) (t198 == (decide (a0 > a1))) t191 t192 t193 t194)) else (cleatlaw03_FlagOrder.j0 k a0 a1 t190 (wrap64 (a0)) (wrap64 (a1)) false t191 t192 t193 t194)) = some r := H
      have A10 := Aside0.mk A100
      clear A100
      by_cases c11 : (t197 == (decide (a0 ≥ a1))) = true
      · rw [if_pos c11] at H
        have c11b0 : (t197 == (decide (a0 ≥ a1))) = true := c11
        (try (have c11b1 : decide (t197 = (decide (a0 ≥ a1))) = true := by simpa using c11))
        (try (have c11b2 : (t197 == (decide (a0 ≥ a1))) = true := by simpa using c11))
        clear c11
        replace H := Option.bind_eq_some_iff.mp H
        obtain ⟨t198, A120, H⟩ := H
        replace H : (cleatlaw03_FlagOrder.j0 k a0 a1 t190 (wrap64 (a0)) (wrap64 (a1)) (t198 == (decide (a0 > a1))) t191 t192 t193 t194) = some r := H
        have A12 := Aside0.mk A120
        clear A120
        have H' := Aside0.mk H
        clear H
        have hcz13_0 : w6.cell? ⟨gb195, 0, none⟩ = some (.bool false) := (blk_cell BK195.out 0).trans rfl
        have hcz13_1 : w6.cell? ⟨gb195, 1, none⟩ = some (.bool false) := (blk_cell BK195.out 1).trans rfl
        have hcz13_2 : w6.cell? ⟨gb195, 2, none⟩ = some (.bool false) := (blk_cell BK195.out 2).trans rfl
        have hcz13_3 : w6.cell? ⟨gb195, 3, none⟩ = some (.bool false) := (blk_cell BK195.out 3).trans rfl
        have hfz13_0 := blk_frozen BK195.out 0
        have hfz13_1 := blk_frozen BK195.out 1
        have hfz13_2 := blk_frozen BK195.out 2
        have hfz13_3 := blk_frozen BK195.out 3
        go_wp2_with (first | ((with_reducible refine gate_callee (f := 25) rfl ?_); refine goesL_ (some 22) rfl rfl Try.func25 (by kernel_rfl) rfl #[.int .i64 0, .agg #[.bool t191, .bool t192, .bool t193, .bool t194]] rfl (by (try simp only [List.map_toArray, List.map_cons, List.map_nil]); first | done | rfl | (simp only [List.length_drop, List.length_take]; rfl)) ?_; (with_reducible refine (cleatlaw03_holds.calls 0 t191 t192 t193 t194 t196 _ A8.out).mono ?_); rintro e w14 ⟨rfl, hb⟩; refine ⟨_, rfl, ?_⟩; have n0_ := Aside0.mk (blk_below (g := gb195) (o := .cells #[.bool t191, .bool t192, .bool t193, .bool t194] 24 (0, 0)) (by (with_reducible repeat (first | refine blk_drewN ?_ _ | refine blk_drew ?_ | refine blk_alloc ?_ _)); refine blk_put (cs := #[.bool t191, .bool t192, .bool t193, .bool false]) ?_ 3 _ rfl; (with_reducible repeat (first | refine blk_drewN ?_ _ | refine blk_drew ?_ | refine blk_alloc ?_ _)); refine blk_put (cs := #[.bool t191, .bool t192, .bool false, .bool false]) ?_ 2 _ rfl; (with_reducible repeat (first | refine blk_drewN ?_ _ | refine blk_drew ?_ | refine blk_alloc ?_ _)); refine blk_put (cs := #[.bool t191, .bool false, .bool false, .bool false]) ?_ 1 _ rfl; (with_reducible repeat (first | refine blk_drewN ?_ _ | refine blk_drew ?_ | refine blk_alloc ?_ _)); refine blk_put (cs := #[.bool false, .bool false, .bool false, .bool false]) ?_ 0 _ rfl; (with_reducible repeat (first | refine blk_drewN ?_ _ | refine blk_drew ?_ | refine blk_alloc ?_ _)); exact BK195.out) hb); have n1_ := Aside0.mk (below_step (by repeat (first | (with_reducible first | exact HB.out | apply below_alloc | apply pw_below_drewN | apply below_drew1 | refine below_set ?_ GE195.out) | exact HB.out)) hb); clear BK195; clear HB; have BK195 := n0_; have HB := n1_; clear n0_ n1_; (try clear hb); (try clear hb2); (try clear hk); (try clear hi); have hcz15_0 : w14.cell? ⟨gb195, 0, none⟩ = some (.bool t191) := (blk_cell BK195.out 0).trans rfl; have hcz15_1 : w14.cell? ⟨gb195, 1, none⟩ = some (.bool t192) := (blk_cell BK195.out 1).trans rfl; have hcz15_2 : w14.cell? ⟨gb195, 2, none⟩ = some (.bool t193) := (blk_cell BK195.out 2).trans rfl; have hcz15_3 : w14.cell? ⟨gb195, 3, none⟩ = some (.bool t194) := (blk_cell BK195.out 3).trans rfl; have hfz15_0 := blk_frozen BK195.out 0; have hfz15_1 := blk_frozen BK195.out 1; have hfz15_2 := blk_frozen BK195.out 2; have hfz15_3 := blk_frozen BK195.out 3) | (go_at_call 25; (with_reducible refine (cleatlaw03_holds.calls 2 t191 t192 t193 t194 t197 _ A10.out).mono ?_); rintro e w16 ⟨rfl, hb⟩; have n0_ := Aside0.mk (blk_below (g := gb195) (o := .cells #[.bool t191, .bool t192, .bool t193, .bool t194] 24 (0, 0)) (by (with_reducible repeat (first | refine blk_drewN ?_ _ | refine blk_drew ?_ | refine blk_alloc ?_ _)); exact BK195.out) hb); have n1_ := Aside0.mk (below_step (by repeat (first | (with_reducible first | exact HB.out | apply below_alloc | apply pw_below_drewN | apply below_drew1 | refine below_set ?_ GE195.out) | exact HB.out)) hb); clear BK195; clear HB; have BK195 := n0_; have HB := n1_; clear n0_ n1_; (try clear hb); (try clear hb2); (try clear hk); (try clear hi); have hcz17_0 : w16.cell? ⟨gb195, 0, none⟩ = some (.bool t191) := (blk_cell BK195.out 0).trans rfl; have hcz17_1 : w16.cell? ⟨gb195, 1, none⟩ = some (.bool t192) := (blk_cell BK195.out 1).trans rfl; have hcz17_2 : w16.cell? ⟨gb195, 2, none⟩ = some (.bool t193) := (blk_cell BK195.out 2).trans rfl; have hcz17_3 : w16.cell? ⟨gb195, 3, none⟩ = some (.bool t194) := (blk_cell BK195.out 3).trans rfl; have hfz17_0 := blk_frozen BK195.out 0; have hfz17_1 := blk_frozen BK195.out 1; have hfz17_2 := blk_frozen BK195.out 2; have hfz17_3 := blk_frozen BK195.out 3) | (go_at_call 25; (with_reducible refine (cleatlaw03_holds.calls 8 t191 t192 t193 t194 t198 _ A12.out).mono ?_); rintro e w18 ⟨rfl, hb⟩; have n0_ := Aside0.mk (blk_below (g := gb195) (o := .cells #[.bool t191, .bool t192, .bool t193, .bool t194] 24 (0, 0)) (by (with_reducible repeat (first | refine blk_drewN ?_ _ | refine blk_drew ?_ | refine blk_alloc ?_ _)); exact BK195.out) hb); have n1_ := Aside0.mk (below_step (by repeat (first | (with_reducible first | exact HB.out | apply below_alloc | apply pw_below_drewN | apply below_drew1 | refine below_set ?_ GE195.out) | exact HB.out)) hb); clear BK195; clear HB; have BK195 := n0_; have HB := n1_; clear n0_ n1_; (try clear hb); (try clear hb2); (try clear hk); (try clear hi)))
        go_meet
        case rel => exact ⟨_, ((t198 == (decide (a0 > a1)))), (by first | rfl | (simp; done) | (simp [*]; done)), H', ⟨by first | omega | exact Nat.le_refl _⟩, ⟨by (with_reducible repeat (first | refine blk_drewN ?_ _ | refine blk_drew ?_ | refine blk_alloc ?_ _)); exact BK195.out⟩, ⟨by repeat (first | (with_reducible first | exact HB.out | apply below_alloc | apply pw_below_drewN | apply below_drew1 | refine below_set ?_ GE195.out) | exact HB.out)⟩⟩
      · rw [if_neg c11] at H
        have c11b0 : (t197 == (decide (a0 ≥ a1))) = false := by simpa using c11
        (try (have c11b1 : decide (t197 = (decide (a0 ≥ a1))) = false := by simpa using c11))
        (try (have c11b2 : (t197 == (decide (a0 ≥ a1))) = false := by simpa using c11))
        (try (have c11b3 : ¬ (t197 = (decide (a0 ≥ a1))) := by simpa using c11))
        clear c11
        have H' := Aside0.mk H
        clear H
        have hcz19_0 : w6.cell? ⟨gb195, 0, none⟩ = some (.bool false) := (blk_cell BK195.out 0).trans rfl
        have hcz19_1 : w6.cell? ⟨gb195, 1, none⟩ = some (.bool false) := (blk_cell BK195.out 1).trans rfl
        have hcz19_2 : w6.cell? ⟨gb195, 2, none⟩ = some (.bool false) := (blk_cell BK195.out 2).trans rfl
        have hcz19_3 : w6.cell? ⟨gb195, 3, none⟩ = some (.bool false) := (blk_cell BK195.out 3).trans rfl
        have hfz19_0 := blk_frozen BK195.out 0
        have hfz19_1 := blk_frozen BK195.out 1
        have hfz19_2 := blk_frozen BK195.out 2
        have hfz19_3 := blk_frozen BK195.out 3
        go_wp2_with (first | ((with_reducible refine gate_callee (f := 25) rfl ?_); refine goesL_ (some 22) rfl rfl Try.func25 (by kernel_rfl) rfl #[.int .i64 0, .agg #[.bool t191, .bool t192, .bool t193, .bool t194]] rfl (by (try simp only [List.map_toArray, List.map_cons, List.map_nil]); first | done | rfl | (simp only [List.length_drop, List.length_take]; rfl)) ?_; (with_reducible refine (cleatlaw03_holds.calls 0 t191 t192 t193 t194 t196 _ A8.out).mono ?_); rintro e w20 ⟨rfl, hb⟩; refine ⟨_, rfl, ?_⟩; have n0_ := Aside0.mk (blk_below (g := gb195) (o := .cells #[.bool t191, .bool t192, .bool t193, .bool t194] 24 (0, 0)) (by (with_reducible repeat (first | refine blk_drewN ?_ _ | refine blk_drew ?_ | refine blk_alloc ?_ _)); refine blk_put (cs := #[.bool t191, .bool t192, .bool t193, .bool false]) ?_ 3 _ rfl; (with_reducible repeat (first | refine blk_drewN ?_ _ | refine blk_drew ?_ | refine blk_alloc ?_ _)); refine blk_put (cs := #[.bool t191, .bool t192, .bool false, .bool false]) ?_ 2 _ rfl; (with_reducible repeat (first | refine blk_drewN ?_ _ | refine blk_drew ?_ | refine blk_alloc ?_ _)); refine blk_put (cs := #[.bool t191, .bool false, .bool false, .bool false]) ?_ 1 _ rfl; (with_reducible repeat (first | refine blk_drewN ?_ _ | refine blk_drew ?_ | refine blk_alloc ?_ _)); refine blk_put (cs := #[.bool false, .bool false, .bool false, .bool false]) ?_ 0 _ rfl; (with_reducible repeat (first | refine blk_drewN ?_ _ | refine blk_drew ?_ | refine blk_alloc ?_ _)); exact BK195.out) hb); have n1_ := Aside0.mk (below_step (by repeat (first | (with_reducible first | exact HB.out | apply below_alloc | apply pw_below_drewN | apply below_drew1 | refine below_set ?_ GE195.out) | exact HB.out)) hb); clear BK195; clear HB; have BK195 := n0_; have HB := n1_; clear n0_ n1_; (try clear hb); (try clear hb2); (try clear hk); (try clear hi); have hcz21_0 : w20.cell? ⟨gb195, 0, none⟩ = some (.bool t191) := (blk_cell BK195.out 0).trans rfl; have hcz21_1 : w20.cell? ⟨gb195, 1, none⟩ = some (.bool t192) := (blk_cell BK195.out 1).trans rfl; have hcz21_2 : w20.cell? ⟨gb195, 2, none⟩ = some (.bool t193) := (blk_cell BK195.out 2).trans rfl; have hcz21_3 : w20.cell? ⟨gb195, 3, none⟩ = some (.bool t194) := (blk_cell BK195.out 3).trans rfl; have hfz21_0 := blk_frozen BK195.out 0; have hfz21_1 := blk_frozen BK195.out 1; have hfz21_2 := blk_frozen BK195.out 2; have hfz21_3 := blk_frozen BK195.out 3) | (go_at_call 25; (with_reducible refine (cleatlaw03_holds.calls 2 t191 t192 t193 t194 t197 _ A10.out).mono ?_); rintro e w22 ⟨rfl, hb⟩; have n0_ := Aside0.mk (blk_below (g := gb195) (o := .cells #[.bool t191, .bool t192, .bool t193, .bool t194] 24 (0, 0)) (by (with_reducible repeat (first | refine blk_drewN ?_ _ | refine blk_drew ?_ | refine blk_alloc ?_ _)); exact BK195.out) hb); have n1_ := Aside0.mk (below_step (by repeat (first | (with_reducible first | exact HB.out | apply below_alloc | apply pw_below_drewN | apply below_drew1 | refine below_set ?_ GE195.out) | exact HB.out)) hb); clear BK195; clear HB; have BK195 := n0_; have HB := n1_; clear n0_ n1_; (try clear hb); (try clear hb2); (try clear hk); (try clear hi)))
        go_meet
        case rel => exact ⟨_, (false), (by first | rfl | (simp; done) | (simp [*]; done)), H', ⟨by first | omega | exact Nat.le_refl _⟩, ⟨by (with_reducible repeat (first | refine blk_drewN ?_ _ | refine blk_drew ?_ | refine blk_alloc ?_ _)); exact BK195.out⟩, ⟨by repeat (first | (with_reducible first | exact HB.out | apply below_alloc | apply pw_below_drewN | apply below_drew1 | refine below_set ?_ GE195.out) | exact HB.out)⟩⟩
    · rw [if_neg c9] at H
      have c9b0 : (t196 == (a0 == a1)) = false := by simpa using c9
      (try (have c9b1 : decide (t196 = (a0 == a1)) = false := by simpa using c9))
      (try (have c9b2 : (t196 == (a0 == a1)) = false := by simpa using c9))
      (try (have c9b3 : ¬ (t196 = (a0 == a1)) := by simpa using c9))
      clear c9
      (first | rw [c9b0] | (simp only [i64_w, i32_w]; rw [c9b0]) | skip)
      have H' := Aside0.mk H
      clear H
      have hcz23_0 : w6.cell? ⟨gb195, 0, none⟩ = some (.bool false) := (blk_cell BK195.out 0).trans rfl
      have hcz23_1 : w6.cell? ⟨gb195, 1, none⟩ = some (.bool false) := (blk_cell BK195.out 1).trans rfl
      have hcz23_2 : w6.cell? ⟨gb195, 2, none⟩ = some (.bool false) := (blk_cell BK195.out 2).trans rfl
      have hcz23_3 : w6.cell? ⟨gb195, 3, none⟩ = some (.bool false) := (blk_cell BK195.out 3).trans rfl
      have hfz23_0 := blk_frozen BK195.out 0
      have hfz23_1 := blk_frozen BK195.out 1
      have hfz23_2 := blk_frozen BK195.out 2
      have hfz23_3 := blk_frozen BK195.out 3
      go_wp2_with (first | ((with_reducible refine gate_callee (f := 25) rfl ?_); refine goesL_ (some 22) rfl rfl Try.func25 (by kernel_rfl) rfl #[.int .i64 0, .agg #[.bool t191, .bool t192, .bool t193, .bool t194]] rfl (by (try simp only [List.map_toArray, List.map_cons, List.map_nil]); first | done | rfl | (simp only [List.length_drop, List.length_take]; rfl)) ?_; (with_reducible refine (cleatlaw03_holds.calls 0 t191 t192 t193 t194 t196 _ A8.out).mono ?_); rintro e w24 ⟨rfl, hb⟩; refine ⟨_, rfl, ?_⟩; have n0_ := Aside0.mk (blk_below (g := gb195) (o := .cells #[.bool t191, .bool t192, .bool t193, .bool t194] 24 (0, 0)) (by (with_reducible repeat (first | refine blk_drewN ?_ _ | refine blk_drew ?_ | refine blk_alloc ?_ _)); refine blk_put (cs := #[.bool t191, .bool t192, .bool t193, .bool false]) ?_ 3 _ rfl; (with_reducible repeat (first | refine blk_drewN ?_ _ | refine blk_drew ?_ | refine blk_alloc ?_ _)); refine blk_put (cs := #[.bool t191, .bool t192, .bool false, .bool false]) ?_ 2 _ rfl; (with_reducible repeat (first | refine blk_drewN ?_ _ | refine blk_drew ?_ | refine blk_alloc ?_ _)); refine blk_put (cs := #[.bool t191, .bool false, .bool false, .bool false]) ?_ 1 _ rfl; (with_reducible repeat (first | refine blk_drewN ?_ _ | refine blk_drew ?_ | refine blk_alloc ?_ _)); refine blk_put (cs := #[.bool false, .bool false, .bool false, .bool false]) ?_ 0 _ rfl; (with_reducible repeat (first | refine blk_drewN ?_ _ | refine blk_drew ?_ | refine blk_alloc ?_ _)); exact BK195.out) hb); have n1_ := Aside0.mk (below_step (by repeat (first | (with_reducible first | exact HB.out | apply below_alloc | apply pw_below_drewN | apply below_drew1 | refine below_set ?_ GE195.out) | exact HB.out)) hb); clear BK195; clear HB; have BK195 := n0_; have HB := n1_; clear n0_ n1_; (try clear hb); (try clear hb2); (try clear hk); (try clear hi)))
      go_meet
      case rel => exact ⟨_, (false), (by first | rfl | (simp; done) | (simp [*]; done)), H', ⟨by first | omega | exact Nat.le_refl _⟩, ⟨by (with_reducible repeat (first | refine blk_drewN ?_ _ | refine blk_drew ?_ | refine blk_alloc ?_ _)); exact BK195.out⟩, ⟨by repeat (first | (with_reducible first | exact HB.out | apply below_alloc | apply pw_below_drewN | apply below_drew1 | refine below_set ?_ GE195.out) | exact HB.out)⟩⟩
  case rest =>
    clear HC4
    try clear c1
    try clear c2
    try clear p2
    try clear c4
    try clear p6
    try clear c9
    try clear c9b0
    try clear c9b1
    try clear c9b2
    try clear c11
    try clear c11b0
    try clear c11b1
    try clear c11b2
    try clear c16
    try clear hcz13_0
    try clear hcz13_1
    try clear hcz13_2
    try clear hcz13_3
    try clear hcz15_0
    try clear hcz15_1
    try clear hcz15_2
    try clear hcz15_3
    try clear hcz17_0
    try clear hcz17_1
    try clear hcz17_2
    try clear hcz17_3
    try clear hcz19_0
    try clear hcz19_1
    try clear hcz19_2
    try clear hcz19_3
    try clear hcz21_0
    try clear hcz21_1
    try clear hcz21_2
    try clear hcz21_3
    try clear hcz23_0
    try clear hcz23_1
    try clear hcz23_2
    try clear hcz23_3
    try clear hcz7_0
    try clear hcz7_1
    try clear hcz7_2
    try clear hcz7_3
    try clear hfz13_0
    try clear hfz13_1
    try clear hfz13_2
    try clear hfz13_3
    try clear hfz15_0
    try clear hfz15_1
    try clear hfz15_2
    try clear hfz15_3
    try clear hfz17_0
    try clear hfz17_1
    try clear hfz17_2
    try clear hfz17_3
    try clear hfz19_0
    try clear hfz19_1
    try clear hfz19_2
    try clear hfz19_3
    try clear hfz21_0
    try clear hfz21_1
    try clear hfz21_2
    try clear hfz21_3
    try clear hfz23_0
    try clear hfz23_1
    try clear hfz23_2
    try clear hfz23_3
    try clear hfz7_0
    try clear hfz7_1
    try clear hfz7_2
    try clear hfz7_3
    obtain ⟨kq, x9_3, rfl, HA, HJ3, BK195, HB⟩ := hcut
    cases kq with
    | zero => exact absurd HA.out (by simp [cleatlaw03_FlagOrder.j0])
    | succ kj3 =>
      have H := HA.out
      clear HA
      simp only [cleatlaw03_FlagOrder.j0] at H
      replace H := Option.bind_eq_some_iff.mp H
      obtain ⟨t199, A250, H⟩ := H
      replace H : (if (t199 == (decide ((wrap64 (a0)) ≥ (wrap64 (a1))))) = true then ((cleatlaw03_holds.f 12 t191 t192 t193 t194).bind fun t200 => (if (t200 == (decide ((wrap64 (a0)) > (wrap64 (a1))))) = true then ((cleatlaw03_holds.f 11 t191 t192 t193 t194).bind fun t201 => (if (t201 == (decide ((wrap64 (a0)) < (wrap64 (a1))))) = true then ((cleatlaw03_holds.f 13 t191 t192 t193 t194).bind fun t202 => ((cleatlaw03_flagged.f kj3).bind fun t203 => (if t203 = true then (if t190 = (IntKind.u64.wrap (a0 - a1)) then (if x9_3 = true then (if (t202 == (decide ((wrap64 (a0)) ≤ (wrap64 (a1))))) = true then ((cleatlaw03_holds.f 4 t191 t192 t193 t194).bind fun t204 => (some (t204 == (decide ((wrap64 (t190)) < 0))))) else (some false)) else (some false)) else (some false)) else (some false)))) else ((cleatlaw03_flagged.f kj3).bind fun t205 => (if t205 = true then (if t190 = (IntKind.u64.wrap (a0 - a1)) then (if x9_3 = true then (some false) else (some false)) else (some false)) else (some false))))) else ((cleatlaw03_flagged.f kj3).bind fun t206 => (if t206 = true then (if t190 = (IntKind.u64.wrap (a0 - a1)) then (if x9_3 = true then (some false) else (some false)) else (some false)) else (some false))))) else ((cleatlaw03_flagged.f kj3).bind fun t207 => (if t207 = true then (if t190 = (IntKind.u64.wrap (a0 - a1)) then (if x9_3 = true then (some false) else (some false)) else (some false)) else (some false)))) = some r := H
      have A25 := Aside0.mk A250
      clear A250
      by_cases c26 : (t199 == (decide ((wrap64 (a0)) ≥ (wrap64 (a1))))) = true
      · rw [if_pos c26] at H
        have c26b0 : (t199 == (decide ((wrap64 (a0)) ≥ (wrap64 (a1))))) = true := c26
        (try (have c26b1 : decide (t199 = (decide ((wrap64 (a0)) ≥ (wrap64 (a1))))) = true := by simpa using c26))
        (try (have c26b2 : (t199 == (decide ((wrap64 (a0)) ≥ (wrap64 (a1))))) = true := by simpa using c26))
        clear c26
        replace H := Option.bind_eq_some_iff.mp H
        obtain ⟨t200, A270, H⟩ := H
        replace H : (if (t200 == (decide ((wrap64 (a0)) > (wrap64 (a1))))) = true then ((cleatlaw03_holds.f 11 t191 t192 t193 t194).bind fun t201 => (if (t201 == (decide ((wrap64 (a0)) < (wrap64 (a1))))) = true then ((cleatlaw03_holds.f 13 t191 t192 t193 t194).bind fun t202 => ((cleatlaw03_flagged.f kj3).bind fun t203 => (if t203 = true then (if t190 = (IntKind.u64.wrap (a0 - a1)) then (if x9_3 = true then (if (t202 == (decide ((wrap64 (a0)) ≤ (wrap64 (a1))))) = true then ((cleatlaw03_holds.f 4 t191 t192 t193 t194).bind fun t204 => (some (t204 == (decide ((wrap64 (t190)) < 0))))) else (some false)) else (some false)) else (some false)) else (some false)))) else ((cleatlaw03_flagged.f kj3).bind fun t205 => (if t205 = true then (if t190 = (IntKind.u64.wrap (a0 - a1)) then (if x9_3 = true then (some false) else (some false)) else (some false)) else (some false))))) else ((cleatlaw03_flagged.f kj3).bind fun t206 => (if t206 = true then (if t190 = (IntKind.u64.wrap (a0 - a1)) then (if x9_3 = true then (some false) else (some false)) else (some false)) else (some false)))) = some r := H
        have A27 := Aside0.mk A270
        clear A270
        by_cases c28 : (t200 == (decide ((wrap64 (a0)) > (wrap64 (a1))))) = true
        · rw [if_pos c28] at H
          have c28b0 : (t200 == (decide ((wrap64 (a0)) > (wrap64 (a1))))) = true := c28
          (try (have c28b1 : decide (t200 = (decide ((wrap64 (a0)) > (wrap64 (a1))))) = true := by simpa using c28))
          (try (have c28b2 : (t200 == (decide ((wrap64 (a0)) > (wrap64 (a1))))) = true := by simpa using c28))
          clear c28
          replace H := Option.bind_eq_some_iff.mp H
          obtain ⟨t201, A290, H⟩ := H
          replace H : (if (t201 == (decide ((wrap64 (a0)) < (wrap64 (a1))))) = true then ((cleatlaw03_holds.f 13 t191 t192 t193 t194).bind fun t202 => ((cleatlaw03_flagged.f kj3).bind fun t203 => (if t203 = true then (if t190 = (IntKind.u64.wrap (a0 - a1)) then (if x9_3 = true then (if (t202 == (decide ((wrap64 (a0)) ≤ (wrap64 (a1))))) = true then ((cleatlaw03_holds.f 4 t191 t192 t193 t194).bind fun t204 => (some (t204 == (decide ((wrap64 (t190)) < 0))))) else (some false)) else (some false)) else (some false)) else (some false)))) else ((cleatlaw03_flagged.f kj3).bind fun t205 => (if t205 = true then (if t190 = (IntKind.u64.wrap (a0 - a1)) then (if x9_3 = true then (some false) else (some false)) else (some false)) else (some false)))) = some r := H
          have A29 := Aside0.mk A290
          clear A290
          by_cases c30 : (t201 == (decide ((wrap64 (a0)) < (wrap64 (a1))))) = true
          · rw [if_pos c30] at H
            have c30b0 : (t201 == (decide ((wrap64 (a0)) < (wrap64 (a1))))) = true := c30
            (try (have c30b1 : decide (t201 = (decide ((wrap64 (a0)) < (wrap64 (a1))))) = true := by simpa using c30))
            (try (have c30b2 : (t201 == (decide ((wrap64 (a0)) < (wrap64 (a1))))) = true := by simpa using c30))
            clear c30
            replace H := Option.bind_eq_some_iff.mp H
            obtain ⟨t202, A310, H⟩ := H
            replace H : ((cleatlaw03_flagged.f kj3).bind fun t203 => (if t203 = true then (if t190 = (IntKind.u64.wrap (a0 - a1)) then (if x9_3 = true then (if (t202 == (decide ((wrap64 (a0)) ≤ (wrap64 (a1))))) = true then ((cleatlaw03_holds.f 4 t191 t192 t193 t194).bind fun t204 => (some (t204 == (decide ((wrap64 (t190)) < 0))))) else (some false)) else (some false)) else (some false)) else (some false))) = some r := H
            have A31 := Aside0.mk A310
            clear A310
            replace H := Option.bind_eq_some_iff.mp H
            obtain ⟨t203, A320, H⟩ := H
            replace H : (if t203 = true then (if t190 = (IntKind.u64.wrap (a0 - a1)) then (if x9_3 = true then (if (t202 == (decide ((wrap64 (a0)) ≤ (wrap64 (a1))))) = true then ((cleatlaw03_holds.f 4 t191 t192 t193 t194).bind fun t204 => (some (t204 == (decide ((wrap64 (t190)) < 0))))) else (some false)) else (some false)) else (some false)) else (some false)) = some r := H
            have A32 := Aside0.mk A320
            clear A320
            by_cases c33 : t203 = true
            · subst c33
              have H1 : (if t190 = (IntKind.u64.wrap (a0 - a1)) then (if x9_3 = true then (if (t202 == (decide ((wrap64 (a0)) ≤ (wrap64 (a1))))) = true then ((cleatlaw03_holds.f 4 t191 t192 t193 t194).bind fun t204 => (some (t204 == (decide ((wrap64 (t190)) < 0))))) else (some false)) else (some false)) else (some false)) = some r := by rw [if_pos rfl] at H; exact H
              clear H
              have H := H1
              clear H1
              by_cases c34 : t190 = (IntKind.u64.wrap (a0 - a1))
              · rw [if_pos c34] at H
                have c34b0 : (t190 == (IntKind.u64.wrap (a0 - a1))) = true := beq_iff_eq.mpr c34
                have c34b1 : (t190 != (IntKind.u64.wrap (a0 - a1))) = false := bne_eq_false_iff_eq.mpr c34
                clear c34
                by_cases c35 : x9_3 = true
                · subst c35
                  have H1 : (if (t202 == (decide ((wrap64 (a0)) ≤ (wrap64 (a1))))) = true then ((cleatlaw03_holds.f 4 t191 t192 t193 t194).bind fun t204 => (some (t204 == (decide ((wrap64 (t190)) < 0))))) else (some false)) = some r := by rw [if_pos rfl] at H; exact H
                  clear H
                  have H := H1
                  clear H1
                  by_cases c36 : (t202 == (decide ((wrap64 (a0)) ≤ (wrap64 (a1))))) = true
                  · rw [if_pos c36] at H
                    have c36b0 : (t202 == (decide ((wrap64 (a0)) ≤ (wrap64 (a1))))) = true := c36
                    (try (have c36b1 : decide (t202 = (decide ((wrap64 (a0)) ≤ (wrap64 (a1))))) = true := by simpa using c36))
                    (try (have c36b2 : (t202 == (decide ((wrap64 (a0)) ≤ (wrap64 (a1))))) = true := by simpa using c36))
                    clear c36
                    replace H := Option.bind_eq_some_iff.mp H
                    obtain ⟨t204, A370, H⟩ := H
                    replace H : (some (t204 == (decide ((wrap64 (t190)) < 0)))) = some r := H
                    have A37 := Aside0.mk A370
                    clear A370
                    obtain rfl := Option.some.inj H
                    have hcz38_0 : wc.cell? ⟨gb195, 0, none⟩ = some (.bool t191) := (blk_cell BK195.out 0).trans rfl
                    have hcz38_1 : wc.cell? ⟨gb195, 1, none⟩ = some (.bool t192) := (blk_cell BK195.out 1).trans rfl
                    have hcz38_2 : wc.cell? ⟨gb195, 2, none⟩ = some (.bool t193) := (blk_cell BK195.out 2).trans rfl
                    have hcz38_3 : wc.cell? ⟨gb195, 3, none⟩ = some (.bool t194) := (blk_cell BK195.out 3).trans rfl
                    have hfz38_0 := blk_frozen BK195.out 0
                    have hfz38_1 := blk_frozen BK195.out 1
                    have hfz38_2 := blk_frozen BK195.out 2
                    have hfz38_3 := blk_frozen BK195.out 3
                    go_wp2_with (first | ((with_reducible refine gate_callee (f := 25) rfl ?_); refine goesL_ (some 44) rfl rfl Try.func25 (by kernel_rfl) rfl #[.int .i64 10, .agg #[.bool t191, .bool t192, .bool t193, .bool t194]] rfl (by (try simp only [List.map_toArray, List.map_cons, List.map_nil]); first | done | rfl | (simp only [List.length_drop, List.length_take]; rfl)) ?_; (with_reducible refine (cleatlaw03_holds.calls 10 t191 t192 t193 t194 t199 _ A25.out).mono ?_); rintro e w39 ⟨rfl, hb⟩; refine ⟨_, rfl, ?_⟩; have n0_ := Aside0.mk (blk_below (g := gb195) (o := .cells #[.bool t191, .bool t192, .bool t193, .bool t194] 24 (0, 0)) (by (with_reducible repeat (first | refine blk_drewN ?_ _ | refine blk_drew ?_ | refine blk_alloc ?_ _)); exact BK195.out) hb); have n1_ := Aside0.mk (below_step (by repeat (first | (with_reducible first | exact HB.out | apply below_alloc | apply pw_below_drewN | apply below_drew1 | refine below_set ?_ GE195.out) | exact HB.out)) hb); clear BK195; clear HB; have BK195 := n0_; have HB := n1_; clear n0_ n1_; (try clear hb); (try clear hb2); (try clear hk); (try clear hi); have hcz40_0 : w39.cell? ⟨gb195, 0, none⟩ = some (.bool t191) := (blk_cell BK195.out 0).trans rfl; have hcz40_1 : w39.cell? ⟨gb195, 1, none⟩ = some (.bool t192) := (blk_cell BK195.out 1).trans rfl; have hcz40_2 : w39.cell? ⟨gb195, 2, none⟩ = some (.bool t193) := (blk_cell BK195.out 2).trans rfl; have hcz40_3 : w39.cell? ⟨gb195, 3, none⟩ = some (.bool t194) := (blk_cell BK195.out 3).trans rfl; have hfz40_0 := blk_frozen BK195.out 0; have hfz40_1 := blk_frozen BK195.out 1; have hfz40_2 := blk_frozen BK195.out 2; have hfz40_3 := blk_frozen BK195.out 3) | (go_at_call 25; (with_reducible refine (cleatlaw03_holds.calls 12 t191 t192 t193 t194 t200 _ A27.out).mono ?_); rintro e w41 ⟨rfl, hb⟩; have n0_ := Aside0.mk (blk_below (g := gb195) (o := .cells #[.bool t191, .bool t192, .bool t193, .bool t194] 24 (0, 0)) (by (with_reducible repeat (first | refine blk_drewN ?_ _ | refine blk_drew ?_ | refine blk_alloc ?_ _)); exact BK195.out) hb); have n1_ := Aside0.mk (below_step (by repeat (first | (with_reducible first | exact HB.out | apply below_alloc | apply pw_below_drewN | apply below_drew1 | refine below_set ?_ GE195.out) | exact HB.out)) hb); clear BK195; clear HB; have BK195 := n0_; have HB := n1_; clear n0_ n1_; (try clear hb); (try clear hb2); (try clear hk); (try clear hi); have hcz42_0 : w41.cell? ⟨gb195, 0, none⟩ = some (.bool t191) := (blk_cell BK195.out 0).trans rfl; have hcz42_1 : w41.cell? ⟨gb195, 1, none⟩ = some (.bool t192) := (blk_cell BK195.out 1).trans rfl; have hcz42_2 : w41.cell? ⟨gb195, 2, none⟩ = some (.bool t193) := (blk_cell BK195.out 2).trans rfl; have hcz42_3 : w41.cell? ⟨gb195, 3, none⟩ = some (.bool t194) := (blk_cell BK195.out 3).trans rfl; have hfz42_0 := blk_frozen BK195.out 0; have hfz42_1 := blk_frozen BK195.out 1; have hfz42_2 := blk_frozen BK195.out 2; have hfz42_3 := blk_frozen BK195.out 3) | (go_at_call 25; (with_reducible refine (cleatlaw03_holds.calls 11 t191 t192 t193 t194 t201 _ A29.out).mono ?_); rintro e w43 ⟨rfl, hb⟩; have n0_ := Aside0.mk (blk_below (g := gb195) (o := .cells #[.bool t191, .bool t192, .bool t193, .bool t194] 24 (0, 0)) (by (with_reducible repeat (first | refine blk_drewN ?_ _ | refine blk_drew ?_ | refine blk_alloc ?_ _)); exact BK195.out) hb); have n1_ := Aside0.mk (below_step (by repeat (first | (with_reducible first | exact HB.out | apply below_alloc | apply pw_below_drewN | apply below_drew1 | refine below_set ?_ GE195.out) | exact HB.out)) hb); clear BK195; clear HB; have BK195 := n0_; have HB := n1_; clear n0_ n1_; (try clear hb); (try clear hb2); (try clear hk); (try clear hi); have hcz44_0 : w43.cell? ⟨gb195, 0, none⟩ = some (.bool t191) := (blk_cell BK195.out 0).trans rfl; have hcz44_1 : w43.cell? ⟨gb195, 1, none⟩ = some (.bool t192) := (blk_cell BK195.out 1).trans rfl; have hcz44_2 : w43.cell? ⟨gb195, 2, none⟩ = some (.bool t193) := (blk_cell BK195.out 2).trans rfl; have hcz44_3 : w43.cell? ⟨gb195, 3, none⟩ = some (.bool t194) := (blk_cell BK195.out 3).trans rfl; have hfz44_0 := blk_frozen BK195.out 0; have hfz44_1 := blk_frozen BK195.out 1; have hfz44_2 := blk_frozen BK195.out 2; have hfz44_3 := blk_frozen BK195.out 3) | (go_at_call 25; (with_reducible refine (cleatlaw03_holds.calls 13 t191 t192 t193 t194 t202 _ A31.out).mono ?_); rintro e w45 ⟨rfl, hb⟩; have n0_ := Aside0.mk (blk_below (g := gb195) (o := .cells #[.bool t191, .bool t192, .bool t193, .bool t194] 24 (0, 0)) (by (with_reducible repeat (first | refine blk_drewN ?_ _ | refine blk_drew ?_ | refine blk_alloc ?_ _)); exact BK195.out) hb); have n1_ := Aside0.mk (below_step (by repeat (first | (with_reducible first | exact HB.out | apply below_alloc | apply pw_below_drewN | apply below_drew1 | refine below_set ?_ GE195.out) | exact HB.out)) hb); clear BK195; clear HB; have BK195 := n0_; have HB := n1_; clear n0_ n1_; (try clear hb); (try clear hb2); (try clear hk); (try clear hi)) | ((with_reducible refine gate_callee (f := 22) rfl ?_); refine goesL_ (some 73) rfl rfl Try.func22 (by kernel_rfl) rfl #[] rfl (by (try simp only [List.map_toArray, List.map_cons, List.map_nil]); first | done | rfl | (simp only [List.length_drop, List.length_take]; rfl)) ?_; (with_reducible refine (cleatlaw03_flagged.calls kj3  true _ A32.out).mono ?_); rintro e w46 ⟨rfl, hb⟩; refine ⟨_, rfl, ?_⟩; have n0_ := Aside0.mk (blk_below (g := gb195) (o := .cells #[.bool t191, .bool t192, .bool t193, .bool t194] 24 (0, 0)) (by (with_reducible repeat (first | refine blk_drewN ?_ _ | refine blk_drew ?_ | refine blk_alloc ?_ _)); exact BK195.out) hb); have n1_ := Aside0.mk (below_step (by repeat (first | (with_reducible first | exact HB.out | apply below_alloc | apply pw_below_drewN | apply below_drew1 | refine below_set ?_ GE195.out) | exact HB.out)) hb); clear BK195; clear HB; have BK195 := n0_; have HB := n1_; clear n0_ n1_; (try clear hb); (try clear hb2); (try clear hk); (try clear hi); have hcz47_0 : w46.cell? ⟨gb195, 0, none⟩ = some (.bool t191) := (blk_cell BK195.out 0).trans rfl; have hcz47_1 : w46.cell? ⟨gb195, 1, none⟩ = some (.bool t192) := (blk_cell BK195.out 1).trans rfl; have hcz47_2 : w46.cell? ⟨gb195, 2, none⟩ = some (.bool t193) := (blk_cell BK195.out 2).trans rfl; have hcz47_3 : w46.cell? ⟨gb195, 3, none⟩ = some (.bool t194) := (blk_cell BK195.out 3).trans rfl; have hfz47_0 := blk_frozen BK195.out 0; have hfz47_1 := blk_frozen BK195.out 1; have hfz47_2 := blk_frozen BK195.out 2; have hfz47_3 := blk_frozen BK195.out 3) | (go_at_call 25; (with_reducible refine (cleatlaw03_holds.calls 4 t191 t192 t193 t194 t204 _ A37.out).mono ?_); rintro e w48 ⟨rfl, hb⟩; have n0_ := Aside0.mk (blk_below (g := gb195) (o := .cells #[.bool t191, .bool t192, .bool t193, .bool t194] 24 (0, 0)) (by (with_reducible repeat (first | refine blk_drewN ?_ _ | refine blk_drew ?_ | refine blk_alloc ?_ _)); exact BK195.out) hb); have n1_ := Aside0.mk (below_step (by repeat (first | (with_reducible first | exact HB.out | apply below_alloc | apply pw_below_drewN | apply below_drew1 | refine below_set ?_ GE195.out) | exact HB.out)) hb); clear BK195; clear HB; have BK195 := n0_; have HB := n1_; clear n0_ n1_; (try clear hb); (try clear hb2); (try clear hk); (try clear hi)))
                    go_ret
                    exact ⟨by first | rfl | (simp [errW_none, errW_some] <;> rfl) | (simp [*, errW_none, errW_some] <;> rfl), by repeat (first | (with_reducible first | exact HB.out | apply below_alloc | apply pw_below_drewN | apply below_drew1 | refine below_set ?_ GE195.out) | exact HB.out)⟩
                  · rw [if_neg c36] at H
                    have c36b0 : (t202 == (decide ((wrap64 (a0)) ≤ (wrap64 (a1))))) = false := by simpa using c36
                    (try (have c36b1 : decide (t202 = (decide ((wrap64 (a0)) ≤ (wrap64 (a1))))) = false := by simpa using c36))
                    (try (have c36b2 : (t202 == (decide ((wrap64 (a0)) ≤ (wrap64 (a1))))) = false := by simpa using c36))
                    (try (have c36b3 : ¬ (t202 = (decide ((wrap64 (a0)) ≤ (wrap64 (a1))))) := by simpa using c36))
                    clear c36
                    obtain rfl := Option.some.inj H
                    have hcz49_0 : wc.cell? ⟨gb195, 0, none⟩ = some (.bool t191) := (blk_cell BK195.out 0).trans rfl
                    have hcz49_1 : wc.cell? ⟨gb195, 1, none⟩ = some (.bool t192) := (blk_cell BK195.out 1).trans rfl
                    have hcz49_2 : wc.cell? ⟨gb195, 2, none⟩ = some (.bool t193) := (blk_cell BK195.out 2).trans rfl
                    have hcz49_3 : wc.cell? ⟨gb195, 3, none⟩ = some (.bool t194) := (blk_cell BK195.out 3).trans rfl
                    have hfz49_0 := blk_frozen BK195.out 0
                    have hfz49_1 := blk_frozen BK195.out 1
                    have hfz49_2 := blk_frozen BK195.out 2
                    have hfz49_3 := blk_frozen BK195.out 3
                    go_wp2_with (first | ((with_reducible refine gate_callee (f := 25) rfl ?_); refine goesL_ (some 44) rfl rfl Try.func25 (by kernel_rfl) rfl #[.int .i64 10, .agg #[.bool t191, .bool t192, .bool t193, .bool t194]] rfl (by (try simp only [List.map_toArray, List.map_cons, List.map_nil]); first | done | rfl | (simp only [List.length_drop, List.length_take]; rfl)) ?_; (with_reducible refine (cleatlaw03_holds.calls 10 t191 t192 t193 t194 t199 _ A25.out).mono ?_); rintro e w50 ⟨rfl, hb⟩; refine ⟨_, rfl, ?_⟩; have n0_ := Aside0.mk (blk_below (g := gb195) (o := .cells #[.bool t191, .bool t192, .bool t193, .bool t194] 24 (0, 0)) (by (with_reducible repeat (first | refine blk_drewN ?_ _ | refine blk_drew ?_ | refine blk_alloc ?_ _)); exact BK195.out) hb); have n1_ := Aside0.mk (below_step (by repeat (first | (with_reducible first | exact HB.out | apply below_alloc | apply pw_below_drewN | apply below_drew1 | refine below_set ?_ GE195.out) | exact HB.out)) hb); clear BK195; clear HB; have BK195 := n0_; have HB := n1_; clear n0_ n1_; (try clear hb); (try clear hb2); (try clear hk); (try clear hi); have hcz51_0 : w50.cell? ⟨gb195, 0, none⟩ = some (.bool t191) := (blk_cell BK195.out 0).trans rfl; have hcz51_1 : w50.cell? ⟨gb195, 1, none⟩ = some (.bool t192) := (blk_cell BK195.out 1).trans rfl; have hcz51_2 : w50.cell? ⟨gb195, 2, none⟩ = some (.bool t193) := (blk_cell BK195.out 2).trans rfl; have hcz51_3 : w50.cell? ⟨gb195, 3, none⟩ = some (.bool t194) := (blk_cell BK195.out 3).trans rfl; have hfz51_0 := blk_frozen BK195.out 0; have hfz51_1 := blk_frozen BK195.out 1; have hfz51_2 := blk_frozen BK195.out 2; have hfz51_3 := blk_frozen BK195.out 3) | (go_at_call 25; (with_reducible refine (cleatlaw03_holds.calls 12 t191 t192 t193 t194 t200 _ A27.out).mono ?_); rintro e w52 ⟨rfl, hb⟩; have n0_ := Aside0.mk (blk_below (g := gb195) (o := .cells #[.bool t191, .bool t192, .bool t193, .bool t194] 24 (0, 0)) (by (with_reducible repeat (first | refine blk_drewN ?_ _ | refine blk_drew ?_ | refine blk_alloc ?_ _)); exact BK195.out) hb); have n1_ := Aside0.mk (below_step (by repeat (first | (with_reducible first | exact HB.out | apply below_alloc | apply pw_below_drewN | apply below_drew1 | refine below_set ?_ GE195.out) | exact HB.out)) hb); clear BK195; clear HB; have BK195 := n0_; have HB := n1_; clear n0_ n1_; (try clear hb); (try clear hb2); (try clear hk); (try clear hi); have hcz53_0 : w52.cell? ⟨gb195, 0, none⟩ = some (.bool t191) := (blk_cell BK195.out 0).trans rfl; have hcz53_1 : w52.cell? ⟨gb195, 1, none⟩ = some (.bool t192) := (blk_cell BK195.out 1).trans rfl; have hcz53_2 : w52.cell? ⟨gb195, 2, none⟩ = some (.bool t193) := (blk_cell BK195.out 2).trans rfl; have hcz53_3 : w52.cell? ⟨gb195, 3, none⟩ = some (.bool t194) := (blk_cell BK195.out 3).trans rfl; have hfz53_0 := blk_frozen BK195.out 0; have hfz53_1 := blk_frozen BK195.out 1; have hfz53_2 := blk_frozen BK195.out 2; have hfz53_3 := blk_frozen BK195.out 3) | (go_at_call 25; (with_reducible refine (cleatlaw03_holds.calls 11 t191 t192 t193 t194 t201 _ A29.out).mono ?_); rintro e w54 ⟨rfl, hb⟩; have n0_ := Aside0.mk (blk_below (g := gb195) (o := .cells #[.bool t191, .bool t192, .bool t193, .bool t194] 24 (0, 0)) (by (with_reducible repeat (first | refine blk_drewN ?_ _ | refine blk_drew ?_ | refine blk_alloc ?_ _)); exact BK195.out) hb); have n1_ := Aside0.mk (below_step (by repeat (first | (with_reducible first | exact HB.out | apply below_alloc | apply pw_below_drewN | apply below_drew1 | refine below_set ?_ GE195.out) | exact HB.out)) hb); clear BK195; clear HB; have BK195 := n0_; have HB := n1_; clear n0_ n1_; (try clear hb); (try clear hb2); (try clear hk); (try clear hi); have hcz55_0 : w54.cell? ⟨gb195, 0, none⟩ = some (.bool t191) := (blk_cell BK195.out 0).trans rfl; have hcz55_1 : w54.cell? ⟨gb195, 1, none⟩ = some (.bool t192) := (blk_cell BK195.out 1).trans rfl; have hcz55_2 : w54.cell? ⟨gb195, 2, none⟩ = some (.bool t193) := (blk_cell BK195.out 2).trans rfl; have hcz55_3 : w54.cell? ⟨gb195, 3, none⟩ = some (.bool t194) := (blk_cell BK195.out 3).trans rfl; have hfz55_0 := blk_frozen BK195.out 0; have hfz55_1 := blk_frozen BK195.out 1; have hfz55_2 := blk_frozen BK195.out 2; have hfz55_3 := blk_frozen BK195.out 3) | (go_at_call 25; (with_reducible refine (cleatlaw03_holds.calls 13 t191 t192 t193 t194 t202 _ A31.out).mono ?_); rintro e w56 ⟨rfl, hb⟩; have n0_ := Aside0.mk (blk_below (g := gb195) (o := .cells #[.bool t191, .bool t192, .bool t193, .bool t194] 24 (0, 0)) (by (with_reducible repeat (first | refine blk_drewN ?_ _ | refine blk_drew ?_ | refine blk_alloc ?_ _)); exact BK195.out) hb); have n1_ := Aside0.mk (below_step (by repeat (first | (with_reducible first | exact HB.out | apply below_alloc | apply pw_below_drewN | apply below_drew1 | refine below_set ?_ GE195.out) | exact HB.out)) hb); clear BK195; clear HB; have BK195 := n0_; have HB := n1_; clear n0_ n1_; (try clear hb); (try clear hb2); (try clear hk); (try clear hi)) | ((with_reducible refine gate_callee (f := 22) rfl ?_); refine goesL_ (some 73) rfl rfl Try.func22 (by kernel_rfl) rfl #[] rfl (by (try simp only [List.map_toArray, List.map_cons, List.map_nil]); first | done | rfl | (simp only [List.length_drop, List.length_take]; rfl)) ?_; (with_reducible refine (cleatlaw03_flagged.calls kj3  true _ A32.out).mono ?_); rintro e w57 ⟨rfl, hb⟩; refine ⟨_, rfl, ?_⟩; have n0_ := Aside0.mk (blk_below (g := gb195) (o := .cells #[.bool t191, .bool t192, .bool t193, .bool t194] 24 (0, 0)) (by (with_reducible repeat (first | refine blk_drewN ?_ _ | refine blk_drew ?_ | refine blk_alloc ?_ _)); exact BK195.out) hb); have n1_ := Aside0.mk (below_step (by repeat (first | (with_reducible first | exact HB.out | apply below_alloc | apply pw_below_drewN | apply below_drew1 | refine below_set ?_ GE195.out) | exact HB.out)) hb); clear BK195; clear HB; have BK195 := n0_; have HB := n1_; clear n0_ n1_; (try clear hb); (try clear hb2); (try clear hk); (try clear hi)))
                    go_ret
                    exact ⟨by first | rfl | (simp [errW_none, errW_some] <;> rfl) | (simp [*, errW_none, errW_some] <;> rfl), by repeat (first | (with_reducible first | exact HB.out | apply below_alloc | apply pw_below_drewN | apply below_drew1 | refine below_set ?_ GE195.out) | exact HB.out)⟩
                · replace c35 := Bool.eq_false_iff.mpr c35
                  subst c35
                  have H1 : (some false) = some r := by rw [if_neg (show ¬ (false = true) by decide)] at H; exact H
                  clear H
                  have H := H1
                  clear H1
                  obtain rfl := Option.some.inj H
                  have hcz58_0 : wc.cell? ⟨gb195, 0, none⟩ = some (.bool t191) := (blk_cell BK195.out 0).trans rfl
                  have hcz58_1 : wc.cell? ⟨gb195, 1, none⟩ = some (.bool t192) := (blk_cell BK195.out 1).trans rfl
                  have hcz58_2 : wc.cell? ⟨gb195, 2, none⟩ = some (.bool t193) := (blk_cell BK195.out 2).trans rfl
                  have hcz58_3 : wc.cell? ⟨gb195, 3, none⟩ = some (.bool t194) := (blk_cell BK195.out 3).trans rfl
                  have hfz58_0 := blk_frozen BK195.out 0
                  have hfz58_1 := blk_frozen BK195.out 1
                  have hfz58_2 := blk_frozen BK195.out 2
                  have hfz58_3 := blk_frozen BK195.out 3
                  go_wp2_with (first | ((with_reducible refine gate_callee (f := 25) rfl ?_); refine goesL_ (some 44) rfl rfl Try.func25 (by kernel_rfl) rfl #[.int .i64 10, .agg #[.bool t191, .bool t192, .bool t193, .bool t194]] rfl (by (try simp only [List.map_toArray, List.map_cons, List.map_nil]); first | done | rfl | (simp only [List.length_drop, List.length_take]; rfl)) ?_; (with_reducible refine (cleatlaw03_holds.calls 10 t191 t192 t193 t194 t199 _ A25.out).mono ?_); rintro e w59 ⟨rfl, hb⟩; refine ⟨_, rfl, ?_⟩; have n0_ := Aside0.mk (blk_below (g := gb195) (o := .cells #[.bool t191, .bool t192, .bool t193, .bool t194] 24 (0, 0)) (by (with_reducible repeat (first | refine blk_drewN ?_ _ | refine blk_drew ?_ | refine blk_alloc ?_ _)); exact BK195.out) hb); have n1_ := Aside0.mk (below_step (by repeat (first | (with_reducible first | exact HB.out | apply below_alloc | apply pw_below_drewN | apply below_drew1 | refine below_set ?_ GE195.out) | exact HB.out)) hb); clear BK195; clear HB; have BK195 := n0_; have HB := n1_; clear n0_ n1_; (try clear hb); (try clear hb2); (try clear hk); (try clear hi); have hcz60_0 : w59.cell? ⟨gb195, 0, none⟩ = some (.bool t191) := (blk_cell BK195.out 0).trans rfl; have hcz60_1 : w59.cell? ⟨gb195, 1, none⟩ = some (.bool t192) := (blk_cell BK195.out 1).trans rfl; have hcz60_2 : w59.cell? ⟨gb195, 2, none⟩ = some (.bool t193) := (blk_cell BK195.out 2).trans rfl; have hcz60_3 : w59.cell? ⟨gb195, 3, none⟩ = some (.bool t194) := (blk_cell BK195.out 3).trans rfl; have hfz60_0 := blk_frozen BK195.out 0; have hfz60_1 := blk_frozen BK195.out 1; have hfz60_2 := blk_frozen BK195.out 2; have hfz60_3 := blk_frozen BK195.out 3) | (go_at_call 25; (with_reducible refine (cleatlaw03_holds.calls 12 t191 t192 t193 t194 t200 _ A27.out).mono ?_); rintro e w61 ⟨rfl, hb⟩; have n0_ := Aside0.mk (blk_below (g := gb195) (o := .cells #[.bool t191, .bool t192, .bool t193, .bool t194] 24 (0, 0)) (by (with_reducible repeat (first | refine blk_drewN ?_ _ | refine blk_drew ?_ | refine blk_alloc ?_ _)); exact BK195.out) hb); have n1_ := Aside0.mk (below_step (by repeat (first | (with_reducible first | exact HB.out | apply below_alloc | apply pw_below_drewN | apply below_drew1 | refine below_set ?_ GE195.out) | exact HB.out)) hb); clear BK195; clear HB; have BK195 := n0_; have HB := n1_; clear n0_ n1_; (try clear hb); (try clear hb2); (try clear hk); (try clear hi); have hcz62_0 : w61.cell? ⟨gb195, 0, none⟩ = some (.bool t191) := (blk_cell BK195.out 0).trans rfl; have hcz62_1 : w61.cell? ⟨gb195, 1, none⟩ = some (.bool t192) := (blk_cell BK195.out 1).trans rfl; have hcz62_2 : w61.cell? ⟨gb195, 2, none⟩ = some (.bool t193) := (blk_cell BK195.out 2).trans rfl; have hcz62_3 : w61.cell? ⟨gb195, 3, none⟩ = some (.bool t194) := (blk_cell BK195.out 3).trans rfl; have hfz62_0 := blk_frozen BK195.out 0; have hfz62_1 := blk_frozen BK195.out 1; have hfz62_2 := blk_frozen BK195.out 2; have hfz62_3 := blk_frozen BK195.out 3) | (go_at_call 25; (with_reducible refine (cleatlaw03_holds.calls 11 t191 t192 t193 t194 t201 _ A29.out).mono ?_); rintro e w63 ⟨rfl, hb⟩; have n0_ := Aside0.mk (blk_below (g := gb195) (o := .cells #[.bool t191, .bool t192, .bool t193, .bool t194] 24 (0, 0)) (by (with_reducible repeat (first | refine blk_drewN ?_ _ | refine blk_drew ?_ | refine blk_alloc ?_ _)); exact BK195.out) hb); have n1_ := Aside0.mk (below_step (by repeat (first | (with_reducible first | exact HB.out | apply below_alloc | apply pw_below_drewN | apply below_drew1 | refine below_set ?_ GE195.out) | exact HB.out)) hb); clear BK195; clear HB; have BK195 := n0_; have HB := n1_; clear n0_ n1_; (try clear hb); (try clear hb2); (try clear hk); (try clear hi); have hcz64_0 : w63.cell? ⟨gb195, 0, none⟩ = some (.bool t191) := (blk_cell BK195.out 0).trans rfl; have hcz64_1 : w63.cell? ⟨gb195, 1, none⟩ = some (.bool t192) := (blk_cell BK195.out 1).trans rfl; have hcz64_2 : w63.cell? ⟨gb195, 2, none⟩ = some (.bool t193) := (blk_cell BK195.out 2).trans rfl; have hcz64_3 : w63.cell? ⟨gb195, 3, none⟩ = some (.bool t194) := (blk_cell BK195.out 3).trans rfl; have hfz64_0 := blk_frozen BK195.out 0; have hfz64_1 := blk_frozen BK195.out 1; have hfz64_2 := blk_frozen BK195.out 2; have hfz64_3 := blk_frozen BK195.out 3) | (go_at_call 25; (with_reducible refine (cleatlaw03_holds.calls 13 t191 t192 t193 t194 t202 _ A31.out).mono ?_); rintro e w65 ⟨rfl, hb⟩; have n0_ := Aside0.mk (blk_below (g := gb195) (o := .cells #[.bool t191, .bool t192, .bool t193, .bool t194] 24 (0, 0)) (by (with_reducible repeat (first | refine blk_drewN ?_ _ | refine blk_drew ?_ | refine blk_alloc ?_ _)); exact BK195.out) hb); have n1_ := Aside0.mk (below_step (by repeat (first | (with_reducible first | exact HB.out | apply below_alloc | apply pw_below_drewN | apply below_drew1 | refine below_set ?_ GE195.out) | exact HB.out)) hb); clear BK195; clear HB; have BK195 := n0_; have HB := n1_; clear n0_ n1_; (try clear hb); (try clear hb2); (try clear hk); (try clear hi)) | ((with_reducible refine gate_callee (f := 22) rfl ?_); refine goesL_ (some 73) rfl rfl Try.func22 (by kernel_rfl) rfl #[] rfl (by (try simp only [List.map_toArray, List.map_cons, List.map_nil]); first | done | rfl | (simp only [List.length_drop, List.length_take]; rfl)) ?_; (with_reducible refine (cleatlaw03_flagged.calls kj3  true _ A32.out).mono ?_); rintro e w66 ⟨rfl, hb⟩; refine ⟨_, rfl, ?_⟩; have n0_ := Aside0.mk (blk_below (g := gb195) (o := .cells #[.bool t191, .bool t192, .bool t193, .bool t194] 24 (0, 0)) (by (with_reducible repeat (first | refine blk_drewN ?_ _ | refine blk_drew ?_ | refine blk_alloc ?_ _)); exact BK195.out) hb); have n1_ := Aside0.mk (below_step (by repeat (first | (with_reducible first | exact HB.out | apply below_alloc | apply pw_below_drewN | apply below_drew1 | refine below_set ?_ GE195.out) | exact HB.out)) hb); clear BK195; clear HB; have BK195 := n0_; have HB := n1_; clear n0_ n1_; (try clear hb); (try clear hb2); (try clear hk); (try clear hi)))
                  go_ret
                  exact ⟨by first | rfl | (simp [errW_none, errW_some] <;> rfl) | (simp [*, errW_none, errW_some] <;> rfl), by repeat (first | (with_reducible first | exact HB.out | apply below_alloc | apply pw_below_drewN | apply below_drew1 | refine below_set ?_ GE195.out) | exact HB.out)⟩
              · rw [if_neg c34] at H
                have c34b0 : (t190 == (IntKind.u64.wrap (a0 - a1))) = false := beq_eq_false_iff_ne.mpr c34
                have c34b1 : (t190 != (IntKind.u64.wrap (a0 - a1))) = true := bne_iff_ne.mpr c34
                obtain rfl := Option.some.inj H
                have hcz67_0 : wc.cell? ⟨gb195, 0, none⟩ = some (.bool t191) := (blk_cell BK195.out 0).trans rfl
                have hcz67_1 : wc.cell? ⟨gb195, 1, none⟩ = some (.bool t192) := (blk_cell BK195.out 1).trans rfl
                have hcz67_2 : wc.cell? ⟨gb195, 2, none⟩ = some (.bool t193) := (blk_cell BK195.out 2).trans rfl
                have hcz67_3 : wc.cell? ⟨gb195, 3, none⟩ = some (.bool t194) := (blk_cell BK195.out 3).trans rfl
                have hfz67_0 := blk_frozen BK195.out 0
                have hfz67_1 := blk_frozen BK195.out 1
                have hfz67_2 := blk_frozen BK195.out 2
                have hfz67_3 := blk_frozen BK195.out 3
                go_wp2_with (first | ((with_reducible refine gate_callee (f := 25) rfl ?_); refine goesL_ (some 44) rfl rfl Try.func25 (by kernel_rfl) rfl #[.int .i64 10, .agg #[.bool t191, .bool t192, .bool t193, .bool t194]] rfl (by (try simp only [List.map_toArray, List.map_cons, List.map_nil]); first | done | rfl | (simp only [List.length_drop, List.length_take]; rfl)) ?_; (with_reducible refine (cleatlaw03_holds.calls 10 t191 t192 t193 t194 t199 _ A25.out).mono ?_); rintro e w68 ⟨rfl, hb⟩; refine ⟨_, rfl, ?_⟩; have n0_ := Aside0.mk (blk_below (g := gb195) (o := .cells #[.bool t191, .bool t192, .bool t193, .bool t194] 24 (0, 0)) (by (with_reducible repeat (first | refine blk_drewN ?_ _ | refine blk_drew ?_ | refine blk_alloc ?_ _)); exact BK195.out) hb); have n1_ := Aside0.mk (below_step (by repeat (first | (with_reducible first | exact HB.out | apply below_alloc | apply pw_below_drewN | apply below_drew1 | refine below_set ?_ GE195.out) | exact HB.out)) hb); clear BK195; clear HB; have BK195 := n0_; have HB := n1_; clear n0_ n1_; (try clear hb); (try clear hb2); (try clear hk); (try clear hi); have hcz69_0 : w68.cell? ⟨gb195, 0, none⟩ = some (.bool t191) := (blk_cell BK195.out 0).trans rfl; have hcz69_1 : w68.cell? ⟨gb195, 1, none⟩ = some (.bool t192) := (blk_cell BK195.out 1).trans rfl; have hcz69_2 : w68.cell? ⟨gb195, 2, none⟩ = some (.bool t193) := (blk_cell BK195.out 2).trans rfl; have hcz69_3 : w68.cell? ⟨gb195, 3, none⟩ = some (.bool t194) := (blk_cell BK195.out 3).trans rfl; have hfz69_0 := blk_frozen BK195.out 0; have hfz69_1 := blk_frozen BK195.out 1; have hfz69_2 := blk_frozen BK195.out 2; have hfz69_3 := blk_frozen BK195.out 3) | (go_at_call 25; (with_reducible refine (cleatlaw03_holds.calls 12 t191 t192 t193 t194 t200 _ A27.out).mono ?_); rintro e w70 ⟨rfl, hb⟩; have n0_ := Aside0.mk (blk_below (g := gb195) (o := .cells #[.bool t191, .bool t192, .bool t193, .bool t194] 24 (0, 0)) (by (with_reducible repeat (first | refine blk_drewN ?_ _ | refine blk_drew ?_ | refine blk_alloc ?_ _)); exact BK195.out) hb); have n1_ := Aside0.mk (below_step (by repeat (first | (with_reducible first | exact HB.out | apply below_alloc | apply pw_below_drewN | apply below_drew1 | refine below_set ?_ GE195.out) | exact HB.out)) hb); clear BK195; clear HB; have BK195 := n0_; have HB := n1_; clear n0_ n1_; (try clear hb); (try clear hb2); (try clear hk); (try clear hi); have hcz71_0 : w70.cell? ⟨gb195, 0, none⟩ = some (.bool t191) := (blk_cell BK195.out 0).trans rfl; have hcz71_1 : w70.cell? ⟨gb195, 1, none⟩ = some (.bool t192) := (blk_cell BK195.out 1).trans rfl; have hcz71_2 : w70.cell? ⟨gb195, 2, none⟩ = some (.bool t193) := (blk_cell BK195.out 2).trans rfl; have hcz71_3 : w70.cell? ⟨gb195, 3, none⟩ = some (.bool t194) := (blk_cell BK195.out 3).trans rfl; have hfz71_0 := blk_frozen BK195.out 0; have hfz71_1 := blk_frozen BK195.out 1; have hfz71_2 := blk_frozen BK195.out 2; have hfz71_3 := blk_frozen BK195.out 3) | (go_at_call 25; (with_reducible refine (cleatlaw03_holds.calls 11 t191 t192 t193 t194 t201 _ A29.out).mono ?_); rintro e w72 ⟨rfl, hb⟩; have n0_ := Aside0.mk (blk_below (g := gb195) (o := .cells #[.bool t191, .bool t192, .bool t193, .bool t194] 24 (0, 0)) (by (with_reducible repeat (first | refine blk_drewN ?_ _ | refine blk_drew ?_ | refine blk_alloc ?_ _)); exact BK195.out) hb); have n1_ := Aside0.mk (below_step (by repeat (first | (with_reducible first | exact HB.out | apply below_alloc | apply pw_below_drewN | apply below_drew1 | refine below_set ?_ GE195.out) | exact HB.out)) hb); clear BK195; clear HB; have BK195 := n0_; have HB := n1_; clear n0_ n1_; (try clear hb); (try clear hb2); (try clear hk); (try clear hi); have hcz73_0 : w72.cell? ⟨gb195, 0, none⟩ = some (.bool t191) := (blk_cell BK195.out 0).trans rfl; have hcz73_1 : w72.cell? ⟨gb195, 1, none⟩ = some (.bool t192) := (blk_cell BK195.out 1).trans rfl; have hcz73_2 : w72.cell? ⟨gb195, 2, none⟩ = some (.bool t193) := (blk_cell BK195.out 2).trans rfl; have hcz73_3 : w72.cell? ⟨gb195, 3, none⟩ = some (.bool t194) := (blk_cell BK195.out 3).trans rfl; have hfz73_0 := blk_frozen BK195.out 0; have hfz73_1 := blk_frozen BK195.out 1; have hfz73_2 := blk_frozen BK195.out 2; have hfz73_3 := blk_frozen BK195.out 3) | (go_at_call 25; (with_reducible refine (cleatlaw03_holds.calls 13 t191 t192 t193 t194 t202 _ A31.out).mono ?_); rintro e w74 ⟨rfl, hb⟩; have n0_ := Aside0.mk (blk_below (g := gb195) (o := .cells #[.bool t191, .bool t192, .bool t193, .bool t194] 24 (0, 0)) (by (with_reducible repeat (first | refine blk_drewN ?_ _ | refine blk_drew ?_ | refine blk_alloc ?_ _)); exact BK195.out) hb); have n1_ := Aside0.mk (below_step (by repeat (first | (with_reducible first | exact HB.out | apply below_alloc | apply pw_below_drewN | apply below_drew1 | refine below_set ?_ GE195.out) | exact HB.out)) hb); clear BK195; clear HB; have BK195 := n0_; have HB := n1_; clear n0_ n1_; (try clear hb); (try clear hb2); (try clear hk); (try clear hi)) | ((with_reducible refine gate_callee (f := 22) rfl ?_); refine goesL_ (some 73) rfl rfl Try.func22 (by kernel_rfl) rfl #[] rfl (by (try simp only [List.map_toArray, List.map_cons, List.map_nil]); first | done | rfl | (simp only [List.length_drop, List.length_take]; rfl)) ?_; (with_reducible refine (cleatlaw03_flagged.calls kj3  true _ A32.out).mono ?_); rintro e w75 ⟨rfl, hb⟩; refine ⟨_, rfl, ?_⟩; have n0_ := Aside0.mk (blk_below (g := gb195) (o := .cells #[.bool t191, .bool t192, .bool t193, .bool t194] 24 (0, 0)) (by (with_reducible repeat (first | refine blk_drewN ?_ _ | refine blk_drew ?_ | refine blk_alloc ?_ _)); exact BK195.out) hb); have n1_ := Aside0.mk (below_step (by repeat (first | (with_reducible first | exact HB.out | apply below_alloc | apply pw_below_drewN | apply below_drew1 | refine below_set ?_ GE195.out) | exact HB.out)) hb); clear BK195; clear HB; have BK195 := n0_; have HB := n1_; clear n0_ n1_; (try clear hb); (try clear hb2); (try clear hk); (try clear hi)))
                go_ret
                exact ⟨by first | rfl | (simp [errW_none, errW_some] <;> rfl) | (simp [*, errW_none, errW_some] <;> rfl), by repeat (first | (with_reducible first | exact HB.out | apply below_alloc | apply pw_below_drewN | apply below_drew1 | refine below_set ?_ GE195.out) | exact HB.out)⟩
            · replace c33 := Bool.eq_false_iff.mpr c33
              subst c33
              have H1 : (some false) = some r := by rw [if_neg (show ¬ (false = true) by decide)] at H; exact H
              clear H
              have H := H1
              clear H1
              obtain rfl := Option.some.inj H
              have hcz76_0 : wc.cell? ⟨gb195, 0, none⟩ = some (.bool t191) := (blk_cell BK195.out 0).trans rfl
              have hcz76_1 : wc.cell? ⟨gb195, 1, none⟩ = some (.bool t192) := (blk_cell BK195.out 1).trans rfl
              have hcz76_2 : wc.cell? ⟨gb195, 2, none⟩ = some (.bool t193) := (blk_cell BK195.out 2).trans rfl
              have hcz76_3 : wc.cell? ⟨gb195, 3, none⟩ = some (.bool t194) := (blk_cell BK195.out 3).trans rfl
              have hfz76_0 := blk_frozen BK195.out 0
              have hfz76_1 := blk_frozen BK195.out 1
              have hfz76_2 := blk_frozen BK195.out 2
              have hfz76_3 := blk_frozen BK195.out 3
              go_wp2_with (first | ((with_reducible refine gate_callee (f := 25) rfl ?_); refine goesL_ (some 44) rfl rfl Try.func25 (by kernel_rfl) rfl #[.int .i64 10, .agg #[.bool t191, .bool t192, .bool t193, .bool t194]] rfl (by (try simp only [List.map_toArray, List.map_cons, List.map_nil]); first | done | rfl | (simp only [List.length_drop, List.length_take]; rfl)) ?_; (with_reducible refine (cleatlaw03_holds.calls 10 t191 t192 t193 t194 t199 _ A25.out).mono ?_); rintro e w77 ⟨rfl, hb⟩; refine ⟨_, rfl, ?_⟩; have n0_ := Aside0.mk (blk_below (g := gb195) (o := .cells #[.bool t191, .bool t192, .bool t193, .bool t194] 24 (0, 0)) (by (with_reducible repeat (first | refine blk_drewN ?_ _ | refine blk_drew ?_ | refine blk_alloc ?_ _)); exact BK195.out) hb); have n1_ := Aside0.mk (below_step (by repeat (first | (with_reducible first | exact HB.out | apply below_alloc | apply pw_below_drewN | apply below_drew1 | refine below_set ?_ GE195.out) | exact HB.out)) hb); clear BK195; clear HB; have BK195 := n0_; have HB := n1_; clear n0_ n1_; (try clear hb); (try clear hb2); (try clear hk); (try clear hi); have hcz78_0 : w77.cell? ⟨gb195, 0, none⟩ = some (.bool t191) := (blk_cell BK195.out 0).trans rfl; have hcz78_1 : w77.cell? ⟨gb195, 1, none⟩ = some (.bool t192) := (blk_cell BK195.out 1).trans rfl; have hcz78_2 : w77.cell? ⟨gb195, 2, none⟩ = some (.bool t193) := (blk_cell BK195.out 2).trans rfl; have hcz78_3 : w77.cell? ⟨gb195, 3, none⟩ = some (.bool t194) := (blk_cell BK195.out 3).trans rfl; have hfz78_0 := blk_frozen BK195.out 0; have hfz78_1 := blk_frozen BK195.out 1; have hfz78_2 := blk_frozen BK195.out 2; have hfz78_3 := blk_frozen BK195.out 3) | (go_at_call 25; (with_reducible refine (cleatlaw03_holds.calls 12 t191 t192 t193 t194 t200 _ A27.out).mono ?_); rintro e w79 ⟨rfl, hb⟩; have n0_ := Aside0.mk (blk_below (g := gb195) (o := .cells #[.bool t191, .bool t192, .bool t193, .bool t194] 24 (0, 0)) (by (with_reducible repeat (first | refine blk_drewN ?_ _ | refine blk_drew ?_ | refine blk_alloc ?_ _)); exact BK195.out) hb); have n1_ := Aside0.mk (below_step (by repeat (first | (with_reducible first | exact HB.out | apply below_alloc | apply pw_below_drewN | apply below_drew1 | refine below_set ?_ GE195.out) | exact HB.out)) hb); clear BK195; clear HB; have BK195 := n0_; have HB := n1_; clear n0_ n1_; (try clear hb); (try clear hb2); (try clear hk); (try clear hi); have hcz80_0 : w79.cell? ⟨gb195, 0, none⟩ = some (.bool t191) := (blk_cell BK195.out 0).trans rfl; have hcz80_1 : w79.cell? ⟨gb195, 1, none⟩ = some (.bool t192) := (blk_cell BK195.out 1).trans rfl; have hcz80_2 : w79.cell? ⟨gb195, 2, none⟩ = some (.bool t193) := (blk_cell BK195.out 2).trans rfl; have hcz80_3 : w79.cell? ⟨gb195, 3, none⟩ = some (.bool t194) := (blk_cell BK195.out 3).trans rfl; have hfz80_0 := blk_frozen BK195.out 0; have hfz80_1 := blk_frozen BK195.out 1; have hfz80_2 := blk_frozen BK195.out 2; have hfz80_3 := blk_frozen BK195.out 3) | (go_at_call 25; (with_reducible refine (cleatlaw03_holds.calls 11 t191 t192 t193 t194 t201 _ A29.out).mono ?_); rintro e w81 ⟨rfl, hb⟩; have n0_ := Aside0.mk (blk_below (g := gb195) (o := .cells #[.bool t191, .bool t192, .bool t193, .bool t194] 24 (0, 0)) (by (with_reducible repeat (first | refine blk_drewN ?_ _ | refine blk_drew ?_ | refine blk_alloc ?_ _)); exact BK195.out) hb); have n1_ := Aside0.mk (below_step (by repeat (first | (with_reducible first | exact HB.out | apply below_alloc | apply pw_below_drewN | apply below_drew1 | refine below_set ?_ GE195.out) | exact HB.out)) hb); clear BK195; clear HB; have BK195 := n0_; have HB := n1_; clear n0_ n1_; (try clear hb); (try clear hb2); (try clear hk); (try clear hi); have hcz82_0 : w81.cell? ⟨gb195, 0, none⟩ = some (.bool t191) := (blk_cell BK195.out 0).trans rfl; have hcz82_1 : w81.cell? ⟨gb195, 1, none⟩ = some (.bool t192) := (blk_cell BK195.out 1).trans rfl; have hcz82_2 : w81.cell? ⟨gb195, 2, none⟩ = some (.bool t193) := (blk_cell BK195.out 2).trans rfl; have hcz82_3 : w81.cell? ⟨gb195, 3, none⟩ = some (.bool t194) := (blk_cell BK195.out 3).trans rfl; have hfz82_0 := blk_frozen BK195.out 0; have hfz82_1 := blk_frozen BK195.out 1; have hfz82_2 := blk_frozen BK195.out 2; have hfz82_3 := blk_frozen BK195.out 3) | (go_at_call 25; (with_reducible refine (cleatlaw03_holds.calls 13 t191 t192 t193 t194 t202 _ A31.out).mono ?_); rintro e w83 ⟨rfl, hb⟩; have n0_ := Aside0.mk (blk_below (g := gb195) (o := .cells #[.bool t191, .bool t192, .bool t193, .bool t194] 24 (0, 0)) (by (with_reducible repeat (first | refine blk_drewN ?_ _ | refine blk_drew ?_ | refine blk_alloc ?_ _)); exact BK195.out) hb); have n1_ := Aside0.mk (below_step (by repeat (first | (with_reducible first | exact HB.out | apply below_alloc | apply pw_below_drewN | apply below_drew1 | refine below_set ?_ GE195.out) | exact HB.out)) hb); clear BK195; clear HB; have BK195 := n0_; have HB := n1_; clear n0_ n1_; (try clear hb); (try clear hb2); (try clear hk); (try clear hi)) | ((with_reducible refine gate_callee (f := 22) rfl ?_); refine goesL_ (some 73) rfl rfl Try.func22 (by kernel_rfl) rfl #[] rfl (by (try simp only [List.map_toArray, List.map_cons, List.map_nil]); first | done | rfl | (simp only [List.length_drop, List.length_take]; rfl)) ?_; (with_reducible refine (cleatlaw03_flagged.calls kj3  false _ A32.out).mono ?_); rintro e w84 ⟨rfl, hb⟩; refine ⟨_, rfl, ?_⟩; have n0_ := Aside0.mk (blk_below (g := gb195) (o := .cells #[.bool t191, .bool t192, .bool t193, .bool t194] 24 (0, 0)) (by (with_reducible repeat (first | refine blk_drewN ?_ _ | refine blk_drew ?_ | refine blk_alloc ?_ _)); exact BK195.out) hb); have n1_ := Aside0.mk (below_step (by repeat (first | (with_reducible first | exact HB.out | apply below_alloc | apply pw_below_drewN | apply below_drew1 | refine below_set ?_ GE195.out) | exact HB.out)) hb); clear BK195; clear HB; have BK195 := n0_; have HB := n1_; clear n0_ n1_; (try clear hb); (try clear hb2); (try clear hk); (try clear hi)))
              go_ret
              exact ⟨by first | rfl | (simp [errW_none, errW_some] <;> rfl) | (simp [*, errW_none, errW_some] <;> rfl), by repeat (first | (with_reducible first | exact HB.out | apply below_alloc | apply pw_below_drewN | apply below_drew1 | refine below_set ?_ GE195.out) | exact HB.out)⟩
          · rw [if_neg c30] at H
            have c30b0 : (t201 == (decide ((wrap64 (a0)) < (wrap64 (a1))))) = false := by simpa using c30
            (try (have c30b1 : decide (t201 = (decide ((wrap64 (a0)) < (wrap64 (a1))))) = false := by simpa using c30))
            (try (have c30b2 : (t201 == (decide ((wrap64 (a0)) < (wrap64 (a1))))) = false := by simpa using c30))
            (try (have c30b3 : ¬ (t201 = (decide ((wrap64 (a0)) < (wrap64 (a1))))) := by simpa using c30))
            clear c30
            replace H := Option.bind_eq_some_iff.mp H
            obtain ⟨t205, A850, H⟩ := H
            replace H : (if t205 = true then (if t190 = (IntKind.u64.wrap (a0 - a1)) then (if x9_3 = true then (some false) else (some false)) else (some false)) else (some false)) = some r := H
            have A85 := Aside0.mk A850
            clear A850
            by_cases c86 : t205 = true
            · subst c86
              have H1 : (if t190 = (IntKind.u64.wrap (a0 - a1)) then (if x9_3 = true then (some false) else (some false)) else (some false)) = some r := by rw [if_pos rfl] at H; exact H
              clear H
              have H := H1
              clear H1
              by_cases c87 : t190 = (IntKind.u64.wrap (a0 - a1))
              · rw [if_pos c87] at H
                have c87b0 : (t190 == (IntKind.u64.wrap (a0 - a1))) = true := beq_iff_eq.mpr c87
                have c87b1 : (t190 != (IntKind.u64.wrap (a0 - a1))) = false := bne_eq_false_iff_eq.mpr c87
                clear c87
                by_cases c88 : x9_3 = true
                · subst c88
                  have H1 : (some false) = some r := by rw [if_pos rfl] at H; exact H
                  clear H
                  have H := H1
                  clear H1
                  obtain rfl := Option.some.inj H
                  have hcz89_0 : wc.cell? ⟨gb195, 0, none⟩ = some (.bool t191) := (blk_cell BK195.out 0).trans rfl
                  have hcz89_1 : wc.cell? ⟨gb195, 1, none⟩ = some (.bool t192) := (blk_cell BK195.out 1).trans rfl
                  have hcz89_2 : wc.cell? ⟨gb195, 2, none⟩ = some (.bool t193) := (blk_cell BK195.out 2).trans rfl
                  have hcz89_3 : wc.cell? ⟨gb195, 3, none⟩ = some (.bool t194) := (blk_cell BK195.out 3).trans rfl
                  have hfz89_0 := blk_frozen BK195.out 0
                  have hfz89_1 := blk_frozen BK195.out 1
                  have hfz89_2 := blk_frozen BK195.out 2
                  have hfz89_3 := blk_frozen BK195.out 3
                  go_wp2_with (first | ((with_reducible refine gate_callee (f := 25) rfl ?_); refine goesL_ (some 44) rfl rfl Try.func25 (by kernel_rfl) rfl #[.int .i64 10, .agg #[.bool t191, .bool t192, .bool t193, .bool t194]] rfl (by (try simp only [List.map_toArray, List.map_cons, List.map_nil]); first | done | rfl | (simp only [List.length_drop, List.length_take]; rfl)) ?_; (with_reducible refine (cleatlaw03_holds.calls 10 t191 t192 t193 t194 t199 _ A25.out).mono ?_); rintro e w90 ⟨rfl, hb⟩; refine ⟨_, rfl, ?_⟩; have n0_ := Aside0.mk (blk_below (g := gb195) (o := .cells #[.bool t191, .bool t192, .bool t193, .bool t194] 24 (0, 0)) (by (with_reducible repeat (first | refine blk_drewN ?_ _ | refine blk_drew ?_ | refine blk_alloc ?_ _)); exact BK195.out) hb); have n1_ := Aside0.mk (below_step (by repeat (first | (with_reducible first | exact HB.out | apply below_alloc | apply pw_below_drewN | apply below_drew1 | refine below_set ?_ GE195.out) | exact HB.out)) hb); clear BK195; clear HB; have BK195 := n0_; have HB := n1_; clear n0_ n1_; (try clear hb); (try clear hb2); (try clear hk); (try clear hi); have hcz91_0 : w90.cell? ⟨gb195, 0, none⟩ = some (.bool t191) := (blk_cell BK195.out 0).trans rfl; have hcz91_1 : w90.cell? ⟨gb195, 1, none⟩ = some (.bool t192) := (blk_cell BK195.out 1).trans rfl; have hcz91_2 : w90.cell? ⟨gb195, 2, none⟩ = some (.bool t193) := (blk_cell BK195.out 2).trans rfl; have hcz91_3 : w90.cell? ⟨gb195, 3, none⟩ = some (.bool t194) := (blk_cell BK195.out 3).trans rfl; have hfz91_0 := blk_frozen BK195.out 0; have hfz91_1 := blk_frozen BK195.out 1; have hfz91_2 := blk_frozen BK195.out 2; have hfz91_3 := blk_frozen BK195.out 3) | (go_at_call 25; (with_reducible refine (cleatlaw03_holds.calls 12 t191 t192 t193 t194 t200 _ A27.out).mono ?_); rintro e w92 ⟨rfl, hb⟩; have n0_ := Aside0.mk (blk_below (g := gb195) (o := .cells #[.bool t191, .bool t192, .bool t193, .bool t194] 24 (0, 0)) (by (with_reducible repeat (first | refine blk_drewN ?_ _ | refine blk_drew ?_ | refine blk_alloc ?_ _)); exact BK195.out) hb); have n1_ := Aside0.mk (below_step (by repeat (first | (with_reducible first | exact HB.out | apply below_alloc | apply pw_below_drewN | apply below_drew1 | refine below_set ?_ GE195.out) | exact HB.out)) hb); clear BK195; clear HB; have BK195 := n0_; have HB := n1_; clear n0_ n1_; (try clear hb); (try clear hb2); (try clear hk); (try clear hi); have hcz93_0 : w92.cell? ⟨gb195, 0, none⟩ = some (.bool t191) := (blk_cell BK195.out 0).trans rfl; have hcz93_1 : w92.cell? ⟨gb195, 1, none⟩ = some (.bool t192) := (blk_cell BK195.out 1).trans rfl; have hcz93_2 : w92.cell? ⟨gb195, 2, none⟩ = some (.bool t193) := (blk_cell BK195.out 2).trans rfl; have hcz93_3 : w92.cell? ⟨gb195, 3, none⟩ = some (.bool t194) := (blk_cell BK195.out 3).trans rfl; have hfz93_0 := blk_frozen BK195.out 0; have hfz93_1 := blk_frozen BK195.out 1; have hfz93_2 := blk_frozen BK195.out 2; have hfz93_3 := blk_frozen BK195.out 3) | (go_at_call 25; (with_reducible refine (cleatlaw03_holds.calls 11 t191 t192 t193 t194 t201 _ A29.out).mono ?_); rintro e w94 ⟨rfl, hb⟩; have n0_ := Aside0.mk (blk_below (g := gb195) (o := .cells #[.bool t191, .bool t192, .bool t193, .bool t194] 24 (0, 0)) (by (with_reducible repeat (first | refine blk_drewN ?_ _ | refine blk_drew ?_ | refine blk_alloc ?_ _)); exact BK195.out) hb); have n1_ := Aside0.mk (below_step (by repeat (first | (with_reducible first | exact HB.out | apply below_alloc | apply pw_below_drewN | apply below_drew1 | refine below_set ?_ GE195.out) | exact HB.out)) hb); clear BK195; clear HB; have BK195 := n0_; have HB := n1_; clear n0_ n1_; (try clear hb); (try clear hb2); (try clear hk); (try clear hi)) | ((with_reducible refine gate_callee (f := 22) rfl ?_); refine goesL_ (some 73) rfl rfl Try.func22 (by kernel_rfl) rfl #[] rfl (by (try simp only [List.map_toArray, List.map_cons, List.map_nil]); first | done | rfl | (simp only [List.length_drop, List.length_take]; rfl)) ?_; (with_reducible refine (cleatlaw03_flagged.calls kj3  true _ A85.out).mono ?_); rintro e w95 ⟨rfl, hb⟩; refine ⟨_, rfl, ?_⟩; have n0_ := Aside0.mk (blk_below (g := gb195) (o := .cells #[.bool t191, .bool t192, .bool t193, .bool t194] 24 (0, 0)) (by (with_reducible repeat (first | refine blk_drewN ?_ _ | refine blk_drew ?_ | refine blk_alloc ?_ _)); exact BK195.out) hb); have n1_ := Aside0.mk (below_step (by repeat (first | (with_reducible first | exact HB.out | apply below_alloc | apply pw_below_drewN | apply below_drew1 | refine below_set ?_ GE195.out) | exact HB.out)) hb); clear BK195; clear HB; have BK195 := n0_; have HB := n1_; clear n0_ n1_; (try clear hb); (try clear hb2); (try clear hk); (try clear hi)))
                  go_ret
                  exact ⟨by first | rfl | (simp [errW_none, errW_some] <;> rfl) | (simp [*, errW_none, errW_some] <;> rfl), by repeat (first | (with_reducible first | exact HB.out | apply below_alloc | apply pw_below_drewN | apply below_drew1 | refine below_set ?_ GE195.out) | exact HB.out)⟩
                · replace c88 := Bool.eq_false_iff.mpr c88
                  subst c88
                  have H1 : (some false) = some r := by rw [if_neg (show ¬ (false = true) by decide)] at H; exact H
                  clear H
                  have H := H1
                  clear H1
                  obtain rfl := Option.some.inj H
                  have hcz96_0 : wc.cell? ⟨gb195, 0, none⟩ = some (.bool t191) := (blk_cell BK195.out 0).trans rfl
                  have hcz96_1 : wc.cell? ⟨gb195, 1, none⟩ = some (.bool t192) := (blk_cell BK195.out 1).trans rfl
                  have hcz96_2 : wc.cell? ⟨gb195, 2, none⟩ = some (.bool t193) := (blk_cell BK195.out 2).trans rfl
                  have hcz96_3 : wc.cell? ⟨gb195, 3, none⟩ = some (.bool t194) := (blk_cell BK195.out 3).trans rfl
                  have hfz96_0 := blk_frozen BK195.out 0
                  have hfz96_1 := blk_frozen BK195.out 1
                  have hfz96_2 := blk_frozen BK195.out 2
                  have hfz96_3 := blk_frozen BK195.out 3
                  go_wp2_with (first | ((with_reducible refine gate_callee (f := 25) rfl ?_); refine goesL_ (some 44) rfl rfl Try.func25 (by kernel_rfl) rfl #[.int .i64 10, .agg #[.bool t191, .bool t192, .bool t193, .bool t194]] rfl (by (try simp only [List.map_toArray, List.map_cons, List.map_nil]); first | done | rfl | (simp only [List.length_drop, List.length_take]; rfl)) ?_; (with_reducible refine (cleatlaw03_holds.calls 10 t191 t192 t193 t194 t199 _ A25.out).mono ?_); rintro e w97 ⟨rfl, hb⟩; refine ⟨_, rfl, ?_⟩; have n0_ := Aside0.mk (blk_below (g := gb195) (o := .cells #[.bool t191, .bool t192, .bool t193, .bool t194] 24 (0, 0)) (by (with_reducible repeat (first | refine blk_drewN ?_ _ | refine blk_drew ?_ | refine blk_alloc ?_ _)); exact BK195.out) hb); have n1_ := Aside0.mk (below_step (by repeat (first | (with_reducible first | exact HB.out | apply below_alloc | apply pw_below_drewN | apply below_drew1 | refine below_set ?_ GE195.out) | exact HB.out)) hb); clear BK195; clear HB; have BK195 := n0_; have HB := n1_; clear n0_ n1_; (try clear hb); (try clear hb2); (try clear hk); (try clear hi); have hcz98_0 : w97.cell? ⟨gb195, 0, none⟩ = some (.bool t191) := (blk_cell BK195.out 0).trans rfl; have hcz98_1 : w97.cell? ⟨gb195, 1, none⟩ = some (.bool t192) := (blk_cell BK195.out 1).trans rfl; have hcz98_2 : w97.cell? ⟨gb195, 2, none⟩ = some (.bool t193) := (blk_cell BK195.out 2).trans rfl; have hcz98_3 : w97.cell? ⟨gb195, 3, none⟩ = some (.bool t194) := (blk_cell BK195.out 3).trans rfl; have hfz98_0 := blk_frozen BK195.out 0; have hfz98_1 := blk_frozen BK195.out 1; have hfz98_2 := blk_frozen BK195.out 2; have hfz98_3 := blk_frozen BK195.out 3) | (go_at_call 25; (with_reducible refine (cleatlaw03_holds.calls 12 t191 t192 t193 t194 t200 _ A27.out).mono ?_); rintro e w99 ⟨rfl, hb⟩; have n0_ := Aside0.mk (blk_below (g := gb195) (o := .cells #[.bool t191, .bool t192, .bool t193, .bool t194] 24 (0, 0)) (by (with_reducible repeat (first | refine blk_drewN ?_ _ | refine blk_drew ?_ | refine blk_alloc ?_ _)); exact BK195.out) hb); have n1_ := Aside0.mk (below_step (by repeat (first | (with_reducible first | exact HB.out | apply below_alloc | apply pw_below_drewN | apply below_drew1 | refine below_set ?_ GE195.out) | exact HB.out)) hb); clear BK195; clear HB; have BK195 := n0_; have HB := n1_; clear n0_ n1_; (try clear hb); (try clear hb2); (try clear hk); (try clear hi); have hcz100_0 : w99.cell? ⟨gb195, 0, none⟩ = some (.bool t191) := (blk_cell BK195.out 0).trans rfl; have hcz100_1 : w99.cell? ⟨gb195, 1, none⟩ = some (.bool t192) := (blk_cell BK195.out 1).trans rfl; have hcz100_2 : w99.cell? ⟨gb195, 2, none⟩ = some (.bool t193) := (blk_cell BK195.out 2).trans rfl; have hcz100_3 : w99.cell? ⟨gb195, 3, none⟩ = some (.bool t194) := (blk_cell BK195.out 3).trans rfl; have hfz100_0 := blk_frozen BK195.out 0; have hfz100_1 := blk_frozen BK195.out 1; have hfz100_2 := blk_frozen BK195.out 2; have hfz100_3 := blk_frozen BK195.out 3) | (go_at_call 25; (with_reducible refine (cleatlaw03_holds.calls 11 t191 t192 t193 t194 t201 _ A29.out).mono ?_); rintro e w101 ⟨rfl, hb⟩; have n0_ := Aside0.mk (blk_below (g := gb195) (o := .cells #[.bool t191, .bool t192, .bool t193, .bool t194] 24 (0, 0)) (by (with_reducible repeat (first | refine blk_drewN ?_ _ | refine blk_drew ?_ | refine blk_alloc ?_ _)); exact BK195.out) hb); have n1_ := Aside0.mk (below_step (by repeat (first | (with_reducible first | exact HB.out | apply below_alloc | apply pw_below_drewN | apply below_drew1 | refine below_set ?_ GE195.out) | exact HB.out)) hb); clear BK195; clear HB; have BK195 := n0_; have HB := n1_; clear n0_ n1_; (try clear hb); (try clear hb2); (try clear hk); (try clear hi)) | ((with_reducible refine gate_callee (f := 22) rfl ?_); refine goesL_ (some 73) rfl rfl Try.func22 (by kernel_rfl) rfl #[] rfl (by (try simp only [List.map_toArray, List.map_cons, List.map_nil]); first | done | rfl | (simp only [List.length_drop, List.length_take]; rfl)) ?_; (with_reducible refine (cleatlaw03_flagged.calls kj3  true _ A85.out).mono ?_); rintro e w102 ⟨rfl, hb⟩; refine ⟨_, rfl, ?_⟩; have n0_ := Aside0.mk (blk_below (g := gb195) (o := .cells #[.bool t191, .bool t192, .bool t193, .bool t194] 24 (0, 0)) (by (with_reducible repeat (first | refine blk_drewN ?_ _ | refine blk_drew ?_ | refine blk_alloc ?_ _)); exact BK195.out) hb); have n1_ := Aside0.mk (below_step (by repeat (first | (with_reducible first | exact HB.out | apply below_alloc | apply pw_below_drewN | apply below_drew1 | refine below_set ?_ GE195.out) | exact HB.out)) hb); clear BK195; clear HB; have BK195 := n0_; have HB := n1_; clear n0_ n1_; (try clear hb); (try clear hb2); (try clear hk); (try clear hi)))
                  go_ret
                  exact ⟨by first | rfl | (simp [errW_none, errW_some] <;> rfl) | (simp [*, errW_none, errW_some] <;> rfl), by repeat (first | (with_reducible first | exact HB.out | apply below_alloc | apply pw_below_drewN | apply below_drew1 | refine below_set ?_ GE195.out) | exact HB.out)⟩
              · rw [if_neg c87] at H
                have c87b0 : (t190 == (IntKind.u64.wrap (a0 - a1))) = false := beq_eq_false_iff_ne.mpr c87
                have c87b1 : (t190 != (IntKind.u64.wrap (a0 - a1))) = true := bne_iff_ne.mpr c87
                obtain rfl := Option.some.inj H
                have hcz103_0 : wc.cell? ⟨gb195, 0, none⟩ = some (.bool t191) := (blk_cell BK195.out 0).trans rfl
                have hcz103_1 : wc.cell? ⟨gb195, 1, none⟩ = some (.bool t192) := (blk_cell BK195.out 1).trans rfl
                have hcz103_2 : wc.cell? ⟨gb195, 2, none⟩ = some (.bool t193) := (blk_cell BK195.out 2).trans rfl
                have hcz103_3 : wc.cell? ⟨gb195, 3, none⟩ = some (.bool t194) := (blk_cell BK195.out 3).trans rfl
                have hfz103_0 := blk_frozen BK195.out 0
                have hfz103_1 := blk_frozen BK195.out 1
                have hfz103_2 := blk_frozen BK195.out 2
                have hfz103_3 := blk_frozen BK195.out 3
                go_wp2_with (first | ((with_reducible refine gate_callee (f := 25) rfl ?_); refine goesL_ (some 44) rfl rfl Try.func25 (by kernel_rfl) rfl #[.int .i64 10, .agg #[.bool t191, .bool t192, .bool t193, .bool t194]] rfl (by (try simp only [List.map_toArray, List.map_cons, List.map_nil]); first | done | rfl | (simp only [List.length_drop, List.length_take]; rfl)) ?_; (with_reducible refine (cleatlaw03_holds.calls 10 t191 t192 t193 t194 t199 _ A25.out).mono ?_); rintro e w104 ⟨rfl, hb⟩; refine ⟨_, rfl, ?_⟩; have n0_ := Aside0.mk (blk_below (g := gb195) (o := .cells #[.bool t191, .bool t192, .bool t193, .bool t194] 24 (0, 0)) (by (with_reducible repeat (first | refine blk_drewN ?_ _ | refine blk_drew ?_ | refine blk_alloc ?_ _)); exact BK195.out) hb); have n1_ := Aside0.mk (below_step (by repeat (first | (with_reducible first | exact HB.out | apply below_alloc | apply pw_below_drewN | apply below_drew1 | refine below_set ?_ GE195.out) | exact HB.out)) hb); clear BK195; clear HB; have BK195 := n0_; have HB := n1_; clear n0_ n1_; (try clear hb); (try clear hb2); (try clear hk); (try clear hi); have hcz105_0 : w104.cell? ⟨gb195, 0, none⟩ = some (.bool t191) := (blk_cell BK195.out 0).trans rfl; have hcz105_1 : w104.cell? ⟨gb195, 1, none⟩ = some (.bool t192) := (blk_cell BK195.out 1).trans rfl; have hcz105_2 : w104.cell? ⟨gb195, 2, none⟩ = some (.bool t193) := (blk_cell BK195.out 2).trans rfl; have hcz105_3 : w104.cell? ⟨gb195, 3, none⟩ = some (.bool t194) := (blk_cell BK195.out 3).trans rfl; have hfz105_0 := blk_frozen BK195.out 0; have hfz105_1 := blk_frozen BK195.out 1; have hfz105_2 := blk_frozen BK195.out 2; have hfz105_3 := blk_frozen BK195.out 3) | (go_at_call 25; (with_reducible refine (cleatlaw03_holds.calls 12 t191 t192 t193 t194 t200 _ A27.out).mono ?_); rintro e w106 ⟨rfl, hb⟩; have n0_ := Aside0.mk (blk_below (g := gb195) (o := .cells #[.bool t191, .bool t192, .bool t193, .bool t194] 24 (0, 0)) (by (with_reducible repeat (first | refine blk_drewN ?_ _ | refine blk_drew ?_ | refine blk_alloc ?_ _)); exact BK195.out) hb); have n1_ := Aside0.mk (below_step (by repeat (first | (with_reducible first | exact HB.out | apply below_alloc | apply pw_below_drewN | apply below_drew1 | refine below_set ?_ GE195.out) | exact HB.out)) hb); clear BK195; clear HB; have BK195 := n0_; have HB := n1_; clear n0_ n1_; (try clear hb); (try clear hb2); (try clear hk); (try clear hi); have hcz107_0 : w106.cell? ⟨gb195, 0, none⟩ = some (.bool t191) := (blk_cell BK195.out 0).trans rfl; have hcz107_1 : w106.cell? ⟨gb195, 1, none⟩ = some (.bool t192) := (blk_cell BK195.out 1).trans rfl; have hcz107_2 : w106.cell? ⟨gb195, 2, none⟩ = some (.bool t193) := (blk_cell BK195.out 2).trans rfl; have hcz107_3 : w106.cell? ⟨gb195, 3, none⟩ = some (.bool t194) := (blk_cell BK195.out 3).trans rfl; have hfz107_0 := blk_frozen BK195.out 0; have hfz107_1 := blk_frozen BK195.out 1; have hfz107_2 := blk_frozen BK195.out 2; have hfz107_3 := blk_frozen BK195.out 3) | (go_at_call 25; (with_reducible refine (cleatlaw03_holds.calls 11 t191 t192 t193 t194 t201 _ A29.out).mono ?_); rintro e w108 ⟨rfl, hb⟩; have n0_ := Aside0.mk (blk_below (g := gb195) (o := .cells #[.bool t191, .bool t192, .bool t193, .bool t194] 24 (0, 0)) (by (with_reducible repeat (first | refine blk_drewN ?_ _ | refine blk_drew ?_ | refine blk_alloc ?_ _)); exact BK195.out) hb); have n1_ := Aside0.mk (below_step (by repeat (first | (with_reducible first | exact HB.out | apply below_alloc | apply pw_below_drewN | apply below_drew1 | refine below_set ?_ GE195.out) | exact HB.out)) hb); clear BK195; clear HB; have BK195 := n0_; have HB := n1_; clear n0_ n1_; (try clear hb); (try clear hb2); (try clear hk); (try clear hi)) | ((with_reducible refine gate_callee (f := 22) rfl ?_); refine goesL_ (some 73) rfl rfl Try.func22 (by kernel_rfl) rfl #[] rfl (by (try simp only [List.map_toArray, List.map_cons, List.map_nil]); first | done | rfl | (simp only [List.length_drop, List.length_take]; rfl)) ?_; (with_reducible refine (cleatlaw03_flagged.calls kj3  true _ A85.out).mono ?_); rintro e w109 ⟨rfl, hb⟩; refine ⟨_, rfl, ?_⟩; have n0_ := Aside0.mk (blk_below (g := gb195) (o := .cells #[.bool t191, .bool t192, .bool t193, .bool t194] 24 (0, 0)) (by (with_reducible repeat (first | refine blk_drewN ?_ _ | refine blk_drew ?_ | refine blk_alloc ?_ _)); exact BK195.out) hb); have n1_ := Aside0.mk (below_step (by repeat (first | (with_reducible first | exact HB.out | apply below_alloc | apply pw_below_drewN | apply below_drew1 | refine below_set ?_ GE195.out) | exact HB.out)) hb); clear BK195; clear HB; have BK195 := n0_; have HB := n1_; clear n0_ n1_; (try clear hb); (try clear hb2); (try clear hk); (try clear hi)))
                go_ret
                exact ⟨by first | rfl | (simp [errW_none, errW_some] <;> rfl) | (simp [*, errW_none, errW_some] <;> rfl), by repeat (first | (with_reducible first | exact HB.out | apply below_alloc | apply pw_below_drewN | apply below_drew1 | refine below_set ?_ GE195.out) | exact HB.out)⟩
            · replace c86 := Bool.eq_false_iff.mpr c86
              subst c86
              have H1 : (some false) = some r := by rw [if_neg (show ¬ (false = true) by decide)] at H; exact H
              clear H
              have H := H1
              clear H1
              obtain rfl := Option.some.inj H
              have hcz110_0 : wc.cell? ⟨gb195, 0, none⟩ = some (.bool t191) := (blk_cell BK195.out 0).trans rfl
              have hcz110_1 : wc.cell? ⟨gb195, 1, none⟩ = some (.bool t192) := (blk_cell BK195.out 1).trans rfl
              have hcz110_2 : wc.cell? ⟨gb195, 2, none⟩ = some (.bool t193) := (blk_cell BK195.out 2).trans rfl
              have hcz110_3 : wc.cell? ⟨gb195, 3, none⟩ = some (.bool t194) := (blk_cell BK195.out 3).trans rfl
              have hfz110_0 := blk_frozen BK195.out 0
              have hfz110_1 := blk_frozen BK195.out 1
              have hfz110_2 := blk_frozen BK195.out 2
              have hfz110_3 := blk_frozen BK195.out 3
              go_wp2_with (first | ((with_reducible refine gate_callee (f := 25) rfl ?_); refine goesL_ (some 44) rfl rfl Try.func25 (by kernel_rfl) rfl #[.int .i64 10, .agg #[.bool t191, .bool t192, .bool t193, .bool t194]] rfl (by (try simp only [List.map_toArray, List.map_cons, List.map_nil]); first | done | rfl | (simp only [List.length_drop, List.length_take]; rfl)) ?_; (with_reducible refine (cleatlaw03_holds.calls 10 t191 t192 t193 t194 t199 _ A25.out).mono ?_); rintro e w111 ⟨rfl, hb⟩; refine ⟨_, rfl, ?_⟩; have n0_ := Aside0.mk (blk_below (g := gb195) (o := .cells #[.bool t191, .bool t192, .bool t193, .bool t194] 24 (0, 0)) (by (with_reducible repeat (first | refine blk_drewN ?_ _ | refine blk_drew ?_ | refine blk_alloc ?_ _)); exact BK195.out) hb); have n1_ := Aside0.mk (below_step (by repeat (first | (with_reducible first | exact HB.out | apply below_alloc | apply pw_below_drewN | apply below_drew1 | refine below_set ?_ GE195.out) | exact HB.out)) hb); clear BK195; clear HB; have BK195 := n0_; have HB := n1_; clear n0_ n1_; (try clear hb); (try clear hb2); (try clear hk); (try clear hi); have hcz112_0 : w111.cell? ⟨gb195, 0, none⟩ = some (.bool t191) := (blk_cell BK195.out 0).trans rfl; have hcz112_1 : w111.cell? ⟨gb195, 1, none⟩ = some (.bool t192) := (blk_cell BK195.out 1).trans rfl; have hcz112_2 : w111.cell? ⟨gb195, 2, none⟩ = some (.bool t193) := (blk_cell BK195.out 2).trans rfl; have hcz112_3 : w111.cell? ⟨gb195, 3, none⟩ = some (.bool t194) := (blk_cell BK195.out 3).trans rfl; have hfz112_0 := blk_frozen BK195.out 0; have hfz112_1 := blk_frozen BK195.out 1; have hfz112_2 := blk_frozen BK195.out 2; have hfz112_3 := blk_frozen BK195.out 3) | (go_at_call 25; (with_reducible refine (cleatlaw03_holds.calls 12 t191 t192 t193 t194 t200 _ A27.out).mono ?_); rintro e w113 ⟨rfl, hb⟩; have n0_ := Aside0.mk (blk_below (g := gb195) (o := .cells #[.bool t191, .bool t192, .bool t193, .bool t194] 24 (0, 0)) (by (with_reducible repeat (first | refine blk_drewN ?_ _ | refine blk_drew ?_ | refine blk_alloc ?_ _)); exact BK195.out) hb); have n1_ := Aside0.mk (below_step (by repeat (first | (with_reducible first | exact HB.out | apply below_alloc | apply pw_below_drewN | apply below_drew1 | refine below_set ?_ GE195.out) | exact HB.out)) hb); clear BK195; clear HB; have BK195 := n0_; have HB := n1_; clear n0_ n1_; (try clear hb); (try clear hb2); (try clear hk); (try clear hi); have hcz114_0 : w113.cell? ⟨gb195, 0, none⟩ = some (.bool t191) := (blk_cell BK195.out 0).trans rfl; have hcz114_1 : w113.cell? ⟨gb195, 1, none⟩ = some (.bool t192) := (blk_cell BK195.out 1).trans rfl; have hcz114_2 : w113.cell? ⟨gb195, 2, none⟩ = some (.bool t193) := (blk_cell BK195.out 2).trans rfl; have hcz114_3 : w113.cell? ⟨gb195, 3, none⟩ = some (.bool t194) := (blk_cell BK195.out 3).trans rfl; have hfz114_0 := blk_frozen BK195.out 0; have hfz114_1 := blk_frozen BK195.out 1; have hfz114_2 := blk_frozen BK195.out 2; have hfz114_3 := blk_frozen BK195.out 3) | (go_at_call 25; (with_reducible refine (cleatlaw03_holds.calls 11 t191 t192 t193 t194 t201 _ A29.out).mono ?_); rintro e w115 ⟨rfl, hb⟩; have n0_ := Aside0.mk (blk_below (g := gb195) (o := .cells #[.bool t191, .bool t192, .bool t193, .bool t194] 24 (0, 0)) (by (with_reducible repeat (first | refine blk_drewN ?_ _ | refine blk_drew ?_ | refine blk_alloc ?_ _)); exact BK195.out) hb); have n1_ := Aside0.mk (below_step (by repeat (first | (with_reducible first | exact HB.out | apply below_alloc | apply pw_below_drewN | apply below_drew1 | refine below_set ?_ GE195.out) | exact HB.out)) hb); clear BK195; clear HB; have BK195 := n0_; have HB := n1_; clear n0_ n1_; (try clear hb); (try clear hb2); (try clear hk); (try clear hi)) | ((with_reducible refine gate_callee (f := 22) rfl ?_); refine goesL_ (some 73) rfl rfl Try.func22 (by kernel_rfl) rfl #[] rfl (by (try simp only [List.map_toArray, List.map_cons, List.map_nil]); first | done | rfl | (simp only [List.length_drop, List.length_take]; rfl)) ?_; (with_reducible refine (cleatlaw03_flagged.calls kj3  false _ A85.out).mono ?_); rintro e w116 ⟨rfl, hb⟩; refine ⟨_, rfl, ?_⟩; have n0_ := Aside0.mk (blk_below (g := gb195) (o := .cells #[.bool t191, .bool t192, .bool t193, .bool t194] 24 (0, 0)) (by (with_reducible repeat (first | refine blk_drewN ?_ _ | refine blk_drew ?_ | refine blk_alloc ?_ _)); exact BK195.out) hb); have n1_ := Aside0.mk (below_step (by repeat (first | (with_reducible first | exact HB.out | apply below_alloc | apply pw_below_drewN | apply below_drew1 | refine below_set ?_ GE195.out) | exact HB.out)) hb); clear BK195; clear HB; have BK195 := n0_; have HB := n1_; clear n0_ n1_; (try clear hb); (try clear hb2); (try clear hk); (try clear hi)))
              go_ret
              exact ⟨by first | rfl | (simp [errW_none, errW_some] <;> rfl) | (simp [*, errW_none, errW_some] <;> rfl), by repeat (first | (with_reducible first | exact HB.out | apply below_alloc | apply pw_below_drewN | apply below_drew1 | refine below_set ?_ GE195.out) | exact HB.out)⟩
        · rw [if_neg c28] at H
          have c28b0 : (t200 == (decide ((wrap64 (a0)) > (wrap64 (a1))))) = false := by simpa using c28
          (try (have c28b1 : decide (t200 = (decide ((wrap64 (a0)) > (wrap64 (a1))))) = false := by simpa using c28))
          (try (have c28b2 : (t200 == (decide ((wrap64 (a0)) > (wrap64 (a1))))) = false := by simpa using c28))
          (try (have c28b3 : ¬ (t200 = (decide ((wrap64 (a0)) > (wrap64 (a1))))) := by simpa using c28))
          clear c28
          replace H := Option.bind_eq_some_iff.mp H
          obtain ⟨t206, A1170, H⟩ := H
          replace H : (if t206 = true then (if t190 = (IntKind.u64.wrap (a0 - a1)) then (if x9_3 = true then (some false) else (some false)) else (some false)) else (some false)) = some r := H
          have A117 := Aside0.mk A1170
          clear A1170
          by_cases c118 : t206 = true
          · subst c118
            have H1 : (if t190 = (IntKind.u64.wrap (a0 - a1)) then (if x9_3 = true then (some false) else (some false)) else (some false)) = some r := by rw [if_pos rfl] at H; exact H
            clear H
            have H := H1
            clear H1
            by_cases c119 : t190 = (IntKind.u64.wrap (a0 - a1))
            · rw [if_pos c119] at H
              have c119b0 : (t190 == (IntKind.u64.wrap (a0 - a1))) = true := beq_iff_eq.mpr c119
              have c119b1 : (t190 != (IntKind.u64.wrap (a0 - a1))) = false := bne_eq_false_iff_eq.mpr c119
              clear c119
              by_cases c120 : x9_3 = true
              · subst c120
                have H1 : (some false) = some r := by rw [if_pos rfl] at H; exact H
                clear H
                have H := H1
                clear H1
                obtain rfl := Option.some.inj H
                have hcz121_0 : wc.cell? ⟨gb195, 0, none⟩ = some (.bool t191) := (blk_cell BK195.out 0).trans rfl
                have hcz121_1 : wc.cell? ⟨gb195, 1, none⟩ = some (.bool t192) := (blk_cell BK195.out 1).trans rfl
                have hcz121_2 : wc.cell? ⟨gb195, 2, none⟩ = some (.bool t193) := (blk_cell BK195.out 2).trans rfl
                have hcz121_3 : wc.cell? ⟨gb195, 3, none⟩ = some (.bool t194) := (blk_cell BK195.out 3).trans rfl
                have hfz121_0 := blk_frozen BK195.out 0
                have hfz121_1 := blk_frozen BK195.out 1
                have hfz121_2 := blk_frozen BK195.out 2
                have hfz121_3 := blk_frozen BK195.out 3
                go_wp2_with (first | ((with_reducible refine gate_callee (f := 25) rfl ?_); refine goesL_ (some 44) rfl rfl Try.func25 (by kernel_rfl) rfl #[.int .i64 10, .agg #[.bool t191, .bool t192, .bool t193, .bool t194]] rfl (by (try simp only [List.map_toArray, List.map_cons, List.map_nil]); first | done | rfl | (simp only [List.length_drop, List.length_take]; rfl)) ?_; (with_reducible refine (cleatlaw03_holds.calls 10 t191 t192 t193 t194 t199 _ A25.out).mono ?_); rintro e w122 ⟨rfl, hb⟩; refine ⟨_, rfl, ?_⟩; have n0_ := Aside0.mk (blk_below (g := gb195) (o := .cells #[.bool t191, .bool t192, .bool t193, .bool t194] 24 (0, 0)) (by (with_reducible repeat (first | refine blk_drewN ?_ _ | refine blk_drew ?_ | refine blk_alloc ?_ _)); exact BK195.out) hb); have n1_ := Aside0.mk (below_step (by repeat (first | (with_reducible first | exact HB.out | apply below_alloc | apply pw_below_drewN | apply below_drew1 | refine below_set ?_ GE195.out) | exact HB.out)) hb); clear BK195; clear HB; have BK195 := n0_; have HB := n1_; clear n0_ n1_; (try clear hb); (try clear hb2); (try clear hk); (try clear hi); have hcz123_0 : w122.cell? ⟨gb195, 0, none⟩ = some (.bool t191) := (blk_cell BK195.out 0).trans rfl; have hcz123_1 : w122.cell? ⟨gb195, 1, none⟩ = some (.bool t192) := (blk_cell BK195.out 1).trans rfl; have hcz123_2 : w122.cell? ⟨gb195, 2, none⟩ = some (.bool t193) := (blk_cell BK195.out 2).trans rfl; have hcz123_3 : w122.cell? ⟨gb195, 3, none⟩ = some (.bool t194) := (blk_cell BK195.out 3).trans rfl; have hfz123_0 := blk_frozen BK195.out 0; have hfz123_1 := blk_frozen BK195.out 1; have hfz123_2 := blk_frozen BK195.out 2; have hfz123_3 := blk_frozen BK195.out 3) | (go_at_call 25; (with_reducible refine (cleatlaw03_holds.calls 12 t191 t192 t193 t194 t200 _ A27.out).mono ?_); rintro e w124 ⟨rfl, hb⟩; have n0_ := Aside0.mk (blk_below (g := gb195) (o := .cells #[.bool t191, .bool t192, .bool t193, .bool t194] 24 (0, 0)) (by (with_reducible repeat (first | refine blk_drewN ?_ _ | refine blk_drew ?_ | refine blk_alloc ?_ _)); exact BK195.out) hb); have n1_ := Aside0.mk (below_step (by repeat (first | (with_reducible first | exact HB.out | apply below_alloc | apply pw_below_drewN | apply below_drew1 | refine below_set ?_ GE195.out) | exact HB.out)) hb); clear BK195; clear HB; have BK195 := n0_; have HB := n1_; clear n0_ n1_; (try clear hb); (try clear hb2); (try clear hk); (try clear hi)) | ((with_reducible refine gate_callee (f := 22) rfl ?_); refine goesL_ (some 73) rfl rfl Try.func22 (by kernel_rfl) rfl #[] rfl (by (try simp only [List.map_toArray, List.map_cons, List.map_nil]); first | done | rfl | (simp only [List.length_drop, List.length_take]; rfl)) ?_; (with_reducible refine (cleatlaw03_flagged.calls kj3  true _ A117.out).mono ?_); rintro e w125 ⟨rfl, hb⟩; refine ⟨_, rfl, ?_⟩; have n0_ := Aside0.mk (blk_below (g := gb195) (o := .cells #[.bool t191, .bool t192, .bool t193, .bool t194] 24 (0, 0)) (by (with_reducible repeat (first | refine blk_drewN ?_ _ | refine blk_drew ?_ | refine blk_alloc ?_ _)); exact BK195.out) hb); have n1_ := Aside0.mk (below_step (by repeat (first | (with_reducible first | exact HB.out | apply below_alloc | apply pw_below_drewN | apply below_drew1 | refine below_set ?_ GE195.out) | exact HB.out)) hb); clear BK195; clear HB; have BK195 := n0_; have HB := n1_; clear n0_ n1_; (try clear hb); (try clear hb2); (try clear hk); (try clear hi)))
                go_ret
                exact ⟨by first | rfl | (simp [errW_none, errW_some] <;> rfl) | (simp [*, errW_none, errW_some] <;> rfl), by repeat (first | (with_reducible first | exact HB.out | apply below_alloc | apply pw_below_drewN | apply below_drew1 | refine below_set ?_ GE195.out) | exact HB.out)⟩
              · replace c120 := Bool.eq_false_iff.mpr c120
                subst c120
                have H1 : (some false) = some r := by rw [if_neg (show ¬ (false = true) by decide)] at H; exact H
                clear H
                have H := H1
                clear H1
                obtain rfl := Option.some.inj H
                have hcz126_0 : wc.cell? ⟨gb195, 0, none⟩ = some (.bool t191) := (blk_cell BK195.out 0).trans rfl
                have hcz126_1 : wc.cell? ⟨gb195, 1, none⟩ = some (.bool t192) := (blk_cell BK195.out 1).trans rfl
                have hcz126_2 : wc.cell? ⟨gb195, 2, none⟩ = some (.bool t193) := (blk_cell BK195.out 2).trans rfl
                have hcz126_3 : wc.cell? ⟨gb195, 3, none⟩ = some (.bool t194) := (blk_cell BK195.out 3).trans rfl
                have hfz126_0 := blk_frozen BK195.out 0
                have hfz126_1 := blk_frozen BK195.out 1
                have hfz126_2 := blk_frozen BK195.out 2
                have hfz126_3 := blk_frozen BK195.out 3
                go_wp2_with (first | ((with_reducible refine gate_callee (f := 25) rfl ?_); refine goesL_ (some 44) rfl rfl Try.func25 (by kernel_rfl) rfl #[.int .i64 10, .agg #[.bool t191, .bool t192, .bool t193, .bool t194]] rfl (by (try simp only [List.map_toArray, List.map_cons, List.map_nil]); first | done | rfl | (simp only [List.length_drop, List.length_take]; rfl)) ?_; (with_reducible refine (cleatlaw03_holds.calls 10 t191 t192 t193 t194 t199 _ A25.out).mono ?_); rintro e w127 ⟨rfl, hb⟩; refine ⟨_, rfl, ?_⟩; have n0_ := Aside0.mk (blk_below (g := gb195) (o := .cells #[.bool t191, .bool t192, .bool t193, .bool t194] 24 (0, 0)) (by (with_reducible repeat (first | refine blk_drewN ?_ _ | refine blk_drew ?_ | refine blk_alloc ?_ _)); exact BK195.out) hb); have n1_ := Aside0.mk (below_step (by repeat (first | (with_reducible first | exact HB.out | apply below_alloc | apply pw_below_drewN | apply below_drew1 | refine below_set ?_ GE195.out) | exact HB.out)) hb); clear BK195; clear HB; have BK195 := n0_; have HB := n1_; clear n0_ n1_; (try clear hb); (try clear hb2); (try clear hk); (try clear hi); have hcz128_0 : w127.cell? ⟨gb195, 0, none⟩ = some (.bool t191) := (blk_cell BK195.out 0).trans rfl; have hcz128_1 : w127.cell? ⟨gb195, 1, none⟩ = some (.bool t192) := (blk_cell BK195.out 1).trans rfl; have hcz128_2 : w127.cell? ⟨gb195, 2, none⟩ = some (.bool t193) := (blk_cell BK195.out 2).trans rfl; have hcz128_3 : w127.cell? ⟨gb195, 3, none⟩ = some (.bool t194) := (blk_cell BK195.out 3).trans rfl; have hfz128_0 := blk_frozen BK195.out 0; have hfz128_1 := blk_frozen BK195.out 1; have hfz128_2 := blk_frozen BK195.out 2; have hfz128_3 := blk_frozen BK195.out 3) | (go_at_call 25; (with_reducible refine (cleatlaw03_holds.calls 12 t191 t192 t193 t194 t200 _ A27.out).mono ?_); rintro e w129 ⟨rfl, hb⟩; have n0_ := Aside0.mk (blk_below (g := gb195) (o := .cells #[.bool t191, .bool t192, .bool t193, .bool t194] 24 (0, 0)) (by (with_reducible repeat (first | refine blk_drewN ?_ _ | refine blk_drew ?_ | refine blk_alloc ?_ _)); exact BK195.out) hb); have n1_ := Aside0.mk (below_step (by repeat (first | (with_reducible first | exact HB.out | apply below_alloc | apply pw_below_drewN | apply below_drew1 | refine below_set ?_ GE195.out) | exact HB.out)) hb); clear BK195; clear HB; have BK195 := n0_; have HB := n1_; clear n0_ n1_; (try clear hb); (try clear hb2); (try clear hk); (try clear hi)) | ((with_reducible refine gate_callee (f := 22) rfl ?_); refine goesL_ (some 73) rfl rfl Try.func22 (by kernel_rfl) rfl #[] rfl (by (try simp only [List.map_toArray, List.map_cons, List.map_nil]); first | done | rfl | (simp only [List.length_drop, List.length_take]; rfl)) ?_; (with_reducible refine (cleatlaw03_flagged.calls kj3  true _ A117.out).mono ?_); rintro e w130 ⟨rfl, hb⟩; refine ⟨_, rfl, ?_⟩; have n0_ := Aside0.mk (blk_below (g := gb195) (o := .cells #[.bool t191, .bool t192, .bool t193, .bool t194] 24 (0, 0)) (by (with_reducible repeat (first | refine blk_drewN ?_ _ | refine blk_drew ?_ | refine blk_alloc ?_ _)); exact BK195.out) hb); have n1_ := Aside0.mk (below_step (by repeat (first | (with_reducible first | exact HB.out | apply below_alloc | apply pw_below_drewN | apply below_drew1 | refine below_set ?_ GE195.out) | exact HB.out)) hb); clear BK195; clear HB; have BK195 := n0_; have HB := n1_; clear n0_ n1_; (try clear hb); (try clear hb2); (try clear hk); (try clear hi)))
                go_ret
                exact ⟨by first | rfl | (simp [errW_none, errW_some] <;> rfl) | (simp [*, errW_none, errW_some] <;> rfl), by repeat (first | (with_reducible first | exact HB.out | apply below_alloc | apply pw_below_drewN | apply below_drew1 | refine below_set ?_ GE195.out) | exact HB.out)⟩
            · rw [if_neg c119] at H
              have c119b0 : (t190 == (IntKind.u64.wrap (a0 - a1))) = false := beq_eq_false_iff_ne.mpr c119
              have c119b1 : (t190 != (IntKind.u64.wrap (a0 - a1))) = true := bne_iff_ne.mpr c119
              obtain rfl := Option.some.inj H
              have hcz131_0 : wc.cell? ⟨gb195, 0, none⟩ = some (.bool t191) := (blk_cell BK195.out 0).trans rfl
              have hcz131_1 : wc.cell? ⟨gb195, 1, none⟩ = some (.bool t192) := (blk_cell BK195.out 1).trans rfl
              have hcz131_2 : wc.cell? ⟨gb195, 2, none⟩ = some (.bool t193) := (blk_cell BK195.out 2).trans rfl
              have hcz131_3 : wc.cell? ⟨gb195, 3, none⟩ = some (.bool t194) := (blk_cell BK195.out 3).trans rfl
              have hfz131_0 := blk_frozen BK195.out 0
              have hfz131_1 := blk_frozen BK195.out 1
              have hfz131_2 := blk_frozen BK195.out 2
              have hfz131_3 := blk_frozen BK195.out 3
              go_wp2_with (first | ((with_reducible refine gate_callee (f := 25) rfl ?_); refine goesL_ (some 44) rfl rfl Try.func25 (by kernel_rfl) rfl #[.int .i64 10, .agg #[.bool t191, .bool t192, .bool t193, .bool t194]] rfl (by (try simp only [List.map_toArray, List.map_cons, List.map_nil]); first | done | rfl | (simp only [List.length_drop, List.length_take]; rfl)) ?_; (with_reducible refine (cleatlaw03_holds.calls 10 t191 t192 t193 t194 t199 _ A25.out).mono ?_); rintro e w132 ⟨rfl, hb⟩; refine ⟨_, rfl, ?_⟩; have n0_ := Aside0.mk (blk_below (g := gb195) (o := .cells #[.bool t191, .bool t192, .bool t193, .bool t194] 24 (0, 0)) (by (with_reducible repeat (first | refine blk_drewN ?_ _ | refine blk_drew ?_ | refine blk_alloc ?_ _)); exact BK195.out) hb); have n1_ := Aside0.mk (below_step (by repeat (first | (with_reducible first | exact HB.out | apply below_alloc | apply pw_below_drewN | apply below_drew1 | refine below_set ?_ GE195.out) | exact HB.out)) hb); clear BK195; clear HB; have BK195 := n0_; have HB := n1_; clear n0_ n1_; (try clear hb); (try clear hb2); (try clear hk); (try clear hi); have hcz133_0 : w132.cell? ⟨gb195, 0, none⟩ = some (.bool t191) := (blk_cell BK195.out 0).trans rfl; have hcz133_1 : w132.cell? ⟨gb195, 1, none⟩ = some (.bool t192) := (blk_cell BK195.out 1).trans rfl; have hcz133_2 : w132.cell? ⟨gb195, 2, none⟩ = some (.bool t193) := (blk_cell BK195.out 2).trans rfl; have hcz133_3 : w132.cell? ⟨gb195, 3, none⟩ = some (.bool t194) := (blk_cell BK195.out 3).trans rfl; have hfz133_0 := blk_frozen BK195.out 0; have hfz133_1 := blk_frozen BK195.out 1; have hfz133_2 := blk_frozen BK195.out 2; have hfz133_3 := blk_frozen BK195.out 3) | (go_at_call 25; (with_reducible refine (cleatlaw03_holds.calls 12 t191 t192 t193 t194 t200 _ A27.out).mono ?_); rintro e w134 ⟨rfl, hb⟩; have n0_ := Aside0.mk (blk_below (g := gb195) (o := .cells #[.bool t191, .bool t192, .bool t193, .bool t194] 24 (0, 0)) (by (with_reducible repeat (first | refine blk_drewN ?_ _ | refine blk_drew ?_ | refine blk_alloc ?_ _)); exact BK195.out) hb); have n1_ := Aside0.mk (below_step (by repeat (first | (with_reducible first | exact HB.out | apply below_alloc | apply pw_below_drewN | apply below_drew1 | refine below_set ?_ GE195.out) | exact HB.out)) hb); clear BK195; clear HB; have BK195 := n0_; have HB := n1_; clear n0_ n1_; (try clear hb); (try clear hb2); (try clear hk); (try clear hi)) | ((with_reducible refine gate_callee (f := 22) rfl ?_); refine goesL_ (some 73) rfl rfl Try.func22 (by kernel_rfl) rfl #[] rfl (by (try simp only [List.map_toArray, List.map_cons, List.map_nil]); first | done | rfl | (simp only [List.length_drop, List.length_take]; rfl)) ?_; (with_reducible refine (cleatlaw03_flagged.calls kj3  true _ A117.out).mono ?_); rintro e w135 ⟨rfl, hb⟩; refine ⟨_, rfl, ?_⟩; have n0_ := Aside0.mk (blk_below (g := gb195) (o := .cells #[.bool t191, .bool t192, .bool t193, .bool t194] 24 (0, 0)) (by (with_reducible repeat (first | refine blk_drewN ?_ _ | refine blk_drew ?_ | refine blk_alloc ?_ _)); exact BK195.out) hb); have n1_ := Aside0.mk (below_step (by repeat (first | (with_reducible first | exact HB.out | apply below_alloc | apply pw_below_drewN | apply below_drew1 | refine below_set ?_ GE195.out) | exact HB.out)) hb); clear BK195; clear HB; have BK195 := n0_; have HB := n1_; clear n0_ n1_; (try clear hb); (try clear hb2); (try clear hk); (try clear hi)))
              go_ret
              exact ⟨by first | rfl | (simp [errW_none, errW_some] <;> rfl) | (simp [*, errW_none, errW_some] <;> rfl), by repeat (first | (with_reducible first | exact HB.out | apply below_alloc | apply pw_below_drewN | apply below_drew1 | refine below_set ?_ GE195.out) | exact HB.out)⟩
          · replace c118 := Bool.eq_false_iff.mpr c118
            subst c118
            have H1 : (some false) = some r := by rw [if_neg (show ¬ (false = true) by decide)] at H; exact H
            clear H
            have H := H1
            clear H1
            obtain rfl := Option.some.inj H
            have hcz136_0 : wc.cell? ⟨gb195, 0, none⟩ = some (.bool t191) := (blk_cell BK195.out 0).trans rfl
            have hcz136_1 : wc.cell? ⟨gb195, 1, none⟩ = some (.bool t192) := (blk_cell BK195.out 1).trans rfl
            have hcz136_2 : wc.cell? ⟨gb195, 2, none⟩ = some (.bool t193) := (blk_cell BK195.out 2).trans rfl
            have hcz136_3 : wc.cell? ⟨gb195, 3, none⟩ = some (.bool t194) := (blk_cell BK195.out 3).trans rfl
            have hfz136_0 := blk_frozen BK195.out 0
            have hfz136_1 := blk_frozen BK195.out 1
            have hfz136_2 := blk_frozen BK195.out 2
            have hfz136_3 := blk_frozen BK195.out 3
            go_wp2_with (first | ((with_reducible refine gate_callee (f := 25) rfl ?_); refine goesL_ (some 44) rfl rfl Try.func25 (by kernel_rfl) rfl #[.int .i64 10, .agg #[.bool t191, .bool t192, .bool t193, .bool t194]] rfl (by (try simp only [List.map_toArray, List.map_cons, List.map_nil]); first | done | rfl | (simp only [List.length_drop, List.length_take]; rfl)) ?_; (with_reducible refine (cleatlaw03_holds.calls 10 t191 t192 t193 t194 t199 _ A25.out).mono ?_); rintro e w137 ⟨rfl, hb⟩; refine ⟨_, rfl, ?_⟩; have n0_ := Aside0.mk (blk_below (g := gb195) (o := .cells #[.bool t191, .bool t192, .bool t193, .bool t194] 24 (0, 0)) (by (with_reducible repeat (first | refine blk_drewN ?_ _ | refine blk_drew ?_ | refine blk_alloc ?_ _)); exact BK195.out) hb); have n1_ := Aside0.mk (below_step (by repeat (first | (with_reducible first | exact HB.out | apply below_alloc | apply pw_below_drewN | apply below_drew1 | refine below_set ?_ GE195.out) | exact HB.out)) hb); clear BK195; clear HB; have BK195 := n0_; have HB := n1_; clear n0_ n1_; (try clear hb); (try clear hb2); (try clear hk); (try clear hi); have hcz138_0 : w137.cell? ⟨gb195, 0, none⟩ = some (.bool t191) := (blk_cell BK195.out 0).trans rfl; have hcz138_1 : w137.cell? ⟨gb195, 1, none⟩ = some (.bool t192) := (blk_cell BK195.out 1).trans rfl; have hcz138_2 : w137.cell? ⟨gb195, 2, none⟩ = some (.bool t193) := (blk_cell BK195.out 2).trans rfl; have hcz138_3 : w137.cell? ⟨gb195, 3, none⟩ = some (.bool t194) := (blk_cell BK195.out 3).trans rfl; have hfz138_0 := blk_frozen BK195.out 0; have hfz138_1 := blk_frozen BK195.out 1; have hfz138_2 := blk_frozen BK195.out 2; have hfz138_3 := blk_frozen BK195.out 3) | (go_at_call 25; (with_reducible refine (cleatlaw03_holds.calls 12 t191 t192 t193 t194 t200 _ A27.out).mono ?_); rintro e w139 ⟨rfl, hb⟩; have n0_ := Aside0.mk (blk_below (g := gb195) (o := .cells #[.bool t191, .bool t192, .bool t193, .bool t194] 24 (0, 0)) (by (with_reducible repeat (first | refine blk_drewN ?_ _ | refine blk_drew ?_ | refine blk_alloc ?_ _)); exact BK195.out) hb); have n1_ := Aside0.mk (below_step (by repeat (first | (with_reducible first | exact HB.out | apply below_alloc | apply pw_below_drewN | apply below_drew1 | refine below_set ?_ GE195.out) | exact HB.out)) hb); clear BK195; clear HB; have BK195 := n0_; have HB := n1_; clear n0_ n1_; (try clear hb); (try clear hb2); (try clear hk); (try clear hi)) | ((with_reducible refine gate_callee (f := 22) rfl ?_); refine goesL_ (some 73) rfl rfl Try.func22 (by kernel_rfl) rfl #[] rfl (by (try simp only [List.map_toArray, List.map_cons, List.map_nil]); first | done | rfl | (simp only [List.length_drop, List.length_take]; rfl)) ?_; (with_reducible refine (cleatlaw03_flagged.calls kj3  false _ A117.out).mono ?_); rintro e w140 ⟨rfl, hb⟩; refine ⟨_, rfl, ?_⟩; have n0_ := Aside0.mk (blk_below (g := gb195) (o := .cells #[.bool t191, .bool t192, .bool t193, .bool t194] 24 (0, 0)) (by (with_reducible repeat (first | refine blk_drewN ?_ _ | refine blk_drew ?_ | refine blk_alloc ?_ _)); exact BK195.out) hb); have n1_ := Aside0.mk (below_step (by repeat (first | (with_reducible first | exact HB.out | apply below_alloc | apply pw_below_drewN | apply below_drew1 | refine below_set ?_ GE195.out) | exact HB.out)) hb); clear BK195; clear HB; have BK195 := n0_; have HB := n1_; clear n0_ n1_; (try clear hb); (try clear hb2); (try clear hk); (try clear hi)))
            go_ret
            exact ⟨by first | rfl | (simp [errW_none, errW_some] <;> rfl) | (simp [*, errW_none, errW_some] <;> rfl), by repeat (first | (with_reducible first | exact HB.out | apply below_alloc | apply pw_below_drewN | apply below_drew1 | refine below_set ?_ GE195.out) | exact HB.out)⟩
      · rw [if_neg c26] at H
        have c26b0 : (t199 == (decide ((wrap64 (a0)) ≥ (wrap64 (a1))))) = false := by simpa using c26
        (try (have c26b1 : decide (t199 = (decide ((wrap64 (a0)) ≥ (wrap64 (a1))))) = false := by simpa using c26))
        (try (have c26b2 : (t199 == (decide ((wrap64 (a0)) ≥ (wrap64 (a1))))) = false := by simpa using c26))
        (try (have c26b3 : ¬ (t199 = (decide ((wrap64 (a0)) ≥ (wrap64 (a1))))) := by simpa using c26))
        clear c26
        replace H := Option.bind_eq_some_iff.mp H
        obtain ⟨t207, A1410, H⟩ := H
        replace H : (if t207 = true then (if t190 = (IntKind.u64.wrap (a0 - a1)) then (if x9_3 = true then (some false) else (some false)) else (some false)) else (some false)) = some r := H
        have A141 := Aside0.mk A1410
        clear A1410
        by_cases c142 : t207 = true
        · subst c142
          have H1 : (if t190 = (IntKind.u64.wrap (a0 - a1)) then (if x9_3 = true then (some false) else (some false)) else (some false)) = some r := by rw [if_pos rfl] at H; exact H
          clear H
          have H := H1
          clear H1
          by_cases c143 : t190 = (IntKind.u64.wrap (a0 - a1))
          · rw [if_pos c143] at H
            have c143b0 : (t190 == (IntKind.u64.wrap (a0 - a1))) = true := beq_iff_eq.mpr c143
            have c143b1 : (t190 != (IntKind.u64.wrap (a0 - a1))) = false := bne_eq_false_iff_eq.mpr c143
            clear c143
            by_cases c144 : x9_3 = true
            · subst c144
              have H1 : (some false) = some r := by rw [if_pos rfl] at H; exact H
              clear H
              have H := H1
              clear H1
              obtain rfl := Option.some.inj H
              have hcz145_0 : wc.cell? ⟨gb195, 0, none⟩ = some (.bool t191) := (blk_cell BK195.out 0).trans rfl
              have hcz145_1 : wc.cell? ⟨gb195, 1, none⟩ = some (.bool t192) := (blk_cell BK195.out 1).trans rfl
              have hcz145_2 : wc.cell? ⟨gb195, 2, none⟩ = some (.bool t193) := (blk_cell BK195.out 2).trans rfl
              have hcz145_3 : wc.cell? ⟨gb195, 3, none⟩ = some (.bool t194) := (blk_cell BK195.out 3).trans rfl
              have hfz145_0 := blk_frozen BK195.out 0
              have hfz145_1 := blk_frozen BK195.out 1
              have hfz145_2 := blk_frozen BK195.out 2
              have hfz145_3 := blk_frozen BK195.out 3
              go_wp2_with (first | ((with_reducible refine gate_callee (f := 25) rfl ?_); refine goesL_ (some 44) rfl rfl Try.func25 (by kernel_rfl) rfl #[.int .i64 10, .agg #[.bool t191, .bool t192, .bool t193, .bool t194]] rfl (by (try simp only [List.map_toArray, List.map_cons, List.map_nil]); first | done | rfl | (simp only [List.length_drop, List.length_take]; rfl)) ?_; (with_reducible refine (cleatlaw03_holds.calls 10 t191 t192 t193 t194 t199 _ A25.out).mono ?_); rintro e w146 ⟨rfl, hb⟩; refine ⟨_, rfl, ?_⟩; have n0_ := Aside0.mk (blk_below (g := gb195) (o := .cells #[.bool t191, .bool t192, .bool t193, .bool t194] 24 (0, 0)) (by (with_reducible repeat (first | refine blk_drewN ?_ _ | refine blk_drew ?_ | refine blk_alloc ?_ _)); exact BK195.out) hb); have n1_ := Aside0.mk (below_step (by repeat (first | (with_reducible first | exact HB.out | apply below_alloc | apply pw_below_drewN | apply below_drew1 | refine below_set ?_ GE195.out) | exact HB.out)) hb); clear BK195; clear HB; have BK195 := n0_; have HB := n1_; clear n0_ n1_; (try clear hb); (try clear hb2); (try clear hk); (try clear hi)) | ((with_reducible refine gate_callee (f := 22) rfl ?_); refine goesL_ (some 73) rfl rfl Try.func22 (by kernel_rfl) rfl #[] rfl (by (try simp only [List.map_toArray, List.map_cons, List.map_nil]); first | done | rfl | (simp only [List.length_drop, List.length_take]; rfl)) ?_; (with_reducible refine (cleatlaw03_flagged.calls kj3  true _ A141.out).mono ?_); rintro e w147 ⟨rfl, hb⟩; refine ⟨_, rfl, ?_⟩; have n0_ := Aside0.mk (blk_below (g := gb195) (o := .cells #[.bool t191, .bool t192, .bool t193, .bool t194] 24 (0, 0)) (by (with_reducible repeat (first | refine blk_drewN ?_ _ | refine blk_drew ?_ | refine blk_alloc ?_ _)); exact BK195.out) hb); have n1_ := Aside0.mk (below_step (by repeat (first | (with_reducible first | exact HB.out | apply below_alloc | apply pw_below_drewN | apply below_drew1 | refine below_set ?_ GE195.out) | exact HB.out)) hb); clear BK195; clear HB; have BK195 := n0_; have HB := n1_; clear n0_ n1_; (try clear hb); (try clear hb2); (try clear hk); (try clear hi)))
              go_ret
              exact ⟨by first | rfl | (simp [errW_none, errW_some] <;> rfl) | (simp [*, errW_none, errW_some] <;> rfl), by repeat (first | (with_reducible first | exact HB.out | apply below_alloc | apply pw_below_drewN | apply below_drew1 | refine below_set ?_ GE195.out) | exact HB.out)⟩
            · replace c144 := Bool.eq_false_iff.mpr c144
              subst c144
              have H1 : (some false) = some r := by rw [if_neg (show ¬ (false = true) by decide)] at H; exact H
              clear H
              have H := H1
              clear H1
              obtain rfl := Option.some.inj H
              have hcz148_0 : wc.cell? ⟨gb195, 0, none⟩ = some (.bool t191) := (blk_cell BK195.out 0).trans rfl
              have hcz148_1 : wc.cell? ⟨gb195, 1, none⟩ = some (.bool t192) := (blk_cell BK195.out 1).trans rfl
              have hcz148_2 : wc.cell? ⟨gb195, 2, none⟩ = some (.bool t193) := (blk_cell BK195.out 2).trans rfl
              have hcz148_3 : wc.cell? ⟨gb195, 3, none⟩ = some (.bool t194) := (blk_cell BK195.out 3).trans rfl
              have hfz148_0 := blk_frozen BK195.out 0
              have hfz148_1 := blk_frozen BK195.out 1
              have hfz148_2 := blk_frozen BK195.out 2
              have hfz148_3 := blk_frozen BK195.out 3
              go_wp2_with (first | ((with_reducible refine gate_callee (f := 25) rfl ?_); refine goesL_ (some 44) rfl rfl Try.func25 (by kernel_rfl) rfl #[.int .i64 10, .agg #[.bool t191, .bool t192, .bool t193, .bool t194]] rfl (by (try simp only [List.map_toArray, List.map_cons, List.map_nil]); first | done | rfl | (simp only [List.length_drop, List.length_take]; rfl)) ?_; (with_reducible refine (cleatlaw03_holds.calls 10 t191 t192 t193 t194 t199 _ A25.out).mono ?_); rintro e w149 ⟨rfl, hb⟩; refine ⟨_, rfl, ?_⟩; have n0_ := Aside0.mk (blk_below (g := gb195) (o := .cells #[.bool t191, .bool t192, .bool t193, .bool t194] 24 (0, 0)) (by (with_reducible repeat (first | refine blk_drewN ?_ _ | refine blk_drew ?_ | refine blk_alloc ?_ _)); exact BK195.out) hb); have n1_ := Aside0.mk (below_step (by repeat (first | (with_reducible first | exact HB.out | apply below_alloc | apply pw_below_drewN | apply below_drew1 | refine below_set ?_ GE195.out) | exact HB.out)) hb); clear BK195; clear HB; have BK195 := n0_; have HB := n1_; clear n0_ n1_; (try clear hb); (try clear hb2); (try clear hk); (try clear hi)) | ((with_reducible refine gate_callee (f := 22) rfl ?_); refine goesL_ (some 73) rfl rfl Try.func22 (by kernel_rfl) rfl #[] rfl (by (try simp only [List.map_toArray, List.map_cons, List.map_nil]); first | done | rfl | (simp only [List.length_drop, List.length_take]; rfl)) ?_; (with_reducible refine (cleatlaw03_flagged.calls kj3  true _ A141.out).mono ?_); rintro e w150 ⟨rfl, hb⟩; refine ⟨_, rfl, ?_⟩; have n0_ := Aside0.mk (blk_below (g := gb195) (o := .cells #[.bool t191, .bool t192, .bool t193, .bool t194] 24 (0, 0)) (by (with_reducible repeat (first | refine blk_drewN ?_ _ | refine blk_drew ?_ | refine blk_alloc ?_ _)); exact BK195.out) hb); have n1_ := Aside0.mk (below_step (by repeat (first | (with_reducible first | exact HB.out | apply below_alloc | apply pw_below_drewN | apply below_drew1 | refine below_set ?_ GE195.out) | exact HB.out)) hb); clear BK195; clear HB; have BK195 := n0_; have HB := n1_; clear n0_ n1_; (try clear hb); (try clear hb2); (try clear hk); (try clear hi)))
              go_ret
              exact ⟨by first | rfl | (simp [errW_none, errW_some] <;> rfl) | (simp [*, errW_none, errW_some] <;> rfl), by repeat (first | (with_reducible first | exact HB.out | apply below_alloc | apply pw_below_drewN | apply below_drew1 | refine below_set ?_ GE195.out) | exact HB.out)⟩
          · rw [if_neg c143] at H
            have c143b0 : (t190 == (IntKind.u64.wrap (a0 - a1))) = false := beq_eq_false_iff_ne.mpr c143
            have c143b1 : (t190 != (IntKind.u64.wrap (a0 - a1))) = true := bne_iff_ne.mpr c143
            obtain rfl := Option.some.inj H
            have hcz151_0 : wc.cell? ⟨gb195, 0, none⟩ = some (.bool t191) := (blk_cell BK195.out 0).trans rfl
            have hcz151_1 : wc.cell? ⟨gb195, 1, none⟩ = some (.bool t192) := (blk_cell BK195.out 1).trans rfl
            have hcz151_2 : wc.cell? ⟨gb195, 2, none⟩ = some (.bool t193) := (blk_cell BK195.out 2).trans rfl
            have hcz151_3 : wc.cell? ⟨gb195, 3, none⟩ = some (.bool t194) := (blk_cell BK195.out 3).trans rfl
            have hfz151_0 := blk_frozen BK195.out 0
            have hfz151_1 := blk_frozen BK195.out 1
            have hfz151_2 := blk_frozen BK195.out 2
            have hfz151_3 := blk_frozen BK195.out 3
            go_wp2_with (first | ((with_reducible refine gate_callee (f := 25) rfl ?_); refine goesL_ (some 44) rfl rfl Try.func25 (by kernel_rfl) rfl #[.int .i64 10, .agg #[.bool t191, .bool t192, .bool t193, .bool t194]] rfl (by (try simp only [List.map_toArray, List.map_cons, List.map_nil]); first | done | rfl | (simp only [List.length_drop, List.length_take]; rfl)) ?_; (with_reducible refine (cleatlaw03_holds.calls 10 t191 t192 t193 t194 t199 _ A25.out).mono ?_); rintro e w152 ⟨rfl, hb⟩; refine ⟨_, rfl, ?_⟩; have n0_ := Aside0.mk (blk_below (g := gb195) (o := .cells #[.bool t191, .bool t192, .bool t193, .bool t194] 24 (0, 0)) (by (with_reducible repeat (first | refine blk_drewN ?_ _ | refine blk_drew ?_ | refine blk_alloc ?_ _)); exact BK195.out) hb); have n1_ := Aside0.mk (below_step (by repeat (first | (with_reducible first | exact HB.out | apply below_alloc | apply pw_below_drewN | apply below_drew1 | refine below_set ?_ GE195.out) | exact HB.out)) hb); clear BK195; clear HB; have BK195 := n0_; have HB := n1_; clear n0_ n1_; (try clear hb); (try clear hb2); (try clear hk); (try clear hi)) | ((with_reducible refine gate_callee (f := 22) rfl ?_); refine goesL_ (some 73) rfl rfl Try.func22 (by kernel_rfl) rfl #[] rfl (by (try simp only [List.map_toArray, List.map_cons, List.map_nil]); first | done | rfl | (simp only [List.length_drop, List.length_take]; rfl)) ?_; (with_reducible refine (cleatlaw03_flagged.calls kj3  true _ A141.out).mono ?_); rintro e w153 ⟨rfl, hb⟩; refine ⟨_, rfl, ?_⟩; have n0_ := Aside0.mk (blk_below (g := gb195) (o := .cells #[.bool t191, .bool t192, .bool t193, .bool t194] 24 (0, 0)) (by (with_reducible repeat (first | refine blk_drewN ?_ _ | refine blk_drew ?_ | refine blk_alloc ?_ _)); exact BK195.out) hb); have n1_ := Aside0.mk (below_step (by repeat (first | (with_reducible first | exact HB.out | apply below_alloc | apply pw_below_drewN | apply below_drew1 | refine below_set ?_ GE195.out) | exact HB.out)) hb); clear BK195; clear HB; have BK195 := n0_; have HB := n1_; clear n0_ n1_; (try clear hb); (try clear hb2); (try clear hk); (try clear hi)))
            go_ret
            exact ⟨by first | rfl | (simp [errW_none, errW_some] <;> rfl) | (simp [*, errW_none, errW_some] <;> rfl), by repeat (first | (with_reducible first | exact HB.out | apply below_alloc | apply pw_below_drewN | apply below_drew1 | refine below_set ?_ GE195.out) | exact HB.out)⟩
        · replace c142 := Bool.eq_false_iff.mpr c142
          subst c142
          have H1 : (some false) = some r := by rw [if_neg (show ¬ (false = true) by decide)] at H; exact H
          clear H
          have H := H1
          clear H1
          obtain rfl := Option.some.inj H
          have hcz154_0 : wc.cell? ⟨gb195, 0, none⟩ = some (.bool t191) := (blk_cell BK195.out 0).trans rfl
          have hcz154_1 : wc.cell? ⟨gb195, 1, none⟩ = some (.bool t192) := (blk_cell BK195.out 1).trans rfl
          have hcz154_2 : wc.cell? ⟨gb195, 2, none⟩ = some (.bool t193) := (blk_cell BK195.out 2).trans rfl
          have hcz154_3 : wc.cell? ⟨gb195, 3, none⟩ = some (.bool t194) := (blk_cell BK195.out 3).trans rfl
          have hfz154_0 := blk_frozen BK195.out 0
          have hfz154_1 := blk_frozen BK195.out 1
          have hfz154_2 := blk_frozen BK195.out 2
          have hfz154_3 := blk_frozen BK195.out 3
          go_wp2_with (first | ((with_reducible refine gate_callee (f := 25) rfl ?_); refine goesL_ (some 44) rfl rfl Try.func25 (by kernel_rfl) rfl #[.int .i64 10, .agg #[.bool t191, .bool t192, .bool t193, .bool t194]] rfl (by (try simp only [List.map_toArray, List.map_cons, List.map_nil]); first | done | rfl | (simp only [List.length_drop, List.length_take]; rfl)) ?_; (with_reducible refine (cleatlaw03_holds.calls 10 t191 t192 t193 t194 t199 _ A25.out).mono ?_); rintro e w155 ⟨rfl, hb⟩; refine ⟨_, rfl, ?_⟩; have n0_ := Aside0.mk (blk_below (g := gb195) (o := .cells #[.bool t191, .bool t192, .bool t193, .bool t194] 24 (0, 0)) (by (with_reducible repeat (first | refine blk_drewN ?_ _ | refine blk_drew ?_ | refine blk_alloc ?_ _)); exact BK195.out) hb); have n1_ := Aside0.mk (below_step (by repeat (first | (with_reducible first | exact HB.out | apply below_alloc | apply pw_below_drewN | apply below_drew1 | refine below_set ?_ GE195.out) | exact HB.out)) hb); clear BK195; clear HB; have BK195 := n0_; have HB := n1_; clear n0_ n1_; (try clear hb); (try clear hb2); (try clear hk); (try clear hi)) | ((with_reducible refine gate_callee (f := 22) rfl ?_); refine goesL_ (some 73) rfl rfl Try.func22 (by kernel_rfl) rfl #[] rfl (by (try simp only [List.map_toArray, List.map_cons, List.map_nil]); first | done | rfl | (simp only [List.length_drop, List.length_take]; rfl)) ?_; (with_reducible refine (cleatlaw03_flagged.calls kj3  false _ A141.out).mono ?_); rintro e w156 ⟨rfl, hb⟩; refine ⟨_, rfl, ?_⟩; have n0_ := Aside0.mk (blk_below (g := gb195) (o := .cells #[.bool t191, .bool t192, .bool t193, .bool t194] 24 (0, 0)) (by (with_reducible repeat (first | refine blk_drewN ?_ _ | refine blk_drew ?_ | refine blk_alloc ?_ _)); exact BK195.out) hb); have n1_ := Aside0.mk (below_step (by repeat (first | (with_reducible first | exact HB.out | apply below_alloc | apply pw_below_drewN | apply below_drew1 | refine below_set ?_ GE195.out) | exact HB.out)) hb); clear BK195; clear HB; have BK195 := n0_; have HB := n1_; clear n0_ n1_; (try clear hb); (try clear hb2); (try clear hk); (try clear hi)))
          go_ret
          exact ⟨by first | rfl | (simp [errW_none, errW_some] <;> rfl) | (simp [*, errW_none, errW_some] <;> rfl), by repeat (first | (with_reducible first | exact HB.out | apply below_alloc | apply pw_below_drewN | apply below_drew1 | refine below_set ?_ GE195.out) | exact HB.out)⟩

/-- THE ONE PURE STATEMENT of cleatlaw03_FlagOrder: yours. -/
def cleatlaw03_FlagOrder.Pure : Prop := ∀ (a0 : Int) (a1 : Int), (Lit.int .u64 a0).wf = true → (Lit.int .u64 a1).wf = true → ∃ k, cleatlaw03_FlagOrder.f k a0 a1 = some true
theorem cleatlaw03_FlagOrder.walk (P : cleatlaw03_FlagOrder.Pure) (a0 : Int) (a1 : Int) (w : World) (w0 : (Lit.int .u64 a0).wf = true) (w1 : (Lit.int .u64 a1).wf = true) :
    Calls Try.prog 4 #[.int .u64 a0, .int .u64 a1] w fun e w' => e = .returned (.bool true) ∧ Below w.heap.size w w' := by
  obtain ⟨k, h⟩ := P a0 a1 w0 w1
  refine (cleatlaw03_FlagOrder.calls k a0 a1 true w h).mono ?_
  rintro e w' ⟨rfl, hd⟩
  exact ⟨rfl, hd⟩

/-! ### cleatlaw03_FlagTwo: function 5 -/
def cleatlaw03_FlagTwo.j0 : Nat → Int → Bool → Int → Bool → Bool → Bool → Bool → Bool → Option (Bool)
  | 0, _, _, _, _, _, _, _, _ => none
  | k + 1, x0, x5, x6, x21, x209000, x209001, x209002, x209003 => if x21 = true then ((cleatlaw03_flagged.f k).bind fun t211 => (if t211 = true then (if x6 = 1 then (some (!x5)) else (some false)) else (some false))) else ((flag_Holds.f (wrap64 ((wrap64 (x0 + 1)) - (wrap64 (2 * (Int.tmod x0 2))))) x209000 x209001 x209002 x209003).bind fun bt212 => ((cleatlaw03_flagged.f k).bind fun t214 => (if t214 = true then (if x6 = 0 then (if bt212.2 = 0 then (some (x5 != bt212.1)) else (some false)) else (some false)) else (some false))))
def cleatlaw03_FlagTwo.f (k : Nat) (a0 : Int) (a1_0 : Bool) (a1_1 : Bool) (a1_2 : Bool) (a1_3 : Bool) : Option (Bool) := (flag_Holds.f a0 a1_0 a1_1 a1_2 a1_3).bind fun bt209 => (if a0 < 0 then (cleatlaw03_FlagTwo.j0 k a0 bt209.1 bt209.2 true a1_0 a1_1 a1_2 a1_3) else (cleatlaw03_FlagTwo.j0 k a0 bt209.1 bt209.2 (decide (a0 > 13)) a1_0 a1_1 a1_2 a1_3))
theorem cleatlaw03_FlagTwo.mono_l : ∀ k, (∀ y0 y1 y2 y3 y4 y5 y6 y7, LeO (cleatlaw03_FlagTwo.j0 k y0 y1 y2 y3 y4 y5 y6 y7) (cleatlaw03_FlagTwo.j0 (k + 1) y0 y1 y2 y3 y4 y5 y6 y7))
  | 0 => fun _ _ _ _ _ _ _ _ r h => by simp [cleatlaw03_FlagTwo.j0] at h
  | k + 1 => by
    have ih0 := cleatlaw03_FlagTwo.mono_l k
    · intro y0 y1 y2 y3 y4 y5 y6 y7
      unfold cleatlaw03_FlagTwo.j0
      repeat' first
      | (with_reducible exact ih0 _ _ _ _ _ _ _ _)
      | (with_reducible exact cleatlaw03_flagged.mono _)
      | (with_reducible exact LeO.refl _)
      | (with_reducible exact LeO.none _)
      | (with_reducible refine LeO.ite ?_ ?_)
      | (with_reducible refine LeO.bind ?_ (fun _ => ?_))
      | exact ih0 _ _ _ _ _ _ _ _
      | exact cleatlaw03_flagged.mono _
      | exact LeO.none _
      | refine LeO.ite ?_ ?_
      | refine LeO.bind ?_ (fun _ => ?_)
theorem cleatlaw03_FlagTwo.mono : ∀ a0 a1 a2 a3 a4 k, LeO (cleatlaw03_FlagTwo.f k a0 a1 a2 a3 a4) (cleatlaw03_FlagTwo.f (k + 1) a0 a1 a2 a3 a4) := by
  intro a0 a1 a2 a3 a4 k
  have ih0 := cleatlaw03_FlagTwo.mono_l k
  unfold cleatlaw03_FlagTwo.f
  repeat' first
      | (with_reducible exact ih0 _ _ _ _ _ _ _ _)
      | (with_reducible exact cleatlaw03_flagged.mono _)
      | (with_reducible exact LeO.refl _)
      | (with_reducible exact LeO.none _)
      | (with_reducible refine LeO.ite ?_ ?_)
      | (with_reducible refine LeO.bind ?_ (fun _ => ?_))
      | exact ih0 _ _ _ _ _ _ _ _
      | exact cleatlaw03_flagged.mono _
      | exact LeO.none _
      | refine LeO.ite ?_ ?_
      | refine LeO.bind ?_ (fun _ => ?_)
set_option maxHeartbeats 8000000 in
set_option maxRecDepth 100000 in
theorem cleatlaw03_FlagTwo.calls (k : Nat) (a0 : Int) (a1_0 : Bool) (a1_1 : Bool) (a1_2 : Bool) (a1_3 : Bool) (r : Bool) (w : World) (h : cleatlaw03_FlagTwo.f k a0 a1_0 a1_1 a1_2 a1_3 = some r) :
    Calls Try.prog 5 #[.int .i64 a0, .agg #[.bool a1_0, .bool a1_1, .bool a1_2, .bool a1_3]] w fun e w' => e = .returned (.bool r) ∧ Below w.heap.size w w' := by
  have hu24 := Try.underlying24
  have HB := Aside0.mk (Below.refl w.heap.size w)
  have H : ((flag_Holds.f a0 a1_0 a1_1 a1_2 a1_3).bind fun bt209 => (if a0 < 0 then (cleatlaw03_FlagTwo.j0 k a0 bt209.1 bt209.2 true a1_0 a1_1 a1_2 a1_3) else (cleatlaw03_FlagTwo.j0 k a0 bt209.1 bt209.2 (decide (a0 > 13)) a1_0 a1_1 a1_2 a1_3))) = some r := h
  clear h
  replace H := Option.bind_eq_some_iff.mp H
  obtain ⟨⟨t209, t210⟩, A30, H⟩ := H
  replace H : (if a0 < 0 then (cleatlaw03_FlagTwo.j0 k a0 t209 t210 true a1_0 a1_1 a1_2 a1_3) else (cleatlaw03_FlagTwo.j0 k a0 t209 t210 (decide (a0 > 13)) a1_0 a1_1 a1_2 a1_3)) = some r := H
  have A3 := Aside0.mk A30
  clear A30
  have HC4 := Aside0.mk H
  clear H
  go_enter Try.func5, Try.ntmps5
  go_upto_region 2 with (first | ((with_reducible refine gate_dst (N := 3) rfl ?_); refine box_event ?hg (N := 3) ?hd (cs := #[.bool a1_0, .bool a1_1, .bool a1_2, .bool a1_3]) (t := 24) ?hr ?_; (case hd => rfl); (case hg => rfl); (case hr => first | (go_simp; done) | (go_simp; rfl)); intro gb208 hg w5 hbox hb; have n0_ := Aside0.mk (below_step (by repeat (first | (with_reducible first | exact HB.out | apply below_alloc | apply pw_below_drewN | apply below_drew1) | exact HB.out)) hb); have n1_ := Aside0.mk (hbox); have n2_ := Aside0.mk ((by rw [hg]; exact (below_size (by repeat (first | (with_reducible first | exact HB.out | apply below_alloc | apply pw_below_drewN | apply below_drew1) | exact HB.out))) : w.heap.size ≤ gb208)); have n3_ := Aside0.mk ((by rw [hg]; exact (below_size (by repeat (first | (with_reducible first | exact HB.out | apply below_alloc | apply pw_below_drewN | apply below_drew1) | exact HB.out))) : w.heap.size ≤ gb208)); clear HB; have HB := n0_; have BK208 := n1_; have GW208 := n2_; have GE208 := n3_; clear n0_ n1_ n2_ n3_; clear hb hbox hg; have hcz6_0 : w5.cell? ⟨gb208, 0, none⟩ = some (.bool a1_0) := (blk_cell BK208.out 0).trans rfl; have hcz6_1 : w5.cell? ⟨gb208, 1, none⟩ = some (.bool a1_1) := (blk_cell BK208.out 1).trans rfl; have hcz6_2 : w5.cell? ⟨gb208, 2, none⟩ = some (.bool a1_2) := (blk_cell BK208.out 2).trans rfl; have hcz6_3 : w5.cell? ⟨gb208, 3, none⟩ = some (.bool a1_3) := (blk_cell BK208.out 3).trans rfl; have hfz6_0 := blk_frozen BK208.out 0; have hfz6_1 := blk_frozen BK208.out 1; have hfz6_2 := blk_frozen BK208.out 2; have hfz6_3 := blk_frozen BK208.out 3) | ((with_reducible refine gate_callee (f := 18) rfl ?_); refine goesL_ (some 13) rfl rfl Try.func18 (by kernel_rfl) rfl #[.int .i64 a0, .agg #[.bool a1_0, .bool a1_1, .bool a1_2, .bool a1_3]] rfl (by (try simp only [List.map_toArray, List.map_cons, List.map_nil]); first | done | rfl | (simp only [List.length_drop, List.length_take]; rfl)) ?_; (with_reducible refine (flag_Holds.calls a0 a1_0 a1_1 a1_2 a1_3 t209 t210 _ A3.out).mono ?_); rintro e w7 ⟨rfl, hb⟩; refine ⟨_, rfl, ?_⟩; have n0_ := Aside0.mk (blk_below (g := gb208) (o := .cells #[.bool a1_0, .bool a1_1, .bool a1_2, .bool a1_3] 24 (0, 0)) (by (with_reducible repeat (first | refine blk_drewN ?_ _ | refine blk_drew ?_ | refine blk_alloc ?_ _)); exact BK208.out) hb); have n1_ := Aside0.mk (below_step (by repeat (first | (with_reducible first | exact HB.out | apply below_alloc | apply pw_below_drewN | apply below_drew1 | refine below_set ?_ GE208.out) | exact HB.out)) hb); clear BK208; clear HB; have BK208 := n0_; have HB := n1_; clear n0_ n1_; (try clear hb); (try clear hb2); (try clear hk); (try clear hi)))
  (try simp only [Act.put, List.setIfInBounds_toArray, List.set_cons_zero, List.set_cons_succ])
  go_cut [21] (fun v21 wc => ∃ (kq : Nat) (x21_3 : Bool), v21 = .bool x21_3 ∧ Aside0 (cleatlaw03_FlagTwo.j0 kq a0 t209 t210 x21_3 a1_0 a1_1 a1_2 a1_3 = some r) ∧ Aside0 (kq ≤ k) ∧ Aside0 (wc.heap[gb208]? = some (.cells #[.bool a1_0, .bool a1_1, .bool a1_2, .bool a1_3] 24 (0, 0))) ∧ Aside0 (Below w.heap.size w wc))
  case first =>
    have H := HC4.out
    clear HC4
    by_cases c8 : a0 < 0
    · rw [if_pos c8] at H
      have c8b0 : decide (a0 < 0) = true := decide_eq_true c8
      clear c8
      (first | rw [c8b0] | (simp only [i64_w, i32_w]; rw [c8b0]) | skip)
      have H' := Aside0.mk H
      clear H
      go_wp2
      go_meet
      case rel => exact ⟨_, (true), (by first | rfl | (simp; done) | (simp [*]; done)), H', ⟨by first | omega | exact Nat.le_refl _⟩, ⟨by (with_reducible repeat (first | refine blk_drewN ?_ _ | refine blk_drew ?_ | refine blk_alloc ?_ _)); exact BK208.out⟩, ⟨by repeat (first | (with_reducible first | exact HB.out | apply below_alloc | apply pw_below_drewN | apply below_drew1 | refine below_set ?_ GE208.out) | exact HB.out)⟩⟩
    · rw [if_neg c8] at H
      have c8b0 : decide (a0 < 0) = false := decide_eq_false c8
      clear c8
      (first | rw [c8b0] | (simp only [i64_w, i32_w]; rw [c8b0]) | skip)
      have H' := Aside0.mk H
      clear H
      go_wp2
      go_meet
      case rel => exact ⟨_, (decide (a0 > 13)), (by first | rfl | (simp; done) | (simp [*]; done)), H', ⟨by first | omega | exact Nat.le_refl _⟩, ⟨by (with_reducible repeat (first | refine blk_drewN ?_ _ | refine blk_drew ?_ | refine blk_alloc ?_ _)); exact BK208.out⟩, ⟨by repeat (first | (with_reducible first | exact HB.out | apply below_alloc | apply pw_below_drewN | apply below_drew1 | refine below_set ?_ GE208.out) | exact HB.out)⟩⟩
  case rest =>
    clear HC4
    try clear c1
    try clear p2
    try clear c5
    try clear c8
    try clear c8b0
    try clear hcz6_0
    try clear hcz6_1
    try clear hcz6_2
    try clear hcz6_3
    try clear hfz6_0
    try clear hfz6_1
    try clear hfz6_2
    try clear hfz6_3
    obtain ⟨kq, x21_3, rfl, HA, HJ3, BK208, HB⟩ := hcut
    cases kq with
    | zero => exact absurd HA.out (by simp [cleatlaw03_FlagTwo.j0])
    | succ kj3 =>
      have H := HA.out
      clear HA
      simp only [cleatlaw03_FlagTwo.j0] at H
      by_cases c9 : x21_3 = true
      · subst c9
        have H1 : ((cleatlaw03_flagged.f kj3).bind fun t211 => (if t211 = true then (if t210 = 1 then (some (!t209)) else (some false)) else (some false))) = some r := by rw [if_pos rfl] at H; exact H
        clear H
        have H := H1
        clear H1
        replace H := Option.bind_eq_some_iff.mp H
        obtain ⟨t211, A100, H⟩ := H
        replace H : (if t211 = true then (if t210 = 1 then (some (!t209)) else (some false)) else (some false)) = some r := H
        have A10 := Aside0.mk A100
        clear A100
        by_cases c11 : t211 = true
        · subst c11
          have H1 : (if t210 = 1 then (some (!t209)) else (some false)) = some r := by rw [if_pos rfl] at H; exact H
          clear H
          have H := H1
          clear H1
          by_cases c12 : t210 = 1
          · rw [if_pos c12] at H
            have c12b0 : (t210 == 1) = true := beq_iff_eq.mpr c12
            have c12b1 : (t210 != 1) = false := bne_eq_false_iff_eq.mpr c12
            clear c12
            obtain rfl := Option.some.inj H
            go_wp2_with (first | ((with_reducible refine gate_callee (f := 22) rfl ?_); refine goesL_ (some 22) rfl rfl Try.func22 (by kernel_rfl) rfl #[] rfl (by (try simp only [List.map_toArray, List.map_cons, List.map_nil]); first | done | rfl | (simp only [List.length_drop, List.length_take]; rfl)) ?_; (with_reducible refine (cleatlaw03_flagged.calls kj3  true _ A10.out).mono ?_); rintro e w13 ⟨rfl, hb⟩; refine ⟨_, rfl, ?_⟩; have n0_ := Aside0.mk (blk_below (g := gb208) (o := .cells #[.bool a1_0, .bool a1_1, .bool a1_2, .bool a1_3] 24 (0, 0)) (by (with_reducible repeat (first | refine blk_drewN ?_ _ | refine blk_drew ?_ | refine blk_alloc ?_ _)); exact BK208.out) hb); have n1_ := Aside0.mk (below_step (by repeat (first | (with_reducible first | exact HB.out | apply below_alloc | apply pw_below_drewN | apply below_drew1 | refine below_set ?_ GE208.out) | exact HB.out)) hb); clear BK208; clear HB; have BK208 := n0_; have HB := n1_; clear n0_ n1_; (try clear hb); (try clear hb2); (try clear hk); (try clear hi)))
            go_ret
            exact ⟨by first | rfl | (simp [errW_none, errW_some] <;> rfl) | (simp [*, errW_none, errW_some] <;> rfl), by repeat (first | (with_reducible first | exact HB.out | apply below_alloc | apply pw_below_drewN | apply below_drew1 | refine below_set ?_ GE208.out) | exact HB.out)⟩
          · rw [if_neg c12] at H
            have c12b0 : (t210 == 1) = false := beq_eq_false_iff_ne.mpr c12
            have c12b1 : (t210 != 1) = true := bne_iff_ne.mpr c12
            obtain rfl := Option.some.inj H
            go_wp2_with (first | ((with_reducible refine gate_callee (f := 22) rfl ?_); refine goesL_ (some 22) rfl rfl Try.func22 (by kernel_rfl) rfl #[] rfl (by (try simp only [List.map_toArray, List.map_cons, List.map_nil]); first | done | rfl | (simp only [List.length_drop, List.length_take]; rfl)) ?_; (with_reducible refine (cleatlaw03_flagged.calls kj3  true _ A10.out).mono ?_); rintro e w14 ⟨rfl, hb⟩; refine ⟨_, rfl, ?_⟩; have n0_ := Aside0.mk (blk_below (g := gb208) (o := .cells #[.bool a1_0, .bool a1_1, .bool a1_2, .bool a1_3] 24 (0, 0)) (by (with_reducible repeat (first | refine blk_drewN ?_ _ | refine blk_drew ?_ | refine blk_alloc ?_ _)); exact BK208.out) hb); have n1_ := Aside0.mk (below_step (by repeat (first | (with_reducible first | exact HB.out | apply below_alloc | apply pw_below_drewN | apply below_drew1 | refine below_set ?_ GE208.out) | exact HB.out)) hb); clear BK208; clear HB; have BK208 := n0_; have HB := n1_; clear n0_ n1_; (try clear hb); (try clear hb2); (try clear hk); (try clear hi)))
            go_ret
            exact ⟨by first | rfl | (simp [errW_none, errW_some] <;> rfl) | (simp [*, errW_none, errW_some] <;> rfl), by repeat (first | (with_reducible first | exact HB.out | apply below_alloc | apply pw_below_drewN | apply below_drew1 | refine below_set ?_ GE208.out) | exact HB.out)⟩
        · replace c11 := Bool.eq_false_iff.mpr c11
          subst c11
          have H1 : (some false) = some r := by rw [if_neg (show ¬ (false = true) by decide)] at H; exact H
          clear H
          have H := H1
          clear H1
          obtain rfl := Option.some.inj H
          go_wp2_with (first | ((with_reducible refine gate_callee (f := 22) rfl ?_); refine goesL_ (some 22) rfl rfl Try.func22 (by kernel_rfl) rfl #[] rfl (by (try simp only [List.map_toArray, List.map_cons, List.map_nil]); first | done | rfl | (simp only [List.length_drop, List.length_take]; rfl)) ?_; (with_reducible refine (cleatlaw03_flagged.calls kj3  false _ A10.out).mono ?_); rintro e w15 ⟨rfl, hb⟩; refine ⟨_, rfl, ?_⟩; have n0_ := Aside0.mk (blk_below (g := gb208) (o := .cells #[.bool a1_0, .bool a1_1, .bool a1_2, .bool a1_3] 24 (0, 0)) (by (with_reducible repeat (first | refine blk_drewN ?_ _ | refine blk_drew ?_ | refine blk_alloc ?_ _)); exact BK208.out) hb); have n1_ := Aside0.mk (below_step (by repeat (first | (with_reducible first | exact HB.out | apply below_alloc | apply pw_below_drewN | apply below_drew1 | refine below_set ?_ GE208.out) | exact HB.out)) hb); clear BK208; clear HB; have BK208 := n0_; have HB := n1_; clear n0_ n1_; (try clear hb); (try clear hb2); (try clear hk); (try clear hi)))
          go_ret
          exact ⟨by first | rfl | (simp [errW_none, errW_some] <;> rfl) | (simp [*, errW_none, errW_some] <;> rfl), by repeat (first | (with_reducible first | exact HB.out | apply below_alloc | apply pw_below_drewN | apply below_drew1 | refine below_set ?_ GE208.out) | exact HB.out)⟩
      · replace c9 := Bool.eq_false_iff.mpr c9
        subst c9
        have H1 : ((flag_Holds.f (wrap64 ((wrap64 (a0 + 1)) - (wrap64 (2 * (Int.tmod a0 2))))) a1_0 a1_1 a1_2 a1_3).bind fun bt212 => ((cleatlaw03_flagged.f kj3).bind fun t214 => (if t214 = true then (if t210 = 0 then (if bt212.2 = 0 then (some (t209 != bt212.1)) else (some false)) else (some false)) else (some false)))) = some r := by rw [if_neg (show ¬ (false = true) by decide)] at H; exact H
        clear H
        have H := H1
        clear H1
        replace H := Option.bind_eq_some_iff.mp H
        obtain ⟨⟨t212, t213⟩, A160, H⟩ := H
        replace H : ((cleatlaw03_flagged.f kj3).bind fun t214 => (if t214 = true then (if t210 = 0 then (if t213 = 0 then (some (t209 != t212)) else (some false)) else (some false)) else (some false))) = some r := H
        have A16 := Aside0.mk A160
        clear A160
        replace H := Option.bind_eq_some_iff.mp H
        obtain ⟨t214, A170, H⟩ := H
        replace H : (if t214 = true then (if t210 = 0 then (if t213 = 0 then (some (t209 != t212)) else (some false)) else (some false)) else (some false)) = some r := H
        have A17 := Aside0.mk A170
        clear A170
        by_cases c18 : t214 = true
        · subst c18
          have H1 : (if t210 = 0 then (if t213 = 0 then (some (t209 != t212)) else (some false)) else (some false)) = some r := by rw [if_pos rfl] at H; exact H
          clear H
          have H := H1
          clear H1
          by_cases c19 : t210 = 0
          · rw [if_pos c19] at H
            have c19b0 : (t210 == 0) = true := beq_iff_eq.mpr c19
            have c19b1 : (t210 != 0) = false := bne_eq_false_iff_eq.mpr c19
            clear c19
            by_cases c20 : t213 = 0
            · rw [if_pos c20] at H
              have c20b0 : (t213 == 0) = true := beq_iff_eq.mpr c20
              have c20b1 : (t213 != 0) = false := bne_eq_false_iff_eq.mpr c20
              clear c20
              obtain rfl := Option.some.inj H
              have hcz21_0 : wc.cell? ⟨gb208, 0, none⟩ = some (.bool a1_0) := (blk_cell BK208.out 0).trans rfl
              have hcz21_1 : wc.cell? ⟨gb208, 1, none⟩ = some (.bool a1_1) := (blk_cell BK208.out 1).trans rfl
              have hcz21_2 : wc.cell? ⟨gb208, 2, none⟩ = some (.bool a1_2) := (blk_cell BK208.out 2).trans rfl
              have hcz21_3 : wc.cell? ⟨gb208, 3, none⟩ = some (.bool a1_3) := (blk_cell BK208.out 3).trans rfl
              have hfz21_0 := blk_frozen BK208.out 0
              have hfz21_1 := blk_frozen BK208.out 1
              have hfz21_2 := blk_frozen BK208.out 2
              have hfz21_3 := blk_frozen BK208.out 3
              go_wp2_with (first | ((with_reducible refine gate_callee (f := 18) rfl ?_); refine goesL_ (some 40) rfl rfl Try.func18 (by kernel_rfl) rfl #[.int .i64 (wrap64 ((wrap64 (a0 + 1)) - (wrap64 (2 * (Int.tmod a0 2))))), .agg #[.bool a1_0, .bool a1_1, .bool a1_2, .bool a1_3]] rfl (by (try simp only [List.map_toArray, List.map_cons, List.map_nil]); first | done | rfl | (simp only [List.length_drop, List.length_take]; rfl)) ?_; (with_reducible refine (flag_Holds.calls (wrap64 ((wrap64 (a0 + 1)) - (wrap64 (2 * (Int.tmod a0 2))))) a1_0 a1_1 a1_2 a1_3 t212 t213 _ A16.out).mono ?_); rintro e w22 ⟨rfl, hb⟩; refine ⟨_, rfl, ?_⟩; have n0_ := Aside0.mk (blk_below (g := gb208) (o := .cells #[.bool a1_0, .bool a1_1, .bool a1_2, .bool a1_3] 24 (0, 0)) (by (with_reducible repeat (first | refine blk_drewN ?_ _ | refine blk_drew ?_ | refine blk_alloc ?_ _)); exact BK208.out) hb); have n1_ := Aside0.mk (below_step (by repeat (first | (with_reducible first | exact HB.out | apply below_alloc | apply pw_below_drewN | apply below_drew1 | refine below_set ?_ GE208.out) | exact HB.out)) hb); clear BK208; clear HB; have BK208 := n0_; have HB := n1_; clear n0_ n1_; (try clear hb); (try clear hb2); (try clear hk); (try clear hi)) | ((with_reducible refine gate_callee (f := 22) rfl ?_); refine goesL_ (some 43) rfl rfl Try.func22 (by kernel_rfl) rfl #[] rfl (by (try simp only [List.map_toArray, List.map_cons, List.map_nil]); first | done | rfl | (simp only [List.length_drop, List.length_take]; rfl)) ?_; (with_reducible refine (cleatlaw03_flagged.calls kj3  true _ A17.out).mono ?_); rintro e w23 ⟨rfl, hb⟩; refine ⟨_, rfl, ?_⟩; have n0_ := Aside0.mk (blk_below (g := gb208) (o := .cells #[.bool a1_0, .bool a1_1, .bool a1_2, .bool a1_3] 24 (0, 0)) (by (with_reducible repeat (first | refine blk_drewN ?_ _ | refine blk_drew ?_ | refine blk_alloc ?_ _)); exact BK208.out) hb); have n1_ := Aside0.mk (below_step (by repeat (first | (with_reducible first | exact HB.out | apply below_alloc | apply pw_below_drewN | apply below_drew1 | refine below_set ?_ GE208.out) | exact HB.out)) hb); clear BK208; clear HB; have BK208 := n0_; have HB := n1_; clear n0_ n1_; (try clear hb); (try clear hb2); (try clear hk); (try clear hi)))
              go_ret
              exact ⟨by first | rfl | (simp [errW_none, errW_some] <;> rfl) | (simp [*, errW_none, errW_some] <;> rfl), by repeat (first | (with_reducible first | exact HB.out | apply below_alloc | apply pw_below_drewN | apply below_drew1 | refine below_set ?_ GE208.out) | exact HB.out)⟩
            · rw [if_neg c20] at H
              have c20b0 : (t213 == 0) = false := beq_eq_false_iff_ne.mpr c20
              have c20b1 : (t213 != 0) = true := bne_iff_ne.mpr c20
              obtain rfl := Option.some.inj H
              have hcz24_0 : wc.cell? ⟨gb208, 0, none⟩ = some (.bool a1_0) := (blk_cell BK208.out 0).trans rfl
              have hcz24_1 : wc.cell? ⟨gb208, 1, none⟩ = some (.bool a1_1) := (blk_cell BK208.out 1).trans rfl
              have hcz24_2 : wc.cell? ⟨gb208, 2, none⟩ = some (.bool a1_2) := (blk_cell BK208.out 2).trans rfl
              have hcz24_3 : wc.cell? ⟨gb208, 3, none⟩ = some (.bool a1_3) := (blk_cell BK208.out 3).trans rfl
              have hfz24_0 := blk_frozen BK208.out 0
              have hfz24_1 := blk_frozen BK208.out 1
              have hfz24_2 := blk_frozen BK208.out 2
              have hfz24_3 := blk_frozen BK208.out 3
              go_wp2_with (first | ((with_reducible refine gate_callee (f := 18) rfl ?_); refine goesL_ (some 40) rfl rfl Try.func18 (by kernel_rfl) rfl #[.int .i64 (wrap64 ((wrap64 (a0 + 1)) - (wrap64 (2 * (Int.tmod a0 2))))), .agg #[.bool a1_0, .bool a1_1, .bool a1_2, .bool a1_3]] rfl (by (try simp only [List.map_toArray, List.map_cons, List.map_nil]); first | done | rfl | (simp only [List.length_drop, List.length_take]; rfl)) ?_; (with_reducible refine (flag_Holds.calls (wrap64 ((wrap64 (a0 + 1)) - (wrap64 (2 * (Int.tmod a0 2))))) a1_0 a1_1 a1_2 a1_3 t212 t213 _ A16.out).mono ?_); rintro e w25 ⟨rfl, hb⟩; refine ⟨_, rfl, ?_⟩; have n0_ := Aside0.mk (blk_below (g := gb208) (o := .cells #[.bool a1_0, .bool a1_1, .bool a1_2, .bool a1_3] 24 (0, 0)) (by (with_reducible repeat (first | refine blk_drewN ?_ _ | refine blk_drew ?_ | refine blk_alloc ?_ _)); exact BK208.out) hb); have n1_ := Aside0.mk (below_step (by repeat (first | (with_reducible first | exact HB.out | apply below_alloc | apply pw_below_drewN | apply below_drew1 | refine below_set ?_ GE208.out) | exact HB.out)) hb); clear BK208; clear HB; have BK208 := n0_; have HB := n1_; clear n0_ n1_; (try clear hb); (try clear hb2); (try clear hk); (try clear hi)) | ((with_reducible refine gate_callee (f := 22) rfl ?_); refine goesL_ (some 43) rfl rfl Try.func22 (by kernel_rfl) rfl #[] rfl (by (try simp only [List.map_toArray, List.map_cons, List.map_nil]); first | done | rfl | (simp only [List.length_drop, List.length_take]; rfl)) ?_; (with_reducible refine (cleatlaw03_flagged.calls kj3  true _ A17.out).mono ?_); rintro e w26 ⟨rfl, hb⟩; refine ⟨_, rfl, ?_⟩; have n0_ := Aside0.mk (blk_below (g := gb208) (o := .cells #[.bool a1_0, .bool a1_1, .bool a1_2, .bool a1_3] 24 (0, 0)) (by (with_reducible repeat (first | refine blk_drewN ?_ _ | refine blk_drew ?_ | refine blk_alloc ?_ _)); exact BK208.out) hb); have n1_ := Aside0.mk (below_step (by repeat (first | (with_reducible first | exact HB.out | apply below_alloc | apply pw_below_drewN | apply below_drew1 | refine below_set ?_ GE208.out) | exact HB.out)) hb); clear BK208; clear HB; have BK208 := n0_; have HB := n1_; clear n0_ n1_; (try clear hb); (try clear hb2); (try clear hk); (try clear hi)))
              go_ret
              exact ⟨by first | rfl | (simp [errW_none, errW_some] <;> rfl) | (simp [*, errW_none, errW_some] <;> rfl), by repeat (first | (with_reducible first | exact HB.out | apply below_alloc | apply pw_below_drewN | apply below_drew1 | refine below_set ?_ GE208.out) | exact HB.out)⟩
          · rw [if_neg c19] at H
            have c19b0 : (t210 == 0) = false := beq_eq_false_iff_ne.mpr c19
            have c19b1 : (t210 != 0) = true := bne_iff_ne.mpr c19
            obtain rfl := Option.some.inj H
            have hcz27_0 : wc.cell? ⟨gb208, 0, none⟩ = some (.bool a1_0) := (blk_cell BK208.out 0).trans rfl
            have hcz27_1 : wc.cell? ⟨gb208, 1, none⟩ = some (.bool a1_1) := (blk_cell BK208.out 1).trans rfl
            have hcz27_2 : wc.cell? ⟨gb208, 2, none⟩ = some (.bool a1_2) := (blk_cell BK208.out 2).trans rfl
            have hcz27_3 : wc.cell? ⟨gb208, 3, none⟩ = some (.bool a1_3) := (blk_cell BK208.out 3).trans rfl
            have hfz27_0 := blk_frozen BK208.out 0
            have hfz27_1 := blk_frozen BK208.out 1
            have hfz27_2 := blk_frozen BK208.out 2
            have hfz27_3 := blk_frozen BK208.out 3
            go_wp2_with (first | ((with_reducible refine gate_callee (f := 18) rfl ?_); refine goesL_ (some 40) rfl rfl Try.func18 (by kernel_rfl) rfl #[.int .i64 (wrap64 ((wrap64 (a0 + 1)) - (wrap64 (2 * (Int.tmod a0 2))))), .agg #[.bool a1_0, .bool a1_1, .bool a1_2, .bool a1_3]] rfl (by (try simp only [List.map_toArray, List.map_cons, List.map_nil]); first | done | rfl | (simp only [List.length_drop, List.length_take]; rfl)) ?_; (with_reducible refine (flag_Holds.calls (wrap64 ((wrap64 (a0 + 1)) - (wrap64 (2 * (Int.tmod a0 2))))) a1_0 a1_1 a1_2 a1_3 t212 t213 _ A16.out).mono ?_); rintro e w28 ⟨rfl, hb⟩; refine ⟨_, rfl, ?_⟩; have n0_ := Aside0.mk (blk_below (g := gb208) (o := .cells #[.bool a1_0, .bool a1_1, .bool a1_2, .bool a1_3] 24 (0, 0)) (by (with_reducible repeat (first | refine blk_drewN ?_ _ | refine blk_drew ?_ | refine blk_alloc ?_ _)); exact BK208.out) hb); have n1_ := Aside0.mk (below_step (by repeat (first | (with_reducible first | exact HB.out | apply below_alloc | apply pw_below_drewN | apply below_drew1 | refine below_set ?_ GE208.out) | exact HB.out)) hb); clear BK208; clear HB; have BK208 := n0_; have HB := n1_; clear n0_ n1_; (try clear hb); (try clear hb2); (try clear hk); (try clear hi)) | ((with_reducible refine gate_callee (f := 22) rfl ?_); refine goesL_ (some 43) rfl rfl Try.func22 (by kernel_rfl) rfl #[] rfl (by (try simp only [List.map_toArray, List.map_cons, List.map_nil]); first | done | rfl | (simp only [List.length_drop, List.length_take]; rfl)) ?_; (with_reducible refine (cleatlaw03_flagged.calls kj3  true _ A17.out).mono ?_); rintro e w29 ⟨rfl, hb⟩; refine ⟨_, rfl, ?_⟩; have n0_ := Aside0.mk (blk_below (g := gb208) (o := .cells #[.bool a1_0, .bool a1_1, .bool a1_2, .bool a1_3] 24 (0, 0)) (by (with_reducible repeat (first | refine blk_drewN ?_ _ | refine blk_drew ?_ | refine blk_alloc ?_ _)); exact BK208.out) hb); have n1_ := Aside0.mk (below_step (by repeat (first | (with_reducible first | exact HB.out | apply below_alloc | apply pw_below_drewN | apply below_drew1 | refine below_set ?_ GE208.out) | exact HB.out)) hb); clear BK208; clear HB; have BK208 := n0_; have HB := n1_; clear n0_ n1_; (try clear hb); (try clear hb2); (try clear hk); (try clear hi)))
            go_ret
            exact ⟨by first | rfl | (simp [errW_none, errW_some] <;> rfl) | (simp [*, errW_none, errW_some] <;> rfl), by repeat (first | (with_reducible first | exact HB.out | apply below_alloc | apply pw_below_drewN | apply below_drew1 | refine below_set ?_ GE208.out) | exact HB.out)⟩
        · replace c18 := Bool.eq_false_iff.mpr c18
          subst c18
          have H1 : (some false) = some r := by rw [if_neg (show ¬ (false = true) by decide)] at H; exact H
          clear H
          have H := H1
          clear H1
          obtain rfl := Option.some.inj H
          have hcz30_0 : wc.cell? ⟨gb208, 0, none⟩ = some (.bool a1_0) := (blk_cell BK208.out 0).trans rfl
          have hcz30_1 : wc.cell? ⟨gb208, 1, none⟩ = some (.bool a1_1) := (blk_cell BK208.out 1).trans rfl
          have hcz30_2 : wc.cell? ⟨gb208, 2, none⟩ = some (.bool a1_2) := (blk_cell BK208.out 2).trans rfl
          have hcz30_3 : wc.cell? ⟨gb208, 3, none⟩ = some (.bool a1_3) := (blk_cell BK208.out 3).trans rfl
          have hfz30_0 := blk_frozen BK208.out 0
          have hfz30_1 := blk_frozen BK208.out 1
          have hfz30_2 := blk_frozen BK208.out 2
          have hfz30_3 := blk_frozen BK208.out 3
          go_wp2_with (first | ((with_reducible refine gate_callee (f := 18) rfl ?_); refine goesL_ (some 40) rfl rfl Try.func18 (by kernel_rfl) rfl #[.int .i64 (wrap64 ((wrap64 (a0 + 1)) - (wrap64 (2 * (Int.tmod a0 2))))), .agg #[.bool a1_0, .bool a1_1, .bool a1_2, .bool a1_3]] rfl (by (try simp only [List.map_toArray, List.map_cons, List.map_nil]); first | done | rfl | (simp only [List.length_drop, List.length_take]; rfl)) ?_; (with_reducible refine (flag_Holds.calls (wrap64 ((wrap64 (a0 + 1)) - (wrap64 (2 * (Int.tmod a0 2))))) a1_0 a1_1 a1_2 a1_3 t212 t213 _ A16.out).mono ?_); rintro e w31 ⟨rfl, hb⟩; refine ⟨_, rfl, ?_⟩; have n0_ := Aside0.mk (blk_below (g := gb208) (o := .cells #[.bool a1_0, .bool a1_1, .bool a1_2, .bool a1_3] 24 (0, 0)) (by (with_reducible repeat (first | refine blk_drewN ?_ _ | refine blk_drew ?_ | refine blk_alloc ?_ _)); exact BK208.out) hb); have n1_ := Aside0.mk (below_step (by repeat (first | (with_reducible first | exact HB.out | apply below_alloc | apply pw_below_drewN | apply below_drew1 | refine below_set ?_ GE208.out) | exact HB.out)) hb); clear BK208; clear HB; have BK208 := n0_; have HB := n1_; clear n0_ n1_; (try clear hb); (try clear hb2); (try clear hk); (try clear hi)) | ((with_reducible refine gate_callee (f := 22) rfl ?_); refine goesL_ (some 43) rfl rfl Try.func22 (by kernel_rfl) rfl #[] rfl (by (try simp only [List.map_toArray, List.map_cons, List.map_nil]); first | done | rfl | (simp only [List.length_drop, List.length_take]; rfl)) ?_; (with_reducible refine (cleatlaw03_flagged.calls kj3  false _ A17.out).mono ?_); rintro e w32 ⟨rfl, hb⟩; refine ⟨_, rfl, ?_⟩; have n0_ := Aside0.mk (blk_below (g := gb208) (o := .cells #[.bool a1_0, .bool a1_1, .bool a1_2, .bool a1_3] 24 (0, 0)) (by (with_reducible repeat (first | refine blk_drewN ?_ _ | refine blk_drew ?_ | refine blk_alloc ?_ _)); exact BK208.out) hb); have n1_ := Aside0.mk (below_step (by repeat (first | (with_reducible first | exact HB.out | apply below_alloc | apply pw_below_drewN | apply below_drew1 | refine below_set ?_ GE208.out) | exact HB.out)) hb); clear BK208; clear HB; have BK208 := n0_; have HB := n1_; clear n0_ n1_; (try clear hb); (try clear hb2); (try clear hk); (try clear hi)))
          go_ret
          exact ⟨by first | rfl | (simp [errW_none, errW_some] <;> rfl) | (simp [*, errW_none, errW_some] <;> rfl), by repeat (first | (with_reducible first | exact HB.out | apply below_alloc | apply pw_below_drewN | apply below_drew1 | refine below_set ?_ GE208.out) | exact HB.out)⟩

-- NOT PRINTED: function 6 (cleatlaw03_FlagSums)

end Go.Proofs.Ytclomjndhcpmfaa.P
