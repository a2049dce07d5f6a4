/- Written for this claim by a program of this session (drive.py, over the print of the kit): Lean functions with the answers of Go functions, and the proofs that the Go code comes to these answers, under no condition but the readings of the arguments that each theorem names. -/
import Derived.Test.YtkmochnefidlmaaDoorPx0
import Derived.Test.YtkmochnefidlmaaDoorPx4
import Derived.Test.YtkmochnefidlmaaDoorPx5
namespace Go.Proofs.YtkmochnefidlmaaDoor.P
open Go.RowKit Go.Proofs.YtkmochnefidlmaaDoorW.PrintWords Go.Proofs.YtkmochnefidlmaaDoorW.PrintLast Go.Proofs.YtkmochnefidlmaaDoorW.PrintMore
attribute [local go_sem] max2_int min2_int max_two min_two max_three min_three max_four min_four   -- for this text's walks alone
set_option linter.unusedVariables false
set_option linter.unusedSimpArgs false

/-! ### alu_worker_and: function 26 -/
def alu_worker_and.f (k : Nat) (a0_0 : Int) (a0_1 : Int) (a0_2 : Int) (a0_3 : Int) (a0_4 : Int) (a0_5 : Int) (a0_6 : Int) (a0_7 : Int) (a0_8 : Int) (a0_9 : Int) (a0_10 : Int) (a0_11 : Int) (a0_12 : Int) (a0_13 : Int) (a0_14 : Bool) (a0_15 : Bool) (a0_16 : Bool) (a0_17 : Bool) : Option (Int × Bool × Bool × Bool × Bool) := (alu_worker_v.f k a0_0 a0_1 a0_2 a0_3 a0_4 a0_5 a0_6 a0_7 a0_8 a0_9 a0_10 a0_11 a0_12 a0_13 a0_14 a0_15 a0_16 a0_17).bind fun t150 => (some (Go.bits .and .u64 a0_11 t150, a0_14, a0_15, a0_16, a0_17))
theorem alu_worker_and.mono : ∀ a0 a1 a2 a3 a4 a5 a6 a7 a8 a9 a10 a11 a12 a13 a14 a15 a16 a17 k, LeO (alu_worker_and.f k a0 a1 a2 a3 a4 a5 a6 a7 a8 a9 a10 a11 a12 a13 a14 a15 a16 a17) (alu_worker_and.f (k + 1) a0 a1 a2 a3 a4 a5 a6 a7 a8 a9 a10 a11 a12 a13 a14 a15 a16 a17) := by
 intro a0 a1 a2 a3 a4 a5 a6 a7 a8 a9 a10 a11 a12 a13 a14 a15 a16 a17 k
 unfold alu_worker_and.f
 repeat' first
   | (with_reducible exact alu_worker_v.mono _ _ _ _ _ _ _ _ _ _ _ _ _ _ _ _ _ _ _)
   | (with_reducible exact LeO.refl _)
   | (with_reducible exact LeO.none _)
   | (with_reducible refine LeO.ite ?_ ?_)
   | (with_reducible refine LeO.bind ?_ (fun _ => ?_))
   | exact alu_worker_v.mono _ _ _ _ _ _ _ _ _ _ _ _ _ _ _ _ _ _ _
   | exact LeO.none _
   | refine LeO.ite ?_ ?_
   | refine LeO.bind ?_ (fun _ => ?_)
def alu_worker_and.T1 : Bool × List (List Nat × List Nat) := (true, [([], []), ([0], [0]), ([1], [1]), ([], []), ([3], [3]), ([2, 4], [2, 4]), ([], []), ([6], [6]), ([5, 4, 0, 1, 2, 3, 4, 5], [5]), ([7, 8, 0, 1, 2, 3, 4, 5, 6, 7, 8], [7])])
def alu_worker_and.B1 : List Nat := [0, 1, 3, 0, 8, 31, 0, 64, 63, 511]
theorem alu_worker_and.tab1 : rtab .any (opsOf Tryd.f26 1) = alu_worker_and.T1 := by kernel_rfl
theorem alu_worker_and.bits1 : waitsOk alu_worker_and.T1.2 alu_worker_and.B1 = true := by kernel_rfl
set_option maxHeartbeats 8000000 in
set_option maxRecDepth 100000 in
theorem alu_worker_and.calls (k : Nat) (a0_0 : Int) (a0_1 : Int) (a0_2 : Int) (a0_3 : Int) (a0_4 : Int) (a0_5 : Int) (a0_6 : Int) (a0_7 : Int) (a0_8 : Int) (a0_9 : Int) (a0_10 : Int) (a0_11 : Int) (a0_12 : Int) (a0_13 : Int) (a0_14 : Bool) (a0_15 : Bool) (a0_16 : Bool) (a0_17 : Bool) (r1 : Int) (r2 : Bool) (r3 : Bool) (r4 : Bool) (r5 : Bool) (w : World) (h : alu_worker_and.f k a0_0 a0_1 a0_2 a0_3 a0_4 a0_5 a0_6 a0_7 a0_8 a0_9 a0_10 a0_11 a0_12 a0_13 a0_14 a0_15 a0_16 a0_17 = some (r1, r2, r3, r4, r5)) :
    Calls Tryd.prog 26 #[.agg #[.int .i64 a0_0, .int .i64 a0_1, .int .i64 a0_2, .int .i64 a0_3, .int .i64 a0_4, .int .i64 a0_5, .int .u64 a0_6, .int .i64 a0_7, .int .i64 a0_8, .int .i64 a0_9, .int .u64 a0_10, .int .u64 a0_11, .int .u64 a0_12, .int .u64 a0_13, .bool a0_14, .bool a0_15, .bool a0_16, .bool a0_17]] w fun e w' => e = .returned (.tuple #[.int .u64 r1, .agg #[.bool r2, .bool r3, .bool r4, .bool r5]]) ∧ Below w.heap.size w w' := by
 have hu49 := Tryd.underlying49
 have hu35 := Tryd.underlying35
 have HB := Aside0.mk (Below.refl w.heap.size w)
 have H : ((alu_worker_v.f k a0_0 a0_1 a0_2 a0_3 a0_4 a0_5 a0_6 a0_7 a0_8 a0_9 a0_10 a0_11 a0_12 a0_13 a0_14 a0_15 a0_16 a0_17).bind fun t150 => (some (Go.bits .and .u64 a0_11 t150, a0_14, a0_15, a0_16, a0_17))) = some (r1, r2, r3, r4, r5) := h
 clear h
 replace H := Option.bind_eq_some_iff.mp H
 obtain ⟨t150, A20, H⟩ := H
 replace H : (some (Go.bits .and .u64 a0_11 t150, a0_14, a0_15, a0_16, a0_17)) = some (r1, r2, r3, r4, r5) := H
 have A2 := Aside0.mk A20
 clear A20
 simp only [Option.some.injEq, Prod.mk.injEq] at H
 obtain ⟨rfl, rfl, rfl, rfl, rfl⟩ := H
 go_enter Tryd.func26, Tryd.ntmps26
 try go_wp2_with (first | ((with_reducible refine gate_dst (N := 1) rfl ?_); refine box_event ?hg (N := 1) ?hd (cs := #[.int .i64 a0_0, .int .i64 a0_1, .int .i64 a0_2, .int .i64 a0_3, .int .i64 a0_4, .int .i64 a0_5, .int .u64 a0_6, .int .i64 a0_7, .int .i64 a0_8, .int .i64 a0_9, .int .u64 a0_10, .int .u64 a0_11, .int .u64 a0_12, .int .u64 a0_13, .bool a0_14, .bool a0_15, .bool a0_16, .bool a0_17]) (t := 49) ?hr ?_; (case hd => rfl); (case hg => rfl); (case hr => first | (go_simp; done) | (go_simp; rfl)); intro gb148 hg w3 hbox hb; have n0_ := Aside0.mk (below_step (by repeat (first | (with_reducible first | exact HB.out | apply below_alloc | apply pw_below_drewN | apply below_drew1) | exact HB.out)) hb); have n1_ := Aside0.mk (hbox); have n2_ := Aside0.mk ((by rw [hg]; exact (below_size (by repeat (first | (with_reducible first | exact HB.out | apply below_alloc | apply pw_below_drewN | apply below_drew1) | exact HB.out))) : w.heap.size ≤ gb148)); have n3_ := Aside0.mk ((by rw [hg]; exact (below_size (by repeat (first | (with_reducible first | exact HB.out | apply below_alloc | apply pw_below_drewN | apply below_drew1) | exact HB.out))) : w.heap.size ≤ gb148)); clear HB; have HB := n0_; have BK148 := n1_; have GW148 := n2_; have GE148 := n3_; clear n0_ n1_ n2_ n3_; clear hb hbox hg) | ((with_reducible refine gate_dst (N := 3) rfl ?_); refine box_event ?hg (N := 3) ?hd (cs := #[.bool false, .bool false, .bool false, .bool false]) (t := 35) ?hr ?_; (case hd => rfl); (case hg => rfl); (case hr => first | (go_simp; done) | (go_simp; rfl)); intro gb149 hg w4 hbox hb; have n0_ := Aside0.mk (blk_below (g := gb148) (o := .cells #[.int .i64 a0_0, .int .i64 a0_1, .int .i64 a0_2, .int .i64 a0_3, .int .i64 a0_4, .int .i64 a0_5, .int .u64 a0_6, .int .i64 a0_7, .int .i64 a0_8, .int .i64 a0_9, .int .u64 a0_10, .int .u64 a0_11, .int .u64 a0_12, .int .u64 a0_13, .bool a0_14, .bool a0_15, .bool a0_16, .bool a0_17] 49 (0, 0)) (by (with_reducible repeat (first | refine blk_drewN ?_ _ | refine blk_drew ?_ | refine blk_alloc ?_ _)); exact BK148.out) hb); have n1_ := Aside0.mk (below_step (by repeat (first | (with_reducible first | exact HB.out | apply below_alloc | apply pw_below_drewN | apply below_drew1 | refine below_set ?_ GE148.out) | exact HB.out)) hb); have n2_ := Aside0.mk (hbox); have n3_ := Aside0.mk ((by rw [hg]; exact (below_size (by repeat (first | (with_reducible first | exact HB.out | apply below_alloc | apply pw_below_drewN | apply below_drew1 | refine below_set ?_ GE148.out) | exact HB.out))) : w.heap.size ≤ gb149)); have n4_ := Aside0.mk ((by rw [hg]; exact (below_size (by repeat (first | (with_reducible first | exact HB.out | apply below_alloc | apply pw_below_drewN | apply below_drew1 | refine below_set ?_ GE148.out) | exact HB.out))) : w.heap.size ≤ gb149)); have n5_ := Aside0.mk ((by rw [hg]; exact Nat.ne_of_lt (blk_lt (g := gb148) (o := .cells #[.int .i64 a0_0, .int .i64 a0_1, .int .i64 a0_2, .int .i64 a0_3, .int .i64 a0_4, .int .i64 a0_5, .int .u64 a0_6, .int .i64 a0_7, .int .i64 a0_8, .int .i64 a0_9, .int .u64 a0_10, .int .u64 a0_11, .int .u64 a0_12, .int .u64 a0_13, .bool a0_14, .bool a0_15, .bool a0_16, .bool a0_17] 49 (0, 0)) (by (with_reducible repeat (first | refine blk_drewN ?_ _ | refine blk_drew ?_ | refine blk_alloc ?_ _)); exact BK148.out)) : gb148 ≠ gb149)); have n6_ := Aside0.mk ((by rw [hg]; exact Nat.ne_of_gt (blk_lt (g := gb148) (o := .cells #[.int .i64 a0_0, .int .i64 a0_1, .int .i64 a0_2, .int .i64 a0_3, .int .i64 a0_4, .int .i64 a0_5, .int .u64 a0_6, .int .i64 a0_7, .int .i64 a0_8, .int .i64 a0_9, .int .u64 a0_10, .int .u64 a0_11, .int .u64 a0_12, .int .u64 a0_13, .bool a0_14, .bool a0_15, .bool a0_16, .bool a0_17] 49 (0, 0)) (by (with_reducible repeat (first | refine blk_drewN ?_ _ | refine blk_drew ?_ | refine blk_alloc ?_ _)); exact BK148.out)) : gb149 ≠ gb148)); clear BK148; clear HB; have BK148 := n0_; have HB := n1_; have BK149 := n2_; have GW149 := n3_; have GE149 := n4_; have NB148_149 := n5_; have NB149_148 := n6_; clear n0_ n1_ n2_ n3_ n4_ n5_ n6_; clear hb hbox hg))
 have n0_ := Aside0.mk (blk_drew BK148.out)
 have n1_ := Aside0.mk (blk_drew BK149.out)
 have n2_ := Aside0.mk (below_drew1 HB.out)
 clear BK148
 clear BK149
 clear HB
 have BK148 := n0_
 have BK149 := n1_
 have HB := n2_
 clear n0_ n1_ n2_
 refine start_ (n := 10) (S := fun w' => w'.cell? ⟨gb148, 0, none⟩ = some (.int .i64 a0_0) ∧ w'.cell? ⟨gb148, 1, none⟩ = some (.int .i64 a0_1) ∧ w'.cell? ⟨gb148, 2, none⟩ = some (.int .i64 a0_2) ∧ w'.cell? ⟨gb148, 3, none⟩ = some (.int .i64 a0_3) ∧ w'.cell? ⟨gb148, 4, none⟩ = some (.int .i64 a0_4) ∧ w'.cell? ⟨gb148, 5, none⟩ = some (.int .i64 a0_5) ∧ w'.cell? ⟨gb148, 6, none⟩ = some (.int .u64 a0_6) ∧ w'.cell? ⟨gb148, 7, none⟩ = some (.int .i64 a0_7) ∧ w'.cell? ⟨gb148, 8, none⟩ = some (.int .i64 a0_8) ∧ w'.cell? ⟨gb148, 9, none⟩ = some (.int .i64 a0_9) ∧ w'.cell? ⟨gb148, 10, none⟩ = some (.int .u64 a0_10) ∧ w'.cell? ⟨gb148, 11, none⟩ = some (.int .u64 a0_11) ∧ w'.cell? ⟨gb148, 12, none⟩ = some (.int .u64 a0_12) ∧ w'.cell? ⟨gb148, 13, none⟩ = some (.int .u64 a0_13) ∧ w'.cell? ⟨gb148, 14, none⟩ = some (.bool a0_14) ∧ w'.cell? ⟨gb148, 15, none⟩ = some (.bool a0_15) ∧ w'.cell? ⟨gb148, 16, none⟩ = some (.bool a0_16) ∧ w'.cell? ⟨gb148, 17, none⟩ = some (.bool a0_17)) (ds := []) #[false, false, false, false, false, false, false, false, false, false] (by kernel_rfl) rfl rfl ⟨(blk_cell BK148.out 0).trans rfl, (blk_cell BK148.out 1).trans rfl, (blk_cell BK148.out 2).trans rfl, (blk_cell BK148.out 3).trans rfl, (blk_cell BK148.out 4).trans rfl, (blk_cell BK148.out 5).trans rfl, (blk_cell BK148.out 6).trans rfl, (blk_cell BK148.out 7).trans rfl, (blk_cell BK148.out 8).trans rfl, (blk_cell BK148.out 9).trans rfl, (blk_cell BK148.out 10).trans rfl, (blk_cell BK148.out 11).trans rfl, (blk_cell BK148.out 12).trans rfl, (blk_cell BK148.out 13).trans rfl, (blk_cell BK148.out 14).trans rfl, (blk_cell BK148.out 15).trans rfl, (blk_cell BK148.out 16).trans rfl, (blk_cell BK148.out 17).trans rfl⟩ (fun hHeld => ?_); refine with_tabW alu_worker_and.tab1 alu_worker_and.bits1 (fun HT_ HW_ => ?_)
 generalize w4.drew = w5 at BK148 BK149 HB hHeld ⊢
 refine pure_ (i := 0) (N := some 4) (v := ?_) (a' := ?_) #[true, false, false, false, false, false, false, false, false, false] rfl rfl (any_of HT_.out (by kernel_rfl)) (fun _ _ _ h => h) (Or.inl ⟨by rfl, ?_⟩) ?_ ?_
 rotate_left
 · intro w'; go_simp; with_reducible rfl
 rotate_left
 · simp only [qa_, qb_, qc_, qd_, i64_w, i32_w]; rfl
 refine pure_ (i := 1) (N := some 5) (v := ?_) (a' := ?_) #[true, true, false, false, false, false, false, false, false, false] rfl rfl (any_of HT_.out (by kernel_rfl)) (fun _ _ _ h => h) (Or.inl ⟨by rfl, ?_⟩) ?_ ?_
 rotate_left
 · intro w'; go_simp; with_reducible rfl
 rotate_left
 · simp only [qa_, qb_, qc_, qd_, i64_w, i32_w]; rfl
 refine pure_ (i := 6) (N := some 10) (v := ?_) (a' := ?_) #[true, true, false, false, false, false, true, false, false, false] rfl rfl (any_of HT_.out (by kernel_rfl)) (fun _ _ _ h => h) (Or.inl ⟨by rfl, ?_⟩) ?_ ?_
 rotate_left
 · intro w'; go_simp; with_reducible rfl
 rotate_left
 · simp only [qa_, qb_, qc_, qd_, i64_w, i32_w]; rfl
 refine take_ (i := 2) (N := some 6) (v := ?_) (a' := ?_) #[true, true, true, false, false, false, true, false, false, false] rfl rfl (take_ofW HT_.out HW_.out (by kernel_rfl)) (fun _ _ _ h => h) (Or.inl ⟨by rfl, ?_⟩) hHeld ?_ ?_
 rotate_left
 · rintro w' ⟨s0, s1, s2, s3, s4, s5, s6, s7, s8, s9, s10, s11, s12, s13, s14, s15, s16, s17⟩; go_simp; with_reducible rfl
 rotate_left
 · simp only [qa_, qb_, qc_, qd_, i64_w, i32_w]; rfl
 refine take_ (i := 3) (N := some 7) (v := ?_) (a' := ?_) #[true, true, true, true, false, false, true, false, false, false] rfl rfl (take_ofW HT_.out HW_.out (by kernel_rfl)) (fun _ _ _ h => h) (Or.inl ⟨by rfl, ?_⟩) hHeld ?_ ?_
 rotate_left
 · rintro w' ⟨s0, s1, s2, s3, s4, s5, s6, s7, s8, s9, s10, s11, s12, s13, s14, s15, s16, s17⟩; go_simp; with_reducible rfl
 rotate_left
 · simp only [qa_, qb_, qc_, qd_, i64_w, i32_w]; rfl
 refine take_ (i := 7) (N := some 11) (v := ?_) (a' := ?_) #[true, true, true, true, false, false, true, true, false, false] rfl rfl (take_ofW HT_.out HW_.out (by kernel_rfl)) (fun _ _ _ h => h) (Or.inl ⟨by rfl, ?_⟩) hHeld ?_ ?_
 rotate_left
 · rintro w' ⟨s0, s1, s2, s3, s4, s5, s6, s7, s8, s9, s10, s11, s12, s13, s14, s15, s16, s17⟩; go_simp; with_reducible rfl
 rotate_left
 · simp only [qa_, qb_, qc_, qd_, i64_w, i32_w]; rfl
 refine one_ (i := 4) (N := some 8) #[true, true, true, true, true, false, true, true, false, false] rfl rfl (one_of HT_.out (by kernel_rfl)) (by decide) (fun K hK => ?_)
 refine goes_ Tryd.func39 (by kernel_rfl) rfl #[.agg #[.int .i64 a0_0, .int .i64 a0_1, .int .i64 a0_2, .int .i64 a0_3, .int .i64 a0_4, .int .i64 a0_5, .int .u64 a0_6, .int .i64 a0_7, .int .i64 a0_8, .int .i64 a0_9, .int .u64 a0_10, .int .u64 a0_11, .int .u64 a0_12, .int .u64 a0_13, .bool a0_14, .bool a0_15, .bool a0_16, .bool a0_17]] (by rfl) rfl rfl (by (try simp only [List.map_toArray, List.map_cons, List.map_nil]); first | done | rfl | (simp only [List.length_drop, List.length_take]; rfl)) ?_
 with_reducible refine (alu_worker_v.calls k a0_0 a0_1 a0_2 a0_3 a0_4 a0_5 a0_6 a0_7 a0_8 a0_9 a0_10 a0_11 a0_12 a0_13 a0_14 a0_15 a0_16 a0_17 t150 _ A2.out).mono ?_
 rintro e w6 ⟨rfl, hb⟩
 refine ⟨_, rfl, ?_⟩
 have n0_ := Aside0.mk (blk_below (g := gb148) (o := .cells #[.int .i64 a0_0, .int .i64 a0_1, .int .i64 a0_2, .int .i64 a0_3, .int .i64 a0_4, .int .i64 a0_5, .int .u64 a0_6, .int .i64 a0_7, .int .i64 a0_8, .int .i64 a0_9, .int .u64 a0_10, .int .u64 a0_11, .int .u64 a0_12, .int .u64 a0_13, .bool a0_14, .bool a0_15, .bool a0_16, .bool a0_17] 49 (0, 0)) (by (with_reducible repeat (first | refine blk_drewN ?_ _ | refine blk_drew ?_ | refine blk_alloc ?_ _)); exact BK148.out) hb)
 have n1_ := Aside0.mk (blk_below (g := gb149) (o := .cells #[.bool false, .bool false, .bool false, .bool false] 35 (0, 0)) (by (with_reducible repeat (first | refine blk_drewN ?_ _ | refine blk_drew ?_ | refine blk_alloc ?_ _)); exact BK149.out) hb)
 have n2_ := Aside0.mk (below_step (by repeat (first | (with_reducible first | exact HB.out | apply below_alloc | apply pw_below_drewN | apply below_drew1 | refine below_set ?_ GE148.out | refine below_set ?_ GE149.out) | exact HB.out)) hb)
 clear BK148
 clear BK149
 clear HB
 have BK148 := n0_
 have BK149 := n1_
 have HB := n2_
 clear n0_ n1_ n2_
 (try clear hb)
 (try clear hb2)
 (try clear hk)
 (try clear hi)
 refine hK.out _ _ ⟨(blk_cell BK148.out 0).trans rfl, (blk_cell BK148.out 1).trans rfl, (blk_cell BK148.out 2).trans rfl, (blk_cell BK148.out 3).trans rfl, (blk_cell BK148.out 4).trans rfl, (blk_cell BK148.out 5).trans rfl, (blk_cell BK148.out 6).trans rfl, (blk_cell BK148.out 7).trans rfl, (blk_cell BK148.out 8).trans rfl, (blk_cell BK148.out 9).trans rfl, (blk_cell BK148.out 10).trans rfl, (blk_cell BK148.out 11).trans rfl, (blk_cell BK148.out 12).trans rfl, (blk_cell BK148.out 13).trans rfl, (blk_cell BK148.out 14).trans rfl, (blk_cell BK148.out 15).trans rfl, (blk_cell BK148.out 16).trans rfl, (blk_cell BK148.out 17).trans rfl⟩ (fun hHeld => ?_)
 clear hK K
 refine norm_ (a' := ?_) ?_ ?_
 rotate_left
 ·
  show Act.put _ (some 8) _ = _
  simp only [qa_, qb_, qc_, qd_, i64_w, i32_w]
  rfl
 refine pure_ (i := 5) (N := some 9) (v := ?_) (a' := ?_) #[true, true, true, true, true, true, true, true, false, false] rfl rfl (any_of HT_.out (by kernel_rfl)) (fun _ _ _ h => h) (Or.inl ⟨by rfl, ?_⟩) ?_ ?_
 rotate_left
 · intro w'; go_simp; with_reducible rfl
 rotate_left
 · simp only [qa_, qb_, qc_, qd_, i64_w, i32_w]; rfl
 refine pure_ (i := 8) (N := some 2) (v := ?_) (a' := ?_) #[true, true, true, true, true, true, true, true, true, false] rfl rfl (any_of HT_.out (by kernel_rfl)) (fun _ _ _ h => h) (Or.inl ⟨by rfl, ?_⟩) ?_ ?_
 rotate_left
 · intro w'; go_simp; with_reducible rfl
 rotate_left
 · simp only [qa_, qb_, qc_, qd_, i64_w, i32_w]; rfl
 refine one_ (i := 9) (N := none) #[true, true, true, true, true, true, true, true, true, true] rfl rfl (one_of HT_.out (by kernel_rfl)) (by decide) (fun K hK => ?_)
 have hs7 : w6.cell? ⟨gb149, 0, none⟩ = some (.bool false) := (blk_cell BK149.out 0).trans rfl
 have hfs7 := blk_frozen BK149.out 0
 have hns7_0 := NB148_149.out
 have hms7_0 := NB149_148.out
 have hs8 : w6.cell? ⟨gb149, 1, none⟩ = some (.bool false) := (blk_cell BK149.out 1).trans rfl
 have hfs8 := blk_frozen BK149.out 1
 have hns8_0 := NB148_149.out
 have hms8_0 := NB149_148.out
 have hs9 : w6.cell? ⟨gb149, 2, none⟩ = some (.bool false) := (blk_cell BK149.out 2).trans rfl
 have hfs9 := blk_frozen BK149.out 2
 have hns9_0 := NB148_149.out
 have hms9_0 := NB149_148.out
 have hs10 : w6.cell? ⟨gb149, 3, none⟩ = some (.bool false) := (blk_cell BK149.out 3).trans rfl
 have hfs10 := blk_frozen BK149.out 3
 have hns10_0 := NB148_149.out
 have hms10_0 := NB149_148.out
 refine skip_ (w1 := ?_) (by rfl) rfl ?_ ?_
 rotate_left
 ·
  go_simp
  rfl
 refine hK.out _ _ ⟨((cell_far (p := ⟨gb149, _, none⟩) NB148_149.out _).trans (((cell_far (p := ⟨gb149, _, none⟩) NB148_149.out _).trans (((cell_far (p := ⟨gb149, _, none⟩) NB148_149.out _).trans (((cell_far (p := ⟨gb149, _, none⟩) NB148_149.out _).trans (hHeld.1)))))))), ((cell_far (p := ⟨gb149, _, none⟩) NB148_149.out _).trans (((cell_far (p := ⟨gb149, _, none⟩) NB148_149.out _).trans (((cell_far (p := ⟨gb149, _, none⟩) NB148_149.out _).trans (((cell_far (p := ⟨gb149, _, none⟩) NB148_149.out _).trans (hHeld.2.1)))))))), ((cell_far (p := ⟨gb149, _, none⟩) NB148_149.out _).trans (((cell_far (p := ⟨gb149, _, none⟩) NB148_149.out _).trans (((cell_far (p := ⟨gb149, _, none⟩) NB148_149.out _).trans (((cell_far (p := ⟨gb149, _, none⟩) NB148_149.out _).trans (hHeld.2.2.1)))))))), ((cell_far (p := ⟨gb149, _, none⟩) NB148_149.out _).trans (((cell_far (p := ⟨gb149, _, none⟩) NB148_149.out _).trans (((cell_far (p := ⟨gb149, _, none⟩) NB148_149.out _).trans (((cell_far (p := ⟨gb149, _, none⟩) NB148_149.out _).trans (hHeld.2.2.2.1)))))))), ((cell_far (p := ⟨gb149, _, none⟩) NB148_149.out _).trans (((cell_far (p := ⟨gb149, _, none⟩) NB148_149.out _).trans (((cell_far (p := ⟨gb149, _, none⟩) NB148_149.out _).trans (((cell_far (p := ⟨gb149, _, none⟩) NB148_149.out _).trans (hHeld.2.2.2.2.1)))))))), ((cell_far (p := ⟨gb149, _, none⟩) NB148_149.out _).trans (((cell_far (p := ⟨gb149, _, none⟩) NB148_149.out _).trans (((cell_far (p := ⟨gb149, _, none⟩) NB148_149.out _).trans (((cell_far (p := ⟨gb149, _, none⟩) NB148_149.out _).trans (hHeld.2.2.2.2.2.1)))))))), ((cell_far (p := ⟨gb149, _, none⟩) NB148_149.out _).trans (((cell_far (p := ⟨gb149, _, none⟩) NB148_149.out _).trans (((cell_far (p := ⟨gb149, _, none⟩) NB148_149.out _).trans (((cell_far (p := ⟨gb149, _, none⟩) NB148_149.out _).trans (hHeld.2.2.2.2.2.2.1)))))))), ((cell_far (p := ⟨gb149, _, none⟩) NB148_149.out _).trans (((cell_far (p := ⟨gb149, _, none⟩) NB148_149.out _).trans (((cell_far (p := ⟨gb149, _, none⟩) NB148_149.out _).trans (((cell_far (p := ⟨gb149, _, none⟩) NB148_149.out _).trans (hHeld.2.2.2.2.2.2.2.1)))))))), ((cell_far (p := ⟨gb149, _, none⟩) NB148_149.out _).trans (((cell_far (p := ⟨gb149, _, none⟩) NB148_149.out _).trans (((cell_far (p := ⟨gb149, _, none⟩) NB148_149.out _).trans (((cell_far (p := ⟨gb149, _, none⟩) NB148_149.out _).trans (hHeld.2.2.2.2.2.2.2.2.1)))))))), ((cell_far (p := ⟨gb149, _, none⟩) NB148_149.out _).trans (((cell_far (p := ⟨gb149, _, none⟩) NB148_149.out _).trans (((cell_far (p := ⟨gb149, _, none⟩) NB148_149.out _).trans (((cell_far (p := ⟨gb149, _, none⟩) NB148_149.out _).trans (hHeld.2.2.2.2.2.2.2.2.2.1)))))))), ((cell_far (p := ⟨gb149, _, none⟩) NB148_149.out _).trans (((cell_far (p := ⟨gb149, _, none⟩) NB148_149.out _).trans (((cell_far (p := ⟨gb149, _, none⟩) NB148_149.out _).trans (((cell_far (p := ⟨gb149, _, none⟩) NB148_149.out _).trans (hHeld.2.2.2.2.2.2.2.2.2.2.1)))))))), ((cell_far (p := ⟨gb149, _, none⟩) NB148_149.out _).trans (((cell_far (p := ⟨gb149, _, none⟩) NB148_149.out _).trans (((cell_far (p := ⟨gb149, _, none⟩) NB148_149.out _).trans (((cell_far (p := ⟨gb149, _, none⟩) NB148_149.out _).trans (hHeld.2.2.2.2.2.2.2.2.2.2.2.1)))))))), ((cell_far (p := ⟨gb149, _, none⟩) NB148_149.out _).trans (((cell_far (p := ⟨gb149, _, none⟩) NB148_149.out _).trans (((cell_far (p := ⟨gb149, _, none⟩) NB148_149.out _).trans (((cell_far (p := ⟨gb149, _, none⟩) NB148_149.out _).trans (hHeld.2.2.2.2.2.2.2.2.2.2.2.2.1)))))))), ((cell_far (p := ⟨gb149, _, none⟩) NB148_149.out _).trans (((cell_far (p := ⟨gb149, _, none⟩) NB148_149.out _).trans (((cell_far (p := ⟨gb149, _, none⟩) NB148_149.out _).trans (((cell_far (p := ⟨gb149, _, none⟩) NB148_149.out _).trans (hHeld.2.2.2.2.2.2.2.2.2.2.2.2.2.1)))))))), ((cell_far (p := ⟨gb149, _, none⟩) NB148_149.out _).trans (((cell_far (p := ⟨gb149, _, none⟩) NB148_149.out _).trans (((cell_far (p := ⟨gb149, _, none⟩) NB148_149.out _).trans (((cell_far (p := ⟨gb149, _, none⟩) NB148_149.out _).trans (hHeld.2.2.2.2.2.2.2.2.2.2.2.2.2.2.1)))))))), ((cell_far (p := ⟨gb149, _, none⟩) NB148_149.out _).trans (((cell_far (p := ⟨gb149, _, none⟩) NB148_149.out _).trans (((cell_far (p := ⟨gb149, _, none⟩) NB148_149.out _).trans (((cell_far (p := ⟨gb149, _, none⟩) NB148_149.out _).trans (hHeld.2.2.2.2.2.2.2.2.2.2.2.2.2.2.2.1)))))))), ((cell_far (p := ⟨gb149, _, none⟩) NB148_149.out _).trans (((cell_far (p := ⟨gb149, _, none⟩) NB148_149.out _).trans (((cell_far (p := ⟨gb149, _, none⟩) NB148_149.out _).trans (((cell_far (p := ⟨gb149, _, none⟩) NB148_149.out _).trans (hHeld.2.2.2.2.2.2.2.2.2.2.2.2.2.2.2.2.1)))))))), ((cell_far (p := ⟨gb149, _, none⟩) NB148_149.out _).trans (((cell_far (p := ⟨gb149, _, none⟩) NB148_149.out _).trans (((cell_far (p := ⟨gb149, _, none⟩) NB148_149.out _).trans (((cell_far (p := ⟨gb149, _, none⟩) NB148_149.out _).trans (hHeld.2.2.2.2.2.2.2.2.2.2.2.2.2.2.2.2.2))))))))⟩ (fun hHeld => ?_)
 clear hK K
 refine done_ (done_of HT_.out (by kernel_rfl)) ?_
 try go_wp2
 refine bodyPost_ret (results_tc rfl _ _ gb149 35 #[.bool a0_14, .bool a0_15, .bool a0_16, .bool a0_17] (0, 0) _ rfl (by (with_reducible repeat (first | refine blk_drewN ?_ _ | refine blk_drew ?_ | refine blk_alloc ?_ _)); refine blk_put (cs := #[.bool a0_14, .bool a0_15, .bool a0_16, .bool false]) ?_ 3 _ rfl; (with_reducible repeat (first | refine blk_drewN ?_ _ | refine blk_drew ?_ | refine blk_alloc ?_ _)); refine blk_put (cs := #[.bool a0_14, .bool a0_15, .bool false, .bool false]) ?_ 2 _ rfl; (with_reducible repeat (first | refine blk_drewN ?_ _ | refine blk_drew ?_ | refine blk_alloc ?_ _)); refine blk_put (cs := #[.bool a0_14, .bool false, .bool false, .bool false]) ?_ 1 _ rfl; (with_reducible repeat (first | refine blk_drewN ?_ _ | refine blk_drew ?_ | refine blk_alloc ?_ _)); refine blk_put (cs := #[.bool false, .bool false, .bool false, .bool false]) ?_ 0 _ rfl; (with_reducible repeat (first | refine blk_drewN ?_ _ | refine blk_drew ?_ | refine blk_alloc ?_ _)); exact BK149.out) Tryd.underlying35 rfl (by kernel_rfl)) rfl ?_
 exact ⟨by first | rfl | (simp [errW_none, errW_some] <;> rfl) | (simp [*, errW_none, errW_some] <;> rfl), by repeat (first | (with_reducible first | exact HB.out | apply below_alloc | apply pw_below_drewN | apply below_drew1 | refine below_set ?_ GE148.out | refine below_set ?_ GE149.out) | exact HB.out)⟩

/-! ### alu_worker_orr: function 27 -/
def alu_worker_orr.f (k : Nat) (a0_0 : Int) (a0_1 : Int) (a0_2 : Int) (a0_3 : Int) (a0_4 : Int) (a0_5 : Int) (a0_6 : Int) (a0_7 : Int) (a0_8 : Int) (a0_9 : Int) (a0_10 : Int) (a0_11 : Int) (a0_12 : Int) (a0_13 : Int) (a0_14 : Bool) (a0_15 : Bool) (a0_16 : Bool) (a0_17 : Bool) : Option (Int × Bool × Bool × Bool × Bool) := (alu_worker_v.f k a0_0 a0_1 a0_2 a0_3 a0_4 a0_5 a0_6 a0_7 a0_8 a0_9 a0_10 a0_11 a0_12 a0_13 a0_14 a0_15 a0_16 a0_17).bind fun t153 => (some (Go.bits .or .u64 a0_11 t153, a0_14, a0_15, a0_16, a0_17))
theorem alu_worker_orr.mono : ∀ a0 a1 a2 a3 a4 a5 a6 a7 a8 a9 a10 a11 a12 a13 a14 a15 a16 a17 k, LeO (alu_worker_orr.f k a0 a1 a2 a3 a4 a5 a6 a7 a8 a9 a10 a11 a12 a13 a14 a15 a16 a17) (alu_worker_orr.f (k + 1) a0 a1 a2 a3 a4 a5 a6 a7 a8 a9 a10 a11 a12 a13 a14 a15 a16 a17) := by
 intro a0 a1 a2 a3 a4 a5 a6 a7 a8 a9 a10 a11 a12 a13 a14 a15 a16 a17 k
 unfold alu_worker_orr.f
 repeat' first
   | (with_reducible exact alu_worker_v.mono _ _ _ _ _ _ _ _ _ _ _ _ _ _ _ _ _ _ _)
   | (with_reducible exact LeO.refl _)
   | (with_reducible exact LeO.none _)
   | (with_reducible refine LeO.ite ?_ ?_)
   | (with_reducible refine LeO.bind ?_ (fun _ => ?_))
   | exact alu_worker_v.mono _ _ _ _ _ _ _ _ _ _ _ _ _ _ _ _ _ _ _
   | exact LeO.none _
   | refine LeO.ite ?_ ?_
   | refine LeO.bind ?_ (fun _ => ?_)
def alu_worker_orr.T1 : Bool × List (List Nat × List Nat) := (true, [([], []), ([0], [0]), ([1], [1]), ([], []), ([3], [3]), ([2, 4], [2, 4]), ([], []), ([6], [6]), ([5, 4, 0, 1, 2, 3, 4, 5], [5]), ([7, 8, 0, 1, 2, 3, 4, 5, 6, 7, 8], [7])])
def alu_worker_orr.B1 : List Nat := [0, 1, 3, 0, 8, 31, 0, 64, 63, 511]
theorem alu_worker_orr.tab1 : rtab .any (opsOf Tryd.f27 1) = alu_worker_orr.T1 := by kernel_rfl
theorem alu_worker_orr.bits1 : waitsOk alu_worker_orr.T1.2 alu_worker_orr.B1 = true := by kernel_rfl
set_option maxHeartbeats 8000000 in
set_option maxRecDepth 100000 in
theorem alu_worker_orr.calls (k : Nat) (a0_0 : Int) (a0_1 : Int) (a0_2 : Int) (a0_3 : Int) (a0_4 : Int) (a0_5 : Int) (a0_6 : Int) (a0_7 : Int) (a0_8 : Int) (a0_9 : Int) (a0_10 : Int) (a0_11 : Int) (a0_12 : Int) (a0_13 : Int) (a0_14 : Bool) (a0_15 : Bool) (a0_16 : Bool) (a0_17 : Bool) (r1 : Int) (r2 : Bool) (r3 : Bool) (r4 : Bool) (r5 : Bool) (w : World) (h : alu_worker_orr.f k a0_0 a0_1 a0_2 a0_3 a0_4 a0_5 a0_6 a0_7 a0_8 a0_9 a0_10 a0_11 a0_12 a0_13 a0_14 a0_15 a0_16 a0_17 = some (r1, r2, r3, r4, r5)) :
    Calls Tryd.prog 27 #[.agg #[.int .i64 a0_0, .int .i64 a0_1, .int .i64 a0_2, .int .i64 a0_3, .int .i64 a0_4, .int .i64 a0_5, .int .u64 a0_6, .int .i64 a0_7, .int .i64 a0_8, .int .i64 a0_9, .int .u64 a0_10, .int .u64 a0_11, .int .u64 a0_12, .int .u64 a0_13, .bool a0_14, .bool a0_15, .bool a0_16, .bool a0_17]] w fun e w' => e = .returned (.tuple #[.int .u64 r1, .agg #[.bool r2, .bool r3, .bool r4, .bool r5]]) ∧ Below w.heap.size w w' := by
 have hu49 := Tryd.underlying49
 have hu35 := Tryd.underlying35
 have HB := Aside0.mk (Below.refl w.heap.size w)
 have H : ((alu_worker_v.f k a0_0 a0_1 a0_2 a0_3 a0_4 a0_5 a0_6 a0_7 a0_8 a0_9 a0_10 a0_11 a0_12 a0_13 a0_14 a0_15 a0_16 a0_17).bind fun t153 => (some (Go.bits .or .u64 a0_11 t153, a0_14, a0_15, a0_16, a0_17))) = some (r1, r2, r3, r4, r5) := h
 clear h
 replace H := Option.bind_eq_some_iff.mp H
 obtain ⟨t153, A20, H⟩ := H
 replace H : (some (Go.bits .or .u64 a0_11 t153, a0_14, a0_15, a0_16, a0_17)) = some (r1, r2, r3, r4, r5) := H
 have A2 := Aside0.mk A20
 clear A20
 simp only [Option.some.injEq, Prod.mk.injEq] at H
 obtain ⟨rfl, rfl, rfl, rfl, rfl⟩ := H
 go_enter Tryd.func27, Tryd.ntmps27
 try go_wp2_with (first | ((with_reducible refine gate_dst (N := 1) rfl ?_); refine box_event ?hg (N := 1) ?hd (cs := #[.int .i64 a0_0, .int .i64 a0_1, .int .i64 a0_2, .int .i64 a0_3, .int .i64 a0_4, .int .i64 a0_5, .int .u64 a0_6, .int .i64 a0_7, .int .i64 a0_8, .int .i64 a0_9, .int .u64 a0_10, .int .u64 a0_11, .int .u64 a0_12, .int .u64 a0_13, .bool a0_14, .bool a0_15, .bool a0_16, .bool a0_17]) (t := 49) ?hr ?_; (case hd => rfl); (case hg => rfl); (case hr => first | (go_simp; done) | (go_simp; rfl)); intro gb151 hg w3 hbox hb; have n0_ := Aside0.mk (below_step (by repeat (first | (with_reducible first | exact HB.out | apply below_alloc | apply pw_below_drewN | apply below_drew1) | exact HB.out)) hb); have n1_ := Aside0.mk (hbox); have n2_ := Aside0.mk ((by rw [hg]; exact (below_size (by repeat (first | (with_reducible first | exact HB.out | apply below_alloc | apply pw_below_drewN | apply below_drew1) | exact HB.out))) : w.heap.size ≤ gb151)); have n3_ := Aside0.mk ((by rw [hg]; exact (below_size (by repeat (first | (with_reducible first | exact HB.out | apply below_alloc | apply pw_below_drewN | apply below_drew1) | exact HB.out))) : w.heap.size ≤ gb151)); clear HB; have HB := n0_; have BK151 := n1_; have GW151 := n2_; have GE151 := n3_; clear n0_ n1_ n2_ n3_; clear hb hbox hg) | ((with_reducible refine gate_dst (N := 3) rfl ?_); refine box_event ?hg (N := 3) ?hd (cs := #[.bool false, .bool false, .bool false, .bool false]) (t := 35) ?hr ?_; (case hd => rfl); (case hg => rfl); (case hr => first | (go_simp; done) | (go_simp; rfl)); intro gb152 hg w4 hbox hb; have n0_ := Aside0.mk (blk_below (g := gb151) (o := .cells #[.int .i64 a0_0, .int .i64 a0_1, .int .i64 a0_2, .int .i64 a0_3, .int .i64 a0_4, .int .i64 a0_5, .int .u64 a0_6, .int .i64 a0_7, .int .i64 a0_8, .int .i64 a0_9, .int .u64 a0_10, .int .u64 a0_11, .int .u64 a0_12, .int .u64 a0_13, .bool a0_14, .bool a0_15, .bool a0_16, .bool a0_17] 49 (0, 0)) (by (with_reducible repeat (first | refine blk_drewN ?_ _ | refine blk_drew ?_ | refine blk_alloc ?_ _)); exact BK151.out) hb); have n1_ := Aside0.mk (below_step (by repeat (first | (with_reducible first | exact HB.out | apply below_alloc | apply pw_below_drewN | apply below_drew1 | refine below_set ?_ GE151.out) | exact HB.out)) hb); have n2_ := Aside0.mk (hbox); have n3_ := Aside0.mk ((by rw [hg]; exact (below_size (by repeat (first | (with_reducible first | exact HB.out | apply below_alloc | apply pw_below_drewN | apply below_drew1 | refine below_set ?_ GE151.out) | exact HB.out))) : w.heap.size ≤ gb152)); have n4_ := Aside0.mk ((by rw [hg]; exact (below_size (by repeat (first | (with_reducible first | exact HB.out | apply below_alloc | apply pw_below_drewN | apply below_drew1 | refine below_set ?_ GE151.out) | exact HB.out))) : w.heap.size ≤ gb152)); have n5_ := Aside0.mk ((by rw [hg]; exact Nat.ne_of_lt (blk_lt (g := gb151) (o := .cells #[.int .i64 a0_0, .int .i64 a0_1, .int .i64 a0_2, .int .i64 a0_3, .int .i64 a0_4, .int .i64 a0_5, .int .u64 a0_6, .int .i64 a0_7, .int .i64 a0_8, .int .i64 a0_9, .int .u64 a0_10, .int .u64 a0_11, .int .u64 a0_12, .int .u64 a0_13, .bool a0_14, .bool a0_15, .bool a0_16, .bool a0_17] 49 (0, 0)) (by (with_reducible repeat (first | refine blk_drewN ?_ _ | refine blk_drew ?_ | refine blk_alloc ?_ _)); exact BK151.out)) : gb151 ≠ gb152)); have n6_ := Aside0.mk ((by rw [hg]; exact Nat.ne_of_gt (blk_lt (g := gb151) (o := .cells #[.int .i64 a0_0, .int .i64 a0_1, .int .i64 a0_2, .int .i64 a0_3, .int .i64 a0_4, .int .i64 a0_5, .int .u64 a0_6, .int .i64 a0_7, .int .i64 a0_8, .int .i64 a0_9, .int .u64 a0_10, .int .u64 a0_11, .int .u64 a0_12, .int .u64 a0_13, .bool a0_14, .bool a0_15, .bool a0_16, .bool a0_17] 49 (0, 0)) (by (with_reducible repeat (first | refine blk_drewN ?_ _ | refine blk_drew ?_ | refine blk_alloc ?_ _)); exact BK151.out)) : gb152 ≠ gb151)); clear BK151; clear HB; have BK151 := n0_; have HB := n1_; have BK152 := n2_; have GW152 := n3_; have GE152 := n4_; have NB151_152 := n5_; have NB152_151 := n6_; clear n0_ n1_ n2_ n3_ n4_ n5_ n6_; clear hb hbox hg))
 have n0_ := Aside0.mk (blk_drew BK151.out)
 have n1_ := Aside0.mk (blk_drew BK152.out)
 have n2_ := Aside0.mk (below_drew1 HB.out)
 clear BK151
 clear BK152
 clear HB
 have BK151 := n0_
 have BK152 := n1_
 have HB := n2_
 clear n0_ n1_ n2_
 refine start_ (n := 10) (S := fun w' => w'.cell? ⟨gb151, 0, none⟩ = some (.int .i64 a0_0) ∧ w'.cell? ⟨gb151, 1, none⟩ = some (.int .i64 a0_1) ∧ w'.cell? ⟨gb151, 2, none⟩ = some (.int .i64 a0_2) ∧ w'.cell? ⟨gb151, 3, none⟩ = some (.int .i64 a0_3) ∧ w'.cell? ⟨gb151, 4, none⟩ = some (.int .i64 a0_4) ∧ w'.cell? ⟨gb151, 5, none⟩ = some (.int .i64 a0_5) ∧ w'.cell? ⟨gb151, 6, none⟩ = some (.int .u64 a0_6) ∧ w'.cell? ⟨gb151, 7, none⟩ = some (.int .i64 a0_7) ∧ w'.cell? ⟨gb151, 8, none⟩ = some (.int .i64 a0_8) ∧ w'.cell? ⟨gb151, 9, none⟩ = some (.int .i64 a0_9) ∧ w'.cell? ⟨gb151, 10, none⟩ = some (.int .u64 a0_10) ∧ w'.cell? ⟨gb151, 11, none⟩ = some (.int .u64 a0_11) ∧ w'.cell? ⟨gb151, 12, none⟩ = some (.int .u64 a0_12) ∧ w'.cell? ⟨gb151, 13, none⟩ = some (.int .u64 a0_13) ∧ w'.cell? ⟨gb151, 14, none⟩ = some (.bool a0_14) ∧ w'.cell? ⟨gb151, 15, none⟩ = some (.bool a0_15) ∧ w'.cell? ⟨gb151, 16, none⟩ = some (.bool a0_16) ∧ w'.cell? ⟨gb151, 17, none⟩ = some (.bool a0_17)) (ds := []) #[false, false, false, false, false, false, false, false, false, false] (by kernel_rfl) rfl rfl ⟨(blk_cell BK151.out 0).trans rfl, (blk_cell BK151.out 1).trans rfl, (blk_cell BK151.out 2).trans rfl, (blk_cell BK151.out 3).trans rfl, (blk_cell BK151.out 4).trans rfl, (blk_cell BK151.out 5).trans rfl, (blk_cell BK151.out 6).trans rfl, (blk_cell BK151.out 7).trans rfl, (blk_cell BK151.out 8).trans rfl, (blk_cell BK151.out 9).trans rfl, (blk_cell BK151.out 10).trans rfl, (blk_cell BK151.out 11).trans rfl, (blk_cell BK151.out 12).trans rfl, (blk_cell BK151.out 13).trans rfl, (blk_cell BK151.out 14).trans rfl, (blk_cell BK151.out 15).trans rfl, (blk_cell BK151.out 16).trans rfl, (blk_cell BK151.out 17).trans rfl⟩ (fun hHeld => ?_); refine with_tabW alu_worker_orr.tab1 alu_worker_orr.bits1 (fun HT_ HW_ => ?_)
 generalize w4.drew = w5 at BK151 BK152 HB hHeld ⊢
 refine pure_ (i := 0) (N := some 4) (v := ?_) (a' := ?_) #[true, false, false, false, false, false, false, false, false, false] rfl rfl (any_of HT_.out (by kernel_rfl)) (fun _ _ _ h => h) (Or.inl ⟨by rfl, ?_⟩) ?_ ?_
 rotate_left
 · intro w'; go_simp; with_reducible rfl
 rotate_left
 · simp only [qa_, qb_, qc_, qd_, i64_w, i32_w]; rfl
 refine pure_ (i := 1) (N := some 5) (v := ?_) (a' := ?_) #[true, true, false, false, false, false, false, false, false, false] rfl rfl (any_of HT_.out (by kernel_rfl)) (fun _ _ _ h => h) (Or.inl ⟨by rfl, ?_⟩) ?_ ?_
 rotate_left
 · intro w'; go_simp; with_reducible rfl
 rotate_left
 · simp only [qa_, qb_, qc_, qd_, i64_w, i32_w]; rfl
 refine pure_ (i := 6) (N := some 10) (v := ?_) (a' := ?_) #[true, true, false, false, false, false, true, false, false, false] rfl rfl (any_of HT_.out (by kernel_rfl)) (fun _ _ _ h => h) (Or.inl ⟨by rfl, ?_⟩) ?_ ?_
 rotate_left
 · intro w'; go_simp; with_reducible rfl
 rotate_left
 · simp only [qa_, qb_, qc_, qd_, i64_w, i32_w]; rfl
 refine take_ (i := 2) (N := some 6) (v := ?_) (a' := ?_) #[true, true, true, false, false, false, true, false, false, false] rfl rfl (take_ofW HT_.out HW_.out (by kernel_rfl)) (fun _ _ _ h => h) (Or.inl ⟨by rfl, ?_⟩) hHeld ?_ ?_
 rotate_left
 · rintro w' ⟨s0, s1, s2, s3, s4, s5, s6, s7, s8, s9, s10, s11, s12, s13, s14, s15, s16, s17⟩; go_simp; with_reducible rfl
 rotate_left
 · simp only [qa_, qb_, qc_, qd_, i64_w, i32_w]; rfl
 refine take_ (i := 3) (N := some 7) (v := ?_) (a' := ?_) #[true, true, true, true, false, false, true, false, false, false] rfl rfl (take_ofW HT_.out HW_.out (by kernel_rfl)) (fun _ _ _ h => h) (Or.inl ⟨by rfl, ?_⟩) hHeld ?_ ?_
 rotate_left
 · rintro w' ⟨s0, s1, s2, s3, s4, s5, s6, s7, s8, s9, s10, s11, s12, s13, s14, s15, s16, s17⟩; go_simp; with_reducible rfl
 rotate_left
 · simp only [qa_, qb_, qc_, qd_, i64_w, i32_w]; rfl
 refine take_ (i := 7) (N := some 11) (v := ?_) (a' := ?_) #[true, true, true, true, false, false, true, true, false, false] rfl rfl (take_ofW HT_.out HW_.out (by kernel_rfl)) (fun _ _ _ h => h) (Or.inl ⟨by rfl, ?_⟩) hHeld ?_ ?_
 rotate_left
 · rintro w' ⟨s0, s1, s2, s3, s4, s5, s6, s7, s8, s9, s10, s11, s12, s13, s14, s15, s16, s17⟩; go_simp; with_reducible rfl
 rotate_left
 · simp only [qa_, qb_, qc_, qd_, i64_w, i32_w]; rfl
 refine one_ (i := 4) (N := some 8) #[true, true, true, true, true, false, true, true, false, false] rfl rfl (one_of HT_.out (by kernel_rfl)) (by decide) (fun K hK => ?_)
 refine goes_ Tryd.func39 (by kernel_rfl) rfl #[.agg #[.int .i64 a0_0, .int .i64 a0_1, .int .i64 a0_2, .int .i64 a0_3, .int .i64 a0_4, .int .i64 a0_5, .int .u64 a0_6, .int .i64 a0_7, .int .i64 a0_8, .int .i64 a0_9, .int .u64 a0_10, .int .u64 a0_11, .int .u64 a0_12, .int .u64 a0_13, .bool a0_14, .bool a0_15, .bool a0_16, .bool a0_17]] (by rfl) rfl rfl (by (try simp only [List.map_toArray, List.map_cons, List.map_nil]); first | done | rfl | (simp only [List.length_drop, List.length_take]; rfl)) ?_
 with_reducible refine (alu_worker_v.calls k a0_0 a0_1 a0_2 a0_3 a0_4 a0_5 a0_6 a0_7 a0_8 a0_9 a0_10 a0_11 a0_12 a0_13 a0_14 a0_15 a0_16 a0_17 t153 _ A2.out).mono ?_
 rintro e w6 ⟨rfl, hb⟩
 refine ⟨_, rfl, ?_⟩
 have n0_ := Aside0.mk (blk_below (g := gb151) (o := .cells #[.int .i64 a0_0, .int .i64 a0_1, .int .i64 a0_2, .int .i64 a0_3, .int .i64 a0_4, .int .i64 a0_5, .int .u64 a0_6, .int .i64 a0_7, .int .i64 a0_8, .int .i64 a0_9, .int .u64 a0_10, .int .u64 a0_11, .int .u64 a0_12, .int .u64 a0_13, .bool a0_14, .bool a0_15, .bool a0_16, .bool a0_17] 49 (0, 0)) (by (with_reducible repeat (first | refine blk_drewN ?_ _ | refine blk_drew ?_ | refine blk_alloc ?_ _)); exact BK151.out) hb)
 have n1_ := Aside0.mk (blk_below (g := gb152) (o := .cells #[.bool false, .bool false, .bool false, .bool false] 35 (0, 0)) (by (with_reducible repeat (first | refine blk_drewN ?_ _ | refine blk_drew ?_ | refine blk_alloc ?_ _)); exact BK152.out) hb)
 have n2_ := Aside0.mk (below_step (by repeat (first | (with_reducible first | exact HB.out | apply below_alloc | apply pw_below_drewN | apply below_drew1 | refine below_set ?_ GE151.out | refine below_set ?_ GE152.out) | exact HB.out)) hb)
 clear BK151
 clear BK152
 clear HB
 have BK151 := n0_
 have BK152 := n1_
 have HB := n2_
 clear n0_ n1_ n2_
 (try clear hb)
 (try clear hb2)
 (try clear hk)
 (try clear hi)
 refine hK.out _ _ ⟨(blk_cell BK151.out 0).trans rfl, (blk_cell BK151.out 1).trans rfl, (blk_cell BK151.out 2).trans rfl, (blk_cell BK151.out 3).trans rfl, (blk_cell BK151.out 4).trans rfl, (blk_cell BK151.out 5).trans rfl, (blk_cell BK151.out 6).trans rfl, (blk_cell BK151.out 7).trans rfl, (blk_cell BK151.out 8).trans rfl, (blk_cell BK151.out 9).trans rfl, (blk_cell BK151.out 10).trans rfl, (blk_cell BK151.out 11).trans rfl, (blk_cell BK151.out 12).trans rfl, (blk_cell BK151.out 13).trans rfl, (blk_cell BK151.out 14).trans rfl, (blk_cell BK151.out 15).trans rfl, (blk_cell BK151.out 16).trans rfl, (blk_cell BK151.out 17).trans rfl⟩ (fun hHeld => ?_)
 clear hK K
 refine norm_ (a' := ?_) ?_ ?_
 rotate_left
 ·
  show Act.put _ (some 8) _ = _
  simp only [qa_, qb_, qc_, qd_, i64_w, i32_w]
  rfl
 refine pure_ (i := 5) (N := some 9) (v := ?_) (a' := ?_) #[true, true, true, true, true, true, true, true, false, false] rfl rfl (any_of HT_.out (by kernel_rfl)) (fun _ _ _ h => h) (Or.inl ⟨by rfl, ?_⟩) ?_ ?_
 rotate_left
 · intro w'; go_simp; with_reducible rfl
 rotate_left
 · simp only [qa_, qb_, qc_, qd_, i64_w, i32_w]; rfl
 refine pure_ (i := 8) (N := some 2) (v := ?_) (a' := ?_) #[true, true, true, true, true, true, true, true, true, false] rfl rfl (any_of HT_.out (by kernel_rfl)) (fun _ _ _ h => h) (Or.inl ⟨by rfl, ?_⟩) ?_ ?_
 rotate_left
 · intro w'; go_simp; with_reducible rfl
 rotate_left
 · simp only [qa_, qb_, qc_, qd_, i64_w, i32_w]; rfl
 refine one_ (i := 9) (N := none) #[true, true, true, true, true, true, true, true, true, true] rfl rfl (one_of HT_.out (by kernel_rfl)) (by decide) (fun K hK => ?_)
 have hs7 : w6.cell? ⟨gb152, 0, none⟩ = some (.bool false) := (blk_cell BK152.out 0).trans rfl
 have hfs7 := blk_frozen BK152.out 0
 have hns7_0 := NB151_152.out
 have hms7_0 := NB152_151.out
 have hs8 : w6.cell? ⟨gb152, 1, none⟩ = some (.bool false) := (blk_cell BK152.out 1).trans rfl
 have hfs8 := blk_frozen BK152.out 1
 have hns8_0 := NB151_152.out
 have hms8_0 := NB152_151.out
 have hs9 : w6.cell? ⟨gb152, 2, none⟩ = some (.bool false) := (blk_cell BK152.out 2).trans rfl
 have hfs9 := blk_frozen BK152.out 2
 have hns9_0 := NB151_152.out
 have hms9_0 := NB152_151.out
 have hs10 : w6.cell? ⟨gb152, 3, none⟩ = some (.bool false) := (blk_cell BK152.out 3).trans rfl
 have hfs10 := blk_frozen BK152.out 3
 have hns10_0 := NB151_152.out
 have hms10_0 := NB152_151.out
 refine skip_ (w1 := ?_) (by rfl) rfl ?_ ?_
 rotate_left
 ·
  go_simp
  rfl
 refine hK.out _ _ ⟨((cell_far (p := ⟨gb152, _, none⟩) NB151_152.out _).trans (((cell_far (p := ⟨gb152, _, none⟩) NB151_152.out _).trans (((cell_far (p := ⟨gb152, _, none⟩) NB151_152.out _).trans (((cell_far (p := ⟨gb152, _, none⟩) NB151_152.out _).trans (hHeld.1)))))))), ((cell_far (p := ⟨gb152, _, none⟩) NB151_152.out _).trans (((cell_far (p := ⟨gb152, _, none⟩) NB151_152.out _).trans (((cell_far (p := ⟨gb152, _, none⟩) NB151_152.out _).trans (((cell_far (p := ⟨gb152, _, none⟩) NB151_152.out _).trans (hHeld.2.1)))))))), ((cell_far (p := ⟨gb152, _, none⟩) NB151_152.out _).trans (((cell_far (p := ⟨gb152, _, none⟩) NB151_152.out _).trans (((cell_far (p := ⟨gb152, _, none⟩) NB151_152.out _).trans (((cell_far (p := ⟨gb152, _, none⟩) NB151_152.out _).trans (hHeld.2.2.1)))))))), ((cell_far (p := ⟨gb152, _, none⟩) NB151_152.out _).trans (((cell_far (p := ⟨gb152, _, none⟩) NB151_152.out _).trans (((cell_far (p := ⟨gb152, _, none⟩) NB151_152.out _).trans (((cell_far (p := ⟨gb152, _, none⟩) NB151_152.out _).trans (hHeld.2.2.2.1)))))))), ((cell_far (p := ⟨gb152, _, none⟩) NB151_152.out _).trans (((cell_far (p := ⟨gb152, _, none⟩) NB151_152.out _).trans (((cell_far (p := ⟨gb152, _, none⟩) NB151_152.out _).trans (((cell_far (p := ⟨gb152, _, none⟩) NB151_152.out _).trans (hHeld.2.2.2.2.1)))))))), ((cell_far (p := ⟨gb152, _, none⟩) NB151_152.out _).trans (((cell_far (p := ⟨gb152, _, none⟩) NB151_152.out _).trans (((cell_far (p := ⟨gb152, _, none⟩) NB151_152.out _).trans (((cell_far (p := ⟨gb152, _, none⟩) NB151_152.out _).trans (hHeld.2.2.2.2.2.1)))))))), ((cell_far (p := ⟨gb152, _, none⟩) NB151_152.out _).trans (((cell_far (p := ⟨gb152, _, none⟩) NB151_152.out _).trans (((cell_far (p := ⟨gb152, _, none⟩) NB151_152.out _).trans (((cell_far (p := ⟨gb152, _, none⟩) NB151_152.out _).trans (hHeld.2.2.2.2.2.2.1)))))))), ((cell_far (p := ⟨gb152, _, none⟩) NB151_152.out _).trans (((cell_far (p := ⟨gb152, _, none⟩) NB151_152.out _).trans (((cell_far (p := ⟨gb152, _, none⟩) NB151_152.out _).trans (((cell_far (p := ⟨gb152, _, none⟩) NB151_152.out _).trans (hHeld.2.2.2.2.2.2.2.1)))))))), ((cell_far (p := ⟨gb152, _, none⟩) NB151_152.out _).trans (((cell_far (p := ⟨gb152, _, none⟩) NB151_152.out _).trans (((cell_far (p := ⟨gb152, _, none⟩) NB151_152.out _).trans (((cell_far (p := ⟨gb152, _, none⟩) NB151_152.out _).trans (hHeld.2.2.2.2.2.2.2.2.1)))))))), ((cell_far (p := ⟨gb152, _, none⟩) NB151_152.out _).trans (((cell_far (p := ⟨gb152, _, none⟩) NB151_152.out _).trans (((cell_far (p := ⟨gb152, _, none⟩) NB151_152.out _).trans (((cell_far (p := ⟨gb152, _, none⟩) NB151_152.out _).trans (hHeld.2.2.2.2.2.2.2.2.2.1)))))))), ((cell_far (p := ⟨gb152, _, none⟩) NB151_152.out _).trans (((cell_far (p := ⟨gb152, _, none⟩) NB151_152.out _).trans (((cell_far (p := ⟨gb152, _, none⟩) NB151_152.out _).trans (((cell_far (p := ⟨gb152, _, none⟩) NB151_152.out _).trans (hHeld.2.2.2.2.2.2.2.2.2.2.1)))))))), ((cell_far (p := ⟨gb152, _, none⟩) NB151_152.out _).trans (((cell_far (p := ⟨gb152, _, none⟩) NB151_152.out _).trans (((cell_far (p := ⟨gb152, _, none⟩) NB151_152.out _).trans (((cell_far (p := ⟨gb152, _, none⟩) NB151_152.out _).trans (hHeld.2.2.2.2.2.2.2.2.2.2.2.1)))))))), ((cell_far (p := ⟨gb152, _, none⟩) NB151_152.out _).trans (((cell_far (p := ⟨gb152, _, none⟩) NB151_152.out _).trans (((cell_far (p := ⟨gb152, _, none⟩) NB151_152.out _).trans (((cell_far (p := ⟨gb152, _, none⟩) NB151_152.out _).trans (hHeld.2.2.2.2.2.2.2.2.2.2.2.2.1)))))))), ((cell_far (p := ⟨gb152, _, none⟩) NB151_152.out _).trans (((cell_far (p := ⟨gb152, _, none⟩) NB151_152.out _).trans (((cell_far (p := ⟨gb152, _, none⟩) NB151_152.out _).trans (((cell_far (p := ⟨gb152, _, none⟩) NB151_152.out _).trans (hHeld.2.2.2.2.2.2.2.2.2.2.2.2.2.1)))))))), ((cell_far (p := ⟨gb152, _, none⟩) NB151_152.out _).trans (((cell_far (p := ⟨gb152, _, none⟩) NB151_152.out _).trans (((cell_far (p := ⟨gb152, _, none⟩) NB151_152.out _).trans (((cell_far (p := ⟨gb152, _, none⟩) NB151_152.out _).trans (hHeld.2.2.2.2.2.2.2.2.2.2.2.2.2.2.1)))))))), ((cell_far (p := ⟨gb152, _, none⟩) NB151_152.out _).trans (((cell_far (p := ⟨gb152, _, none⟩) NB151_152.out _).trans (((cell_far (p := ⟨gb152, _, none⟩) NB151_152.out _).trans (((cell_far (p := ⟨gb152, _, none⟩) NB151_152.out _).trans (hHeld.2.2.2.2.2.2.2.2.2.2.2.2.2.2.2.1)))))))), ((cell_far (p := ⟨gb152, _, none⟩) NB151_152.out _).trans (((cell_far (p := ⟨gb152, _, none⟩) NB151_152.out _).trans (((cell_far (p := ⟨gb152, _, none⟩) NB151_152.out _).trans (((cell_far (p := ⟨gb152, _, none⟩) NB151_152.out _).trans (hHeld.2.2.2.2.2.2.2.2.2.2.2.2.2.2.2.2.1)))))))), ((cell_far (p := ⟨gb152, _, none⟩) NB151_152.out _).trans (((cell_far (p := ⟨gb152, _, none⟩) NB151_152.out _).trans (((cell_far (p := ⟨gb152, _, none⟩) NB151_152.out _).trans (((cell_far (p := ⟨gb152, _, none⟩) NB151_152.out _).trans (hHeld.2.2.2.2.2.2.2.2.2.2.2.2.2.2.2.2.2))))))))⟩ (fun hHeld => ?_)
 clear hK K
 refine done_ (done_of HT_.out (by kernel_rfl)) ?_
 try go_wp2
 refine bodyPost_ret (results_tc rfl _ _ gb152 35 #[.bool a0_14, .bool a0_15, .bool a0_16, .bool a0_17] (0, 0) _ rfl (by (with_reducible repeat (first | refine blk_drewN ?_ _ | refine blk_drew ?_ | refine blk_alloc ?_ _)); refine blk_put (cs := #[.bool a0_14, .bool a0_15, .bool a0_16, .bool false]) ?_ 3 _ rfl; (with_reducible repeat (first | refine blk_drewN ?_ _ | refine blk_drew ?_ | refine blk_alloc ?_ _)); refine blk_put (cs := #[.bool a0_14, .bool a0_15, .bool false, .bool false]) ?_ 2 _ rfl; (with_reducible repeat (first | refine blk_drewN ?_ _ | refine blk_drew ?_ | refine blk_alloc ?_ _)); refine blk_put (cs := #[.bool a0_14, .bool false, .bool false, .bool false]) ?_ 1 _ rfl; (with_reducible repeat (first | refine blk_drewN ?_ _ | refine blk_drew ?_ | refine blk_alloc ?_ _)); refine blk_put (cs := #[.bool false, .bool false, .bool false, .bool false]) ?_ 0 _ rfl; (with_reducible repeat (first | refine blk_drewN ?_ _ | refine blk_drew ?_ | refine blk_alloc ?_ _)); exact BK152.out) Tryd.underlying35 rfl (by kernel_rfl)) rfl ?_
 exact ⟨by first | rfl | (simp [errW_none, errW_some] <;> rfl) | (simp [*, errW_none, errW_some] <;> rfl), by repeat (first | (with_reducible first | exact HB.out | apply below_alloc | apply pw_below_drewN | apply below_drew1 | refine below_set ?_ GE151.out | refine below_set ?_ GE152.out) | exact HB.out)⟩

/-! ### alu_worker_eor: function 28 -/
def alu_worker_eor.f (k : Nat) (a0_0 : Int) (a0_1 : Int) (a0_2 : Int) (a0_3 : Int) (a0_4 : Int) (a0_5 : Int) (a0_6 : Int) (a0_7 : Int) (a0_8 : Int) (a0_9 : Int) (a0_10 : Int) (a0_11 : Int) (a0_12 : Int) (a0_13 : Int) (a0_14 : Bool) (a0_15 : Bool) (a0_16 : Bool) (a0_17 : Bool) : Option (Int × Bool × Bool × Bool × Bool) := (alu_worker_v.f k a0_0 a0_1 a0_2 a0_3 a0_4 a0_5 a0_6 a0_7 a0_8 a0_9 a0_10 a0_11 a0_12 a0_13 a0_14 a0_15 a0_16 a0_17).bind fun t156 => (some (Go.bits .xor .u64 a0_11 t156, a0_14, a0_15, a0_16, a0_17))
theorem alu_worker_eor.mono : ∀ a0 a1 a2 a3 a4 a5 a6 a7 a8 a9 a10 a11 a12 a13 a14 a15 a16 a17 k, LeO (alu_worker_eor.f k a0 a1 a2 a3 a4 a5 a6 a7 a8 a9 a10 a11 a12 a13 a14 a15 a16 a17) (alu_worker_eor.f (k + 1) a0 a1 a2 a3 a4 a5 a6 a7 a8 a9 a10 a11 a12 a13 a14 a15 a16 a17) := by
 intro a0 a1 a2 a3 a4 a5 a6 a7 a8 a9 a10 a11 a12 a13 a14 a15 a16 a17 k
 unfold alu_worker_eor.f
 repeat' first
   | (with_reducible exact alu_worker_v.mono _ _ _ _ _ _ _ _ _ _ _ _ _ _ _ _ _ _ _)
   | (with_reducible exact LeO.refl _)
   | (with_reducible exact LeO.none _)
   | (with_reducible refine LeO.ite ?_ ?_)
   | (with_reducible refine LeO.bind ?_ (fun _ => ?_))
   | exact alu_worker_v.mono _ _ _ _ _ _ _ _ _ _ _ _ _ _ _ _ _ _ _
   | exact LeO.none _
   | refine LeO.ite ?_ ?_
   | refine LeO.bind ?_ (fun _ => ?_)
def alu_worker_eor.T1 : Bool × List (List Nat × List Nat) := (true, [([], []), ([0], [0]), ([1], [1]), ([], []), ([3], [3]), ([2, 4], [2, 4]), ([], []), ([6], [6]), ([5, 4, 0, 1, 2, 3, 4, 5], [5]), ([7, 8, 0, 1, 2, 3, 4, 5, 6, 7, 8], [7])])
def alu_worker_eor.B1 : List Nat := [0, 1, 3, 0, 8, 31, 0, 64, 63, 511]
theorem alu_worker_eor.tab1 : rtab .any (opsOf Tryd.f28 1) = alu_worker_eor.T1 := by kernel_rfl
theorem alu_worker_eor.bits1 : waitsOk alu_worker_eor.T1.2 alu_worker_eor.B1 = true := by kernel_rfl
set_option maxHeartbeats 8000000 in
set_option maxRecDepth 100000 in
theorem alu_worker_eor.calls (k : Nat) (a0_0 : Int) (a0_1 : Int) (a0_2 : Int) (a0_3 : Int) (a0_4 : Int) (a0_5 : Int) (a0_6 : Int) (a0_7 : Int) (a0_8 : Int) (a0_9 : Int) (a0_10 : Int) (a0_11 : Int) (a0_12 : Int) (a0_13 : Int) (a0_14 : Bool) (a0_15 : Bool) (a0_16 : Bool) (a0_17 : Bool) (r1 : Int) (r2 : Bool) (r3 : Bool) (r4 : Bool) (r5 : Bool) (w : World) (h : alu_worker_eor.f k a0_0 a0_1 a0_2 a0_3 a0_4 a0_5 a0_6 a0_7 a0_8 a0_9 a0_10 a0_11 a0_12 a0_13 a0_14 a0_15 a0_16 a0_17 = some (r1, r2, r3, r4, r5)) :
    Calls Tryd.prog 28 #[.agg #[.int .i64 a0_0, .int .i64 a0_1, .int .i64 a0_2, .int .i64 a0_3, .int .i64 a0_4, .int .i64 a0_5, .int .u64 a0_6, .int .i64 a0_7, .int .i64 a0_8, .int .i64 a0_9, .int .u64 a0_10, .int .u64 a0_11, .int .u64 a0_12, .int .u64 a0_13, .bool a0_14, .bool a0_15, .bool a0_16, .bool a0_17]] w fun e w' => e = .returned (.tuple #[.int .u64 r1, .agg #[.bool r2, .bool r3, .bool r4, .bool r5]]) ∧ Below w.heap.size w w' := by
 have hu49 := Tryd.underlying49
 have hu35 := Tryd.underlying35
 have HB := Aside0.mk (Below.refl w.heap.size w)
 have H : ((alu_worker_v.f k a0_0 a0_1 a0_2 a0_3 a0_4 a0_5 a0_6 a0_7 a0_8 a0_9 a0_10 a0_11 a0_12 a0_13 a0_14 a0_15 a0_16 a0_17).bind fun t156 => (some (Go.bits .xor .u64 a0_11 t156, a0_14, a0_15, a0_16, a0_17))) = some (r1, r2, r3, r4, r5) := h
 clear h
 replace H := Option.bind_eq_some_iff.mp H
 obtain ⟨t156, A20, H⟩ := H
 replace H : (some (Go.bits .xor .u64 a0_11 t156, a0_14, a0_15, a0_16, a0_17)) = some (r1, r2, r3, r4, r5) := H
 have A2 := Aside0.mk A20
 clear A20
 simp only [Option.some.injEq, Prod.mk.injEq] at H
 obtain ⟨rfl, rfl, rfl, rfl, rfl⟩ := H
 go_enter Tryd.func28, Tryd.ntmps28
 try go_wp2_with (first | ((with_reducible refine gate_dst (N := 1) rfl ?_); refine box_event ?hg (N := 1) ?hd (cs := #[.int .i64 a0_0, .int .i64 a0_1, .int .i64 a0_2, .int .i64 a0_3, .int .i64 a0_4, .int .i64 a0_5, .int .u64 a0_6, .int .i64 a0_7, .int .i64 a0_8, .int .i64 a0_9, .int .u64 a0_10, .int .u64 a0_11, .int .u64 a0_12, .int .u64 a0_13, .bool a0_14, .bool a0_15, .bool a0_16, .bool a0_17]) (t := 49) ?hr ?_; (case hd => rfl); (case hg => rfl); (case hr => first | (go_simp; done) | (go_simp; rfl)); intro gb154 hg w3 hbox hb; have n0_ := Aside0.mk (below_step (by repeat (first | (with_reducible first | exact HB.out | apply below_alloc | apply pw_below_drewN | apply below_drew1) | exact HB.out)) hb); have n1_ := Aside0.mk (hbox); have n2_ := Aside0.mk ((by rw [hg]; exact (below_size (by repeat (first | (with_reducible first | exact HB.out | apply below_alloc | apply pw_below_drewN | apply below_drew1) | exact HB.out))) : w.heap.size ≤ gb154)); have n3_ := Aside0.mk ((by rw [hg]; exact (below_size (by repeat (first | (with_reducible first | exact HB.out | apply below_alloc | apply pw_below_drewN | apply below_drew1) | exact HB.out))) : w.heap.size ≤ gb154)); clear HB; have HB := n0_; have BK154 := n1_; have GW154 := n2_; have GE154 := n3_; clear n0_ n1_ n2_ n3_; clear hb hbox hg) | ((with_reducible refine gate_dst (N := 3) rfl ?_); refine box_event ?hg (N := 3) ?hd (cs := #[.bool false, .bool false, .bool false, .bool false]) (t := 35) ?hr ?_; (case hd => rfl); (case hg => rfl); (case hr => first | (go_simp; done) | (go_simp; rfl)); intro gb155 hg w4 hbox hb; have n0_ := Aside0.mk (blk_below (g := gb154) (o := .cells #[.int .i64 a0_0, .int .i64 a0_1, .int .i64 a0_2, .int .i64 a0_3, .int .i64 a0_4, .int .i64 a0_5, .int .u64 a0_6, .int .i64 a0_7, .int .i64 a0_8, .int .i64 a0_9, .int .u64 a0_10, .int .u64 a0_11, .int .u64 a0_12, .int .u64 a0_13, .bool a0_14, .bool a0_15, .bool a0_16, .bool a0_17] 49 (0, 0)) (by (with_reducible repeat (first | refine blk_drewN ?_ _ | refine blk_drew ?_ | refine blk_alloc ?_ _)); exact BK154.out) hb); have n1_ := Aside0.mk (below_step (by repeat (first | (with_reducible first | exact HB.out | apply below_alloc | apply pw_below_drewN | apply below_drew1 | refine below_set ?_ GE154.out) | exact HB.out)) hb); have n2_ := Aside0.mk (hbox); have n3_ := Aside0.mk ((by rw [hg]; exact (below_size (by repeat (first | (with_reducible first | exact HB.out | apply below_alloc | apply pw_below_drewN | apply below_drew1 | refine below_set ?_ GE154.out) | exact HB.out))) : w.heap.size ≤ gb155)); have n4_ := Aside0.mk ((by rw [hg]; exact (below_size (by repeat (first | (with_reducible first | exact HB.out | apply below_alloc | apply pw_below_drewN | apply below_drew1 | refine below_set ?_ GE154.out) | exact HB.out))) : w.heap.size ≤ gb155)); have n5_ := Aside0.mk ((by rw [hg]; exact Nat.ne_of_lt (blk_lt (g := gb154) (o := .cells #[.int .i64 a0_0, .int .i64 a0_1, .int .i64 a0_2, .int .i64 a0_3, .int .i64 a0_4, .int .i64 a0_5, .int .u64 a0_6, .int .i64 a0_7, .int .i64 a0_8, .int .i64 a0_9, .int .u64 a0_10, .int .u64 a0_11, .int .u64 a0_12, .int .u64 a0_13, .bool a0_14, .bool a0_15, .bool a0_16, .bool a0_17] 49 (0, 0)) (by (with_reducible repeat (first | refine blk_drewN ?_ _ | refine blk_drew ?_ | refine blk_alloc ?_ _)); exact BK154.out)) : gb154 ≠ gb155)); have n6_ := Aside0.mk ((by rw [hg]; exact Nat.ne_of_gt (blk_lt (g := gb154) (o := .cells #[.int .i64 a0_0, .int .i64 a0_1, .int .i64 a0_2, .int .i64 a0_3, .int .i64 a0_4, .int .i64 a0_5, .int .u64 a0_6, .int .i64 a0_7, .int .i64 a0_8, .int .i64 a0_9, .int .u64 a0_10, .int .u64 a0_11, .int .u64 a0_12, .int .u64 a0_13, .bool a0_14, .bool a0_15, .bool a0_16, .bool a0_17] 49 (0, 0)) (by (with_reducible repeat (first | refine blk_drewN ?_ _ | refine blk_drew ?_ | refine blk_alloc ?_ _)); exact BK154.out)) : gb155 ≠ gb154)); clear BK154; clear HB; have BK154 := n0_; have HB := n1_; have BK155 := n2_; have GW155 := n3_; have GE155 := n4_; have NB154_155 := n5_; have NB155_154 := n6_; clear n0_ n1_ n2_ n3_ n4_ n5_ n6_; clear hb hbox hg))
 have n0_ := Aside0.mk (blk_drew BK154.out)
 have n1_ := Aside0.mk (blk_drew BK155.out)
 have n2_ := Aside0.mk (below_drew1 HB.out)
 clear BK154
 clear BK155
 clear HB
 have BK154 := n0_
 have BK155 := n1_
 have HB := n2_
 clear n0_ n1_ n2_
 refine start_ (n := 10) (S := fun w' => w'.cell? ⟨gb154, 0, none⟩ = some (.int .i64 a0_0) ∧ w'.cell? ⟨gb154, 1, none⟩ = some (.int .i64 a0_1) ∧ w'.cell? ⟨gb154, 2, none⟩ = some (.int .i64 a0_2) ∧ w'.cell? ⟨gb154, 3, none⟩ = some (.int .i64 a0_3) ∧ w'.cell? ⟨gb154, 4, none⟩ = some (.int .i64 a0_4) ∧ w'.cell? ⟨gb154, 5, none⟩ = some (.int .i64 a0_5) ∧ w'.cell? ⟨gb154, 6, none⟩ = some (.int .u64 a0_6) ∧ w'.cell? ⟨gb154, 7, none⟩ = some (.int .i64 a0_7) ∧ w'.cell? ⟨gb154, 8, none⟩ = some (.int .i64 a0_8) ∧ w'.cell? ⟨gb154, 9, none⟩ = some (.int .i64 a0_9) ∧ w'.cell? ⟨gb154, 10, none⟩ = some (.int .u64 a0_10) ∧ w'.cell? ⟨gb154, 11, none⟩ = some (.int .u64 a0_11) ∧ w'.cell? ⟨gb154, 12, none⟩ = some (.int .u64 a0_12) ∧ w'.cell? ⟨gb154, 13, none⟩ = some (.int .u64 a0_13) ∧ w'.cell? ⟨gb154, 14, none⟩ = some (.bool a0_14) ∧ w'.cell? ⟨gb154, 15, none⟩ = some (.bool a0_15) ∧ w'.cell? ⟨gb154, 16, none⟩ = some (.bool a0_16) ∧ w'.cell? ⟨gb154, 17, none⟩ = some (.bool a0_17)) (ds := []) #[false, false, false, false, false, false, false, false, false, false] (by kernel_rfl) rfl rfl ⟨(blk_cell BK154.out 0).trans rfl, (blk_cell BK154.out 1).trans rfl, (blk_cell BK154.out 2).trans rfl, (blk_cell BK154.out 3).trans rfl, (blk_cell BK154.out 4).trans rfl, (blk_cell BK154.out 5).trans rfl, (blk_cell BK154.out 6).trans rfl, (blk_cell BK154.out 7).trans rfl, (blk_cell BK154.out 8).trans rfl, (blk_cell BK154.out 9).trans rfl, (blk_cell BK154.out 10).trans rfl, (blk_cell BK154.out 11).trans rfl, (blk_cell BK154.out 12).trans rfl, (blk_cell BK154.out 13).trans rfl, (blk_cell BK154.out 14).trans rfl, (blk_cell BK154.out 15).trans rfl, (blk_cell BK154.out 16).trans rfl, (blk_cell BK154.out 17).trans rfl⟩ (fun hHeld => ?_); refine with_tabW alu_worker_eor.tab1 alu_worker_eor.bits1 (fun HT_ HW_ => ?_)
 generalize w4.drew = w5 at BK154 BK155 HB hHeld ⊢
 refine pure_ (i := 0) (N := some 4) (v := ?_) (a' := ?_) #[true, false, false, false, false, false, false, false, false, false] rfl rfl (any_of HT_.out (by kernel_rfl)) (fun _ _ _ h => h) (Or.inl ⟨by rfl, ?_⟩) ?_ ?_
 rotate_left
 · intro w'; go_simp; with_reducible rfl
 rotate_left
 · simp only [qa_, qb_, qc_, qd_, i64_w, i32_w]; rfl
 refine pure_ (i := 1) (N := some 5) (v := ?_) (a' := ?_) #[true, true, false, false, false, false, false, false, false, false] rfl rfl (any_of HT_.out (by kernel_rfl)) (fun _ _ _ h => h) (Or.inl ⟨by rfl, ?_⟩) ?_ ?_
 rotate_left
 · intro w'; go_simp; with_reducible rfl
 rotate_left
 · simp only [qa_, qb_, qc_, qd_, i64_w, i32_w]; rfl
 refine pure_ (i := 6) (N := some 10) (v := ?_) (a' := ?_) #[true, true, false, false, false, false, true, false, false, false] rfl rfl (any_of HT_.out (by kernel_rfl)) (fun _ _ _ h => h) (Or.inl ⟨by rfl, ?_⟩) ?_ ?_
 rotate_left
 · intro w'; go_simp; with_reducible rfl
 rotate_left
 · simp only [qa_, qb_, qc_, qd_, i64_w, i32_w]; rfl
 refine take_ (i := 2) (N := some 6) (v := ?_) (a' := ?_) #[true, true, true, false, false, false, true, false, false, false] rfl rfl (take_ofW HT_.out HW_.out (by kernel_rfl)) (fun _ _ _ h => h) (Or.inl ⟨by rfl, ?_⟩) hHeld ?_ ?_
 rotate_left
 · rintro w' ⟨s0, s1, s2, s3, s4, s5, s6, s7, s8, s9, s10, s11, s12, s13, s14, s15, s16, s17⟩; go_simp; with_reducible rfl
 rotate_left
 · simp only [qa_, qb_, qc_, qd_, i64_w, i32_w]; rfl
 refine take_ (i := 3) (N := some 7) (v := ?_) (a' := ?_) #[true, true, true, true, false, false, true, false, false, false] rfl rfl (take_ofW HT_.out HW_.out (by kernel_rfl)) (fun _ _ _ h => h) (Or.inl ⟨by rfl, ?_⟩) hHeld ?_ ?_
 rotate_left
 · rintro w' ⟨s0, s1, s2, s3, s4, s5, s6, s7, s8, s9, s10, s11, s12, s13, s14, s15, s16, s17⟩; go_simp; with_reducible rfl
 rotate_left
 · simp only [qa_, qb_, qc_, qd_, i64_w, i32_w]; rfl
 refine take_ (i := 7) (N := some 11) (v := ?_) (a' := ?_) #[true, true, true, true, false, false, true, true, false, false] rfl rfl (take_ofW HT_.out HW_.out (by kernel_rfl)) (fun _ _ _ h => h) (Or.inl ⟨by rfl, ?_⟩) hHeld ?_ ?_
 rotate_left
 · rintro w' ⟨s0, s1, s2, s3, s4, s5, s6, s7, s8, s9, s10, s11, s12, s13, s14, s15, s16, s17⟩; go_simp; with_reducible rfl
 rotate_left
 · simp only [qa_, qb_, qc_, qd_, i64_w, i32_w]; rfl
 refine one_ (i := 4) (N := some 8) #[true, true, true, true, true, false, true, true, false, false] rfl rfl (one_of HT_.out (by kernel_rfl)) (by decide) (fun K hK => ?_)
 refine goes_ Tryd.func39 (by kernel_rfl) rfl #[.agg #[.int .i64 a0_0, .int .i64 a0_1, .int .i64 a0_2, .int .i64 a0_3, .int .i64 a0_4, .int .i64 a0_5, .int .u64 a0_6, .int .i64 a0_7, .int .i64 a0_8, .int .i64 a0_9, .int .u64 a0_10, .int .u64 a0_11, .int .u64 a0_12, .int .u64 a0_13, .bool a0_14, .bool a0_15, .bool a0_16, .bool a0_17]] (by rfl) rfl rfl (by (try simp only [List.map_toArray, List.map_cons, List.map_nil]); first | done | rfl | (simp only [List.length_drop, List.length_take]; rfl)) ?_
 with_reducible refine (alu_worker_v.calls k a0_0 a0_1 a0_2 a0_3 a0_4 a0_5 a0_6 a0_7 a0_8 a0_9 a0_10 a0_11 a0_12 a0_13 a0_14 a0_15 a0_16 a0_17 t156 _ A2.out).mono ?_
 rintro e w6 ⟨rfl, hb⟩
 refine ⟨_, rfl, ?_⟩
 have n0_ := Aside0.mk (blk_below (g := gb154) (o := .cells #[.int .i64 a0_0, .int .i64 a0_1, .int .i64 a0_2, .int .i64 a0_3, .int .i64 a0_4, .int .i64 a0_5, .int .u64 a0_6, .int .i64 a0_7, .int .i64 a0_8, .int .i64 a0_9, .int .u64 a0_10, .int .u64 a0_11, .int .u64 a0_12, .int .u64 a0_13, .bool a0_14, .bool a0_15, .bool a0_16, .bool a0_17] 49 (0, 0)) (by (with_reducible repeat (first | refine blk_drewN ?_ _ | refine blk_drew ?_ | refine blk_alloc ?_ _)); exact BK154.out) hb)
 have n1_ := Aside0.mk (blk_below (g := gb155) (o := .cells #[.bool false, .bool false, .bool false, .bool false] 35 (0, 0)) (by (with_reducible repeat (first | refine blk_drewN ?_ _ | refine blk_drew ?_ | refine blk_alloc ?_ _)); exact BK155.out) hb)
 have n2_ := Aside0.mk (below_step (by repeat (first | (with_reducible first | exact HB.out | apply below_alloc | apply pw_below_drewN | apply below_drew1 | refine below_set ?_ GE154.out | refine below_set ?_ GE155.out) | exact HB.out)) hb)
 clear BK154
 clear BK155
 clear HB
 have BK154 := n0_
 have BK155 := n1_
 have HB := n2_
 clear n0_ n1_ n2_
 (try clear hb)
 (try clear hb2)
 (try clear hk)
 (try clear hi)
 refine hK.out _ _ ⟨(blk_cell BK154.out 0).trans rfl, (blk_cell BK154.out 1).trans rfl, (blk_cell BK154.out 2).trans rfl, (blk_cell BK154.out 3).trans rfl, (blk_cell BK154.out 4).trans rfl, (blk_cell BK154.out 5).trans rfl, (blk_cell BK154.out 6).trans rfl, (blk_cell BK154.out 7).trans rfl, (blk_cell BK154.out 8).trans rfl, (blk_cell BK154.out 9).trans rfl, (blk_cell BK154.out 10).trans rfl, (blk_cell BK154.out 11).trans rfl, (blk_cell BK154.out 12).trans rfl, (blk_cell BK154.out 13).trans rfl, (blk_cell BK154.out 14).trans rfl, (blk_cell BK154.out 15).trans rfl, (blk_cell BK154.out 16).trans rfl, (blk_cell BK154.out 17).trans rfl⟩ (fun hHeld => ?_)
 clear hK K
 refine norm_ (a' := ?_) ?_ ?_
 rotate_left
 ·
  show Act.put _ (some 8) _ = _
  simp only [qa_, qb_, qc_, qd_, i64_w, i32_w]
  rfl
 refine pure_ (i := 5) (N := some 9) (v := ?_) (a' := ?_) #[true, true, true, true, true, true, true, true, false, false] rfl rfl (any_of HT_.out (by kernel_rfl)) (fun _ _ _ h => h) (Or.inl ⟨by rfl, ?_⟩) ?_ ?_
 rotate_left
 · intro w'; go_simp; with_reducible rfl
 rotate_left
 · simp only [qa_, qb_, qc_, qd_, i64_w, i32_w]; rfl
 refine pure_ (i := 8) (N := some 2) (v := ?_) (a' := ?_) #[true, true, true, true, true, true, true, true, true, false] rfl rfl (any_of HT_.out (by kernel_rfl)) (fun _ _ _ h => h) (Or.inl ⟨by rfl, ?_⟩) ?_ ?_
 rotate_left
 · intro w'; go_simp; with_reducible rfl
 rotate_left
 · simp only [qa_, qb_, qc_, qd_, i64_w, i32_w]; rfl
 refine one_ (i := 9) (N := none) #[true, true, true, true, true, true, true, true, true, true] rfl rfl (one_of HT_.out (by kernel_rfl)) (by decide) (fun K hK => ?_)
 have hs7 : w6.cell? ⟨gb155, 0, none⟩ = some (.bool false) := (blk_cell BK155.out 0).trans rfl
 have hfs7 := blk_frozen BK155.out 0
 have hns7_0 := NB154_155.out
 have hms7_0 := NB155_154.out
 have hs8 : w6.cell? ⟨gb155, 1, none⟩ = some (.bool false) := (blk_cell BK155.out 1).trans rfl
 have hfs8 := blk_frozen BK155.out 1
 have hns8_0 := NB154_155.out
 have hms8_0 := NB155_154.out
 have hs9 : w6.cell? ⟨gb155, 2, none⟩ = some (.bool false) := (blk_cell BK155.out 2).trans rfl
 have hfs9 := blk_frozen BK155.out 2
 have hns9_0 := NB154_155.out
 have hms9_0 := NB155_154.out
 have hs10 : w6.cell? ⟨gb155, 3, none⟩ = some (.bool false) := (blk_cell BK155.out 3).trans rfl
 have hfs10 := blk_frozen BK155.out 3
 have hns10_0 := NB154_155.out
 have hms10_0 := NB155_154.out
 refine skip_ (w1 := ?_) (by rfl) rfl ?_ ?_
 rotate_left
 ·
  go_simp
  rfl
 refine hK.out _ _ ⟨((cell_far (p := ⟨gb155, _, none⟩) NB154_155.out _).trans (((cell_far (p := ⟨gb155, _, none⟩) NB154_155.out _).trans (((cell_far (p := ⟨gb155, _, none⟩) NB154_155.out _).trans (((cell_far (p := ⟨gb155, _, none⟩) NB154_155.out _).trans (hHeld.1)))))))), ((cell_far (p := ⟨gb155, _, none⟩) NB154_155.out _).trans (((cell_far (p := ⟨gb155, _, none⟩) NB154_155.out _).trans (((cell_far (p := ⟨gb155, _, none⟩) NB154_155.out _).trans (((cell_far (p := ⟨gb155, _, none⟩) NB154_155.out _).trans (hHeld.2.1)))))))), ((cell_far (p := ⟨gb155, _, none⟩) NB154_155.out _).trans (((cell_far (p := ⟨gb155, _, none⟩) NB154_155.out _).trans (((cell_far (p := ⟨gb155, _, none⟩) NB154_155.out _).trans (((cell_far (p := ⟨gb155, _, none⟩) NB154_155.out _).trans (hHeld.2.2.1)))))))), ((cell_far (p := ⟨gb155, _, none⟩) NB154_155.out _).trans (((cell_far (p := ⟨gb155, _, none⟩) NB154_155.out _).trans (((cell_far (p := ⟨gb155, _, none⟩) NB154_155.out _).trans (((cell_far (p := ⟨gb155, _, none⟩) NB154_155.out _).trans (hHeld.2.2.2.1)))))))), ((cell_far (p := ⟨gb155, _, none⟩) NB154_155.out _).trans (((cell_far (p := ⟨gb155, _, none⟩) NB154_155.out _).trans (((cell_far (p := ⟨gb155, _, none⟩) NB154_155.out _).trans (((cell_far (p := ⟨gb155, _, none⟩) NB154_155.out _).trans (hHeld.2.2.2.2.1)))))))), ((cell_far (p := ⟨gb155, _, none⟩) NB154_155.out _).trans (((cell_far (p := ⟨gb155, _, none⟩) NB154_155.out _).trans (((cell_far (p := ⟨gb155, _, none⟩) NB154_155.out _).trans (((cell_far (p := ⟨gb155, _, none⟩) NB154_155.out _).trans (hHeld.2.2.2.2.2.1)))))))), ((cell_far (p := ⟨gb155, _, none⟩) NB154_155.out _).trans (((cell_far (p := ⟨gb155, _, none⟩) NB154_155.out _).trans (((cell_far (p := ⟨gb155, _, none⟩) NB154_155.out _).trans (((cell_far (p := ⟨gb155, _, none⟩) NB154_155.out _).trans (hHeld.2.2.2.2.2.2.1)))))))), ((cell_far (p := ⟨gb155, _, none⟩) NB154_155.out _).trans (((cell_far (p := ⟨gb155, _, none⟩) NB154_155.out _).trans (((cell_far (p := ⟨gb155, _, none⟩) NB154_155.out _).trans (((cell_far (p := ⟨gb155, _, none⟩) NB154_155.out _).trans (hHeld.2.2.2.2.2.2.2.1)))))))), ((cell_far (p := ⟨gb155, _, none⟩) NB154_155.out _).trans (((cell_far (p := ⟨gb155, _, none⟩) NB154_155.out _).trans (((cell_far (p := ⟨gb155, _, none⟩) NB154_155.out _).trans (((cell_far (p := ⟨gb155, _, none⟩) NB154_155.out _).trans (hHeld.2.2.2.2.2.2.2.2.1)))))))), ((cell_far (p := ⟨gb155, _, none⟩) NB154_155.out _).trans (((cell_far (p := ⟨gb155, _, none⟩) NB154_155.out _).trans (((cell_far (p := ⟨gb155, _, none⟩) NB154_155.out _).trans (((cell_far (p := ⟨gb155, _, none⟩) NB154_155.out _).trans (hHeld.2.2.2.2.2.2.2.2.2.1)))))))), ((cell_far (p := ⟨gb155, _, none⟩) NB154_155.out _).trans (((cell_far (p := ⟨gb155, _, none⟩) NB154_155.out _).trans (((cell_far (p := ⟨gb155, _, none⟩) NB154_155.out _).trans (((cell_far (p := ⟨gb155, _, none⟩) NB154_155.out _).trans (hHeld.2.2.2.2.2.2.2.2.2.2.1)))))))), ((cell_far (p := ⟨gb155, _, none⟩) NB154_155.out _).trans (((cell_far (p := ⟨gb155, _, none⟩) NB154_155.out _).trans (((cell_far (p := ⟨gb155, _, none⟩) NB154_155.out _).trans (((cell_far (p := ⟨gb155, _, none⟩) NB154_155.out _).trans (hHeld.2.2.2.2.2.2.2.2.2.2.2.1)))))))), ((cell_far (p := ⟨gb155, _, none⟩) NB154_155.out _).trans (((cell_far (p := ⟨gb155, _, none⟩) NB154_155.out _).trans (((cell_far (p := ⟨gb155, _, none⟩) NB154_155.out _).trans (((cell_far (p := ⟨gb155, _, none⟩) NB154_155.out _).trans (hHeld.2.2.2.2.2.2.2.2.2.2.2.2.1)))))))), ((cell_far (p := ⟨gb155, _, none⟩) NB154_155.out _).trans (((cell_far (p := ⟨gb155, _, none⟩) NB154_155.out _).trans (((cell_far (p := ⟨gb155, _, none⟩) NB154_155.out _).trans (((cell_far (p := ⟨gb155, _, none⟩) NB154_155.out _).trans (hHeld.2.2.2.2.2.2.2.2.2.2.2.2.2.1)))))))), ((cell_far (p := ⟨gb155, _, none⟩) NB154_155.out _).trans (((cell_far (p := ⟨gb155, _, none⟩) NB154_155.out _).trans (((cell_far (p := ⟨gb155, _, none⟩) NB154_155.out _).trans (((cell_far (p := ⟨gb155, _, none⟩) NB154_155.out _).trans (hHeld.2.2.2.2.2.2.2.2.2.2.2.2.2.2.1)))))))), ((cell_far (p := ⟨gb155, _, none⟩) NB154_155.out _).trans (((cell_far (p := ⟨gb155, _, none⟩) NB154_155.out _).trans (((cell_far (p := ⟨gb155, _, none⟩) NB154_155.out _).trans (((cell_far (p := ⟨gb155, _, none⟩) NB154_155.out _).trans (hHeld.2.2.2.2.2.2.2.2.2.2.2.2.2.2.2.1)))))))), ((cell_far (p := ⟨gb155, _, none⟩) NB154_155.out _).trans (((cell_far (p := ⟨gb155, _, none⟩) NB154_155.out _).trans (((cell_far (p := ⟨gb155, _, none⟩) NB154_155.out _).trans (((cell_far (p := ⟨gb155, _, none⟩) NB154_155.out _).trans (hHeld.2.2.2.2.2.2.2.2.2.2.2.2.2.2.2.2.1)))))))), ((cell_far (p := ⟨gb155, _, none⟩) NB154_155.out _).trans (((cell_far (p := ⟨gb155, _, none⟩) NB154_155.out _).trans (((cell_far (p := ⟨gb155, _, none⟩) NB154_155.out _).trans (((cell_far (p := ⟨gb155, _, none⟩) NB154_155.out _).trans (hHeld.2.2.2.2.2.2.2.2.2.2.2.2.2.2.2.2.2))))))))⟩ (fun hHeld => ?_)
 clear hK K
 refine done_ (done_of HT_.out (by kernel_rfl)) ?_
 try go_wp2
 refine bodyPost_ret (results_tc rfl _ _ gb155 35 #[.bool a0_14, .bool a0_15, .bool a0_16, .bool a0_17] (0, 0) _ rfl (by (with_reducible repeat (first | refine blk_drewN ?_ _ | refine blk_drew ?_ | refine blk_alloc ?_ _)); refine blk_put (cs := #[.bool a0_14, .bool a0_15, .bool a0_16, .bool false]) ?_ 3 _ rfl; (with_reducible repeat (first | refine blk_drewN ?_ _ | refine blk_drew ?_ | refine blk_alloc ?_ _)); refine blk_put (cs := #[.bool a0_14, .bool a0_15, .bool false, .bool false]) ?_ 2 _ rfl; (with_reducible repeat (first | refine blk_drewN ?_ _ | refine blk_drew ?_ | refine blk_alloc ?_ _)); refine blk_put (cs := #[.bool a0_14, .bool false, .bool false, .bool false]) ?_ 1 _ rfl; (with_reducible repeat (first | refine blk_drewN ?_ _ | refine blk_drew ?_ | refine blk_alloc ?_ _)); refine blk_put (cs := #[.bool false, .bool false, .bool false, .bool false]) ?_ 0 _ rfl; (with_reducible repeat (first | refine blk_drewN ?_ _ | refine blk_drew ?_ | refine blk_alloc ?_ _)); exact BK155.out) Tryd.underlying35 rfl (by kernel_rfl)) rfl ?_
 exact ⟨by first | rfl | (simp [errW_none, errW_some] <;> rfl) | (simp [*, errW_none, errW_some] <;> rfl), by repeat (first | (with_reducible first | exact HB.out | apply below_alloc | apply pw_below_drewN | apply below_drew1 | refine below_set ?_ GE154.out | refine below_set ?_ GE155.out) | exact HB.out)⟩

/-! ### alu_worker_ands: function 29 -/
def alu_worker_ands.f (k : Nat) (a0_0 : Int) (a0_1 : Int) (a0_2 : Int) (a0_3 : Int) (a0_4 : Int) (a0_5 : Int) (a0_6 : Int) (a0_7 : Int) (a0_8 : Int) (a0_9 : Int) (a0_10 : Int) (a0_11 : Int) (a0_12 : Int) (a0_13 : Int) (a0_14 : Bool) (a0_15 : Bool) (a0_16 : Bool) (a0_17 : Bool) : Option (Int × Bool × Bool × Bool × Bool) := (alu_worker_and.f k a0_0 a0_1 a0_2 a0_3 a0_4 a0_5 a0_6 a0_7 a0_8 a0_9 a0_10 a0_11 a0_12 a0_13 a0_14 a0_15 a0_16 a0_17).bind fun bt159 => ((flag_Of.f bt159.1).bind fun bt165 => (some (bt159.1, bt165.1, bt165.2.1, bt165.2.2.1, bt165.2.2.2)))
theorem alu_worker_ands.mono : ∀ a0 a1 a2 a3 a4 a5 a6 a7 a8 a9 a10 a11 a12 a13 a14 a15 a16 a17 k, LeO (alu_worker_ands.f k a0 a1 a2 a3 a4 a5 a6 a7 a8 a9 a10 a11 a12 a13 a14 a15 a16 a17) (alu_worker_ands.f (k + 1) a0 a1 a2 a3 a4 a5 a6 a7 a8 a9 a10 a11 a12 a13 a14 a15 a16 a17) := by
 intro a0 a1 a2 a3 a4 a5 a6 a7 a8 a9 a10 a11 a12 a13 a14 a15 a16 a17 k
 unfold alu_worker_ands.f
 repeat' first
   | (with_reducible exact alu_worker_and.mono _ _ _ _ _ _ _ _ _ _ _ _ _ _ _ _ _ _ _)
   | (with_reducible exact LeO.refl _)
   | (with_reducible exact LeO.none _)
   | (with_reducible refine LeO.ite ?_ ?_)
   | (with_reducible refine LeO.bind ?_ (fun _ => ?_))
   | exact alu_worker_and.mono _ _ _ _ _ _ _ _ _ _ _ _ _ _ _ _ _ _ _
   | exact LeO.none _
   | refine LeO.ite ?_ ?_
   | refine LeO.bind ?_ (fun _ => ?_)
set_option maxHeartbeats 8000000 in
set_option maxRecDepth 100000 in
theorem alu_worker_ands.calls (k : Nat) (a0_0 : Int) (a0_1 : Int) (a0_2 : Int) (a0_3 : Int) (a0_4 : Int) (a0_5 : Int) (a0_6 : Int) (a0_7 : Int) (a0_8 : Int) (a0_9 : Int) (a0_10 : Int) (a0_11 : Int) (a0_12 : Int) (a0_13 : Int) (a0_14 : Bool) (a0_15 : Bool) (a0_16 : Bool) (a0_17 : Bool) (r1 : Int) (r2 : Bool) (r3 : Bool) (r4 : Bool) (r5 : Bool) (w : World) (h : alu_worker_ands.f k a0_0 a0_1 a0_2 a0_3 a0_4 a0_5 a0_6 a0_7 a0_8 a0_9 a0_10 a0_11 a0_12 a0_13 a0_14 a0_15 a0_16 a0_17 = some (r1, r2, r3, r4, r5)) :
    Calls Tryd.prog 29 #[.agg #[.int .i64 a0_0, .int .i64 a0_1, .int .i64 a0_2, .int .i64 a0_3, .int .i64 a0_4, .int .i64 a0_5, .int .u64 a0_6, .int .i64 a0_7, .int .i64 a0_8, .int .i64 a0_9, .int .u64 a0_10, .int .u64 a0_11, .int .u64 a0_12, .int .u64 a0_13, .bool a0_14, .bool a0_15, .bool a0_16, .bool a0_17]] w fun e w' => e = .returned (.tuple #[.int .u64 r1, .agg #[.bool r2, .bool r3, .bool r4, .bool r5]]) ∧ Below w.heap.size w w' := by
 have hu49 := Tryd.underlying49
 have hu35 := Tryd.underlying35
 have HB := Aside0.mk (Below.refl w.heap.size w)
 have H : ((alu_worker_and.f k a0_0 a0_1 a0_2 a0_3 a0_4 a0_5 a0_6 a0_7 a0_8 a0_9 a0_10 a0_11 a0_12 a0_13 a0_14 a0_15 a0_16 a0_17).bind fun bt159 => ((flag_Of.f bt159.1).bind fun bt165 => (some (bt159.1, bt165.1, bt165.2.1, bt165.2.2.1, bt165.2.2.2)))) = some (r1, r2, r3, r4, r5) := h
 clear h
 replace H := Option.bind_eq_some_iff.mp H
 obtain ⟨⟨t159, t160, t161, t162, t163⟩, A20, H⟩ := H
 replace H : ((flag_Of.f t159).bind fun bt165 => (some (t159, bt165.1, bt165.2.1, bt165.2.2.1, bt165.2.2.2))) = some (r1, r2, r3, r4, r5) := H
 have A2 := Aside0.mk A20
 clear A20
 replace H := Option.bind_eq_some_iff.mp H
 obtain ⟨⟨t165, t166, t167, t168⟩, A30, H⟩ := H
 replace H : (some (t159, t165, t166, t167, t168)) = some (r1, r2, r3, r4, r5) := H
 have A3 := Aside0.mk A30
 clear A30
 simp only [Option.some.injEq, Prod.mk.injEq] at H
 obtain ⟨rfl, rfl, rfl, rfl, rfl⟩ := H
 go_enter Tryd.func29, Tryd.ntmps29
 go_wp2_with (first | ((with_reducible refine gate_dst (N := 1) rfl ?_); refine box_event ?hg (N := 1) ?hd (cs := #[.int .i64 a0_0, .int .i64 a0_1, .int .i64 a0_2, .int .i64 a0_3, .int .i64 a0_4, .int .i64 a0_5, .int .u64 a0_6, .int .i64 a0_7, .int .i64 a0_8, .int .i64 a0_9, .int .u64 a0_10, .int .u64 a0_11, .int .u64 a0_12, .int .u64 a0_13, .bool a0_14, .bool a0_15, .bool a0_16, .bool a0_17]) (t := 49) ?hr ?_; (case hd => rfl); (case hg => rfl); (case hr => first | (go_simp; done) | (go_simp; rfl)); intro gb157 hg w4 hbox hb; have n0_ := Aside0.mk (below_step (by repeat (first | (with_reducible first | exact HB.out | apply below_alloc | apply pw_below_drewN | apply below_drew1) | exact HB.out)) hb); have n1_ := Aside0.mk (hbox); have n2_ := Aside0.mk ((by rw [hg]; exact (below_size (by repeat (first | (with_reducible first | exact HB.out | apply below_alloc | apply pw_below_drewN | apply below_drew1) | exact HB.out))) : w.heap.size ≤ gb157)); have n3_ := Aside0.mk ((by rw [hg]; exact (below_size (by repeat (first | (with_reducible first | exact HB.out | apply below_alloc | apply pw_below_drewN | apply below_drew1) | exact HB.out))) : w.heap.size ≤ gb157)); clear HB; have HB := n0_; have BK157 := n1_; have GW157 := n2_; have GE157 := n3_; clear n0_ n1_ n2_ n3_; clear hb hbox hg) | ((with_reducible refine gate_dst (N := 3) rfl ?_); refine box_event ?hg (N := 3) ?hd (cs := #[.bool false, .bool false, .bool false, .bool false]) (t := 35) ?hr ?_; (case hd => rfl); (case hg => rfl); (case hr => first | (go_simp; done) | (go_simp; rfl)); intro gb158 hg w5 hbox hb; have n0_ := Aside0.mk (blk_below (g := gb157) (o := .cells #[.int .i64 a0_0, .int .i64 a0_1, .int .i64 a0_2, .int .i64 a0_3, .int .i64 a0_4, .int .i64 a0_5, .int .u64 a0_6, .int .i64 a0_7, .int .i64 a0_8, .int .i64 a0_9, .int .u64 a0_10, .int .u64 a0_11, .int .u64 a0_12, .int .u64 a0_13, .bool a0_14, .bool a0_15, .bool a0_16, .bool a0_17] 49 (0, 0)) (by (with_reducible repeat (first | refine blk_drewN ?_ _ | refine blk_drew ?_ | refine blk_alloc ?_ _)); exact BK157.out) hb); have n1_ := Aside0.mk (below_step (by repeat (first | (with_reducible first | exact HB.out | apply below_alloc | apply pw_below_drewN | apply below_drew1 | refine below_set ?_ GE157.out) | exact HB.out)) hb); have n2_ := Aside0.mk (hbox); have n3_ := Aside0.mk ((by rw [hg]; exact (below_size (by repeat (first | (with_reducible first | exact HB.out | apply below_alloc | apply pw_below_drewN | apply below_drew1 | refine below_set ?_ GE157.out) | exact HB.out))) : w.heap.size ≤ gb158)); have n4_ := Aside0.mk ((by rw [hg]; exact (below_size (by repeat (first | (with_reducible first | exact HB.out | apply below_alloc | apply pw_below_drewN | apply below_drew1 | refine below_set ?_ GE157.out) | exact HB.out))) : w.heap.size ≤ gb158)); have n5_ := Aside0.mk ((by rw [hg]; exact Nat.ne_of_lt (blk_lt (g := gb157) (o := .cells #[.int .i64 a0_0, .int .i64 a0_1, .int .i64 a0_2, .int .i64 a0_3, .int .i64 a0_4, .int .i64 a0_5, .int .u64 a0_6, .int .i64 a0_7, .int .i64 a0_8, .int .i64 a0_9, .int .u64 a0_10, .int .u64 a0_11, .int .u64 a0_12, .int .u64 a0_13, .bool a0_14, .bool a0_15, .bool a0_16, .bool a0_17] 49 (0, 0)) (by (with_reducible repeat (first | refine blk_drewN ?_ _ | refine blk_drew ?_ | refine blk_alloc ?_ _)); exact BK157.out)) : gb157 ≠ gb158)); have n6_ := Aside0.mk ((by rw [hg]; exact Nat.ne_of_gt (blk_lt (g := gb157) (o := .cells #[.int .i64 a0_0, .int .i64 a0_1, .int .i64 a0_2, .int .i64 a0_3, .int .i64 a0_4, .int .i64 a0_5, .int .u64 a0_6, .int .i64 a0_7, .int .i64 a0_8, .int .i64 a0_9, .int .u64 a0_10, .int .u64 a0_11, .int .u64 a0_12, .int .u64 a0_13, .bool a0_14, .bool a0_15, .bool a0_16, .bool a0_17] 49 (0, 0)) (by (with_reducible repeat (first | refine blk_drewN ?_ _ | refine blk_drew ?_ | refine blk_alloc ?_ _)); exact BK157.out)) : gb158 ≠ gb157)); clear BK157; clear HB; have BK157 := n0_; have HB := n1_; have BK158 := n2_; have GW158 := n3_; have GE158 := n4_; have NB157_158 := n5_; have NB158_157 := n6_; clear n0_ n1_ n2_ n3_ n4_ n5_ n6_; clear hb hbox hg; have hnb6 := NB157_158.out; have hnc6 := NB158_157.out; have hcz7_0 : w5.cell? ⟨gb157, 0, none⟩ = some (.int .i64 a0_0) := (blk_cell BK157.out 0).trans rfl; have hcz7_1 : w5.cell? ⟨gb157, 1, none⟩ = some (.int .i64 a0_1) := (blk_cell BK157.out 1).trans rfl; have hcz7_2 : w5.cell? ⟨gb157, 2, none⟩ = some (.int .i64 a0_2) := (blk_cell BK157.out 2).trans rfl; have hcz7_3 : w5.cell? ⟨gb157, 3, none⟩ = some (.int .i64 a0_3) := (blk_cell BK157.out 3).trans rfl; have hcz7_4 : w5.cell? ⟨gb157, 4, none⟩ = some (.int .i64 a0_4) := (blk_cell BK157.out 4).trans rfl; have hcz7_5 : w5.cell? ⟨gb157, 5, none⟩ = some (.int .i64 a0_5) := (blk_cell BK157.out 5).trans rfl; have hcz7_6 : w5.cell? ⟨gb157, 6, none⟩ = some (.int .u64 a0_6) := (blk_cell BK157.out 6).trans rfl; have hcz7_7 : w5.cell? ⟨gb157, 7, none⟩ = some (.int .i64 a0_7) := (blk_cell BK157.out 7).trans rfl; have hcz7_8 : w5.cell? ⟨gb157, 8, none⟩ = some (.int .i64 a0_8) := (blk_cell BK157.out 8).trans rfl; have hcz7_9 : w5.cell? ⟨gb157, 9, none⟩ = some (.int .i64 a0_9) := (blk_cell BK157.out 9).trans rfl; have hcz7_10 : w5.cell? ⟨gb157, 10, none⟩ = some (.int .u64 a0_10) := (blk_cell BK157.out 10).trans rfl; have hcz7_11 : w5.cell? ⟨gb157, 11, none⟩ = some (.int .u64 a0_11) := (blk_cell BK157.out 11).trans rfl; have hcz7_12 : w5.cell? ⟨gb157, 12, none⟩ = some (.int .u64 a0_12) := (blk_cell BK157.out 12).trans rfl; have hcz7_13 : w5.cell? ⟨gb157, 13, none⟩ = some (.int .u64 a0_13) := (blk_cell BK157.out 13).trans rfl; have hcz7_14 : w5.cell? ⟨gb157, 14, none⟩ = some (.bool a0_14) := (blk_cell BK157.out 14).trans rfl; have hcz7_15 : w5.cell? ⟨gb157, 15, none⟩ = some (.bool a0_15) := (blk_cell BK157.out 15).trans rfl; have hcz7_16 : w5.cell? ⟨gb157, 16, none⟩ = some (.bool a0_16) := (blk_cell BK157.out 16).trans rfl; have hcz7_17 : w5.cell? ⟨gb157, 17, none⟩ = some (.bool a0_17) := (blk_cell BK157.out 17).trans rfl; have hfz7_0 := fun j => blk_frozen BK157.out j) | ((with_reducible refine gate_callee (f := 26) rfl ?_); refine goesL_ (some 8) rfl rfl Tryd.func26 (by kernel_rfl) rfl #[.agg #[.int .i64 a0_0, .int .i64 a0_1, .int .i64 a0_2, .int .i64 a0_3, .int .i64 a0_4, .int .i64 a0_5, .int .u64 a0_6, .int .i64 a0_7, .int .i64 a0_8, .int .i64 a0_9, .int .u64 a0_10, .int .u64 a0_11, .int .u64 a0_12, .int .u64 a0_13, .bool a0_14, .bool a0_15, .bool a0_16, .bool a0_17]] rfl (by (try simp only [List.map_toArray, List.map_cons, List.map_nil]); first | done | rfl | (simp only [List.length_drop, List.length_take]; rfl)) ?_; (with_reducible refine (alu_worker_and.calls k a0_0 a0_1 a0_2 a0_3 a0_4 a0_5 a0_6 a0_7 a0_8 a0_9 a0_10 a0_11 a0_12 a0_13 a0_14 a0_15 a0_16 a0_17 t159 t160 t161 t162 t163 _ A2.out).mono ?_); rintro e w8 ⟨rfl, hb⟩; refine ⟨_, rfl, ?_⟩; have n0_ := Aside0.mk (blk_below (g := gb157) (o := .cells #[.int .i64 a0_0, .int .i64 a0_1, .int .i64 a0_2, .int .i64 a0_3, .int .i64 a0_4, .int .i64 a0_5, .int .u64 a0_6, .int .i64 a0_7, .int .i64 a0_8, .int .i64 a0_9, .int .u64 a0_10, .int .u64 a0_11, .int .u64 a0_12, .int .u64 a0_13, .bool a0_14, .bool a0_15, .bool a0_16, .bool a0_17] 49 (0, 0)) (by (with_reducible repeat (first | refine blk_drewN ?_ _ | refine blk_drew ?_ | refine blk_alloc ?_ _)); exact BK157.out) hb); have n1_ := Aside0.mk (blk_below (g := gb158) (o := .cells #[.bool false, .bool false, .bool false, .bool false] 35 (0, 0)) (by (with_reducible repeat (first | refine blk_drewN ?_ _ | refine blk_drew ?_ | refine blk_alloc ?_ _)); exact BK158.out) hb); have n2_ := Aside0.mk (below_step (by repeat (first | (with_reducible first | exact HB.out | apply below_alloc | apply pw_below_drewN | apply below_drew1 | refine below_set ?_ GE157.out | refine below_set ?_ GE158.out) | exact HB.out)) hb); clear BK157; clear BK158; clear HB; have BK157 := n0_; have BK158 := n1_; have HB := n2_; clear n0_ n1_ n2_; (try clear hb); (try clear hb2); (try clear hk); (try clear hi)) | ((with_reducible refine gate_dst (N := 5) rfl ?_); refine box_event ?hg (N := 5) ?hd (cs := #[.bool false, .bool false, .bool false, .bool false]) (t := 35) ?hr ?_; (case hd => rfl); (case hg => rfl); (case hr => first | (go_simp; done) | (go_simp; rfl)); intro gb164 hg w9 hbox hb; have n0_ := Aside0.mk (blk_below (g := gb157) (o := .cells #[.int .i64 a0_0, .int .i64 a0_1, .int .i64 a0_2, .int .i64 a0_3, .int .i64 a0_4, .int .i64 a0_5, .int .u64 a0_6, .int .i64 a0_7, .int .i64 a0_8, .int .i64 a0_9, .int .u64 a0_10, .int .u64 a0_11, .int .u64 a0_12, .int .u64 a0_13, .bool a0_14, .bool a0_15, .bool a0_16, .bool a0_17] 49 (0, 0)) (by (with_reducible repeat (first | refine blk_drewN ?_ _ | refine blk_drew ?_ | refine blk_alloc ?_ _)); exact BK157.out) hb); have n1_ := Aside0.mk (blk_below (g := gb158) (o := .cells #[.bool false, .bool false, .bool false, .bool false] 35 (0, 0)) (by (with_reducible repeat (first | refine blk_drewN ?_ _ | refine blk_drew ?_ | refine blk_alloc ?_ _)); exact BK158.out) hb); have n2_ := Aside0.mk (below_step (by repeat (first | (with_reducible first | exact HB.out | apply below_alloc | apply pw_below_drewN | apply below_drew1 | refine below_set ?_ GE157.out | refine below_set ?_ GE158.out) | exact HB.out)) hb); have n3_ := Aside0.mk (hbox); have n4_ := Aside0.mk ((by rw [hg]; exact (below_size (by repeat (first | (with_reducible first | exact HB.out | apply below_alloc | apply pw_below_drewN | apply below_drew1 | refine below_set ?_ GE157.out | refine below_set ?_ GE158.out) | exact HB.out))) : w.heap.size ≤ gb164)); have n5_ := Aside0.mk ((by rw [hg]; exact (below_size (by repeat (first | (with_reducible first | exact HB.out | apply below_alloc | apply pw_below_drewN | apply below_drew1 | refine below_set ?_ GE157.out | refine below_set ?_ GE158.out) | exact HB.out))) : w.heap.size ≤ gb164)); have n6_ := Aside0.mk ((by rw [hg]; exact Nat.ne_of_lt (blk_lt (g := gb157) (o := .cells #[.int .i64 a0_0, .int .i64 a0_1, .int .i64 a0_2, .int .i64 a0_3, .int .i64 a0_4, .int .i64 a0_5, .int .u64 a0_6, .int .i64 a0_7, .int .i64 a0_8, .int .i64 a0_9, .int .u64 a0_10, .int .u64 a0_11, .int .u64 a0_12, .int .u64 a0_13, .bool a0_14, .bool a0_15, .bool a0_16, .bool a0_17] 49 (0, 0)) (by (with_reducible repeat (first | refine blk_drewN ?_ _ | refine blk_drew ?_ | refine blk_alloc ?_ _)); exact BK157.out)) : gb157 ≠ gb164)); have n7_ := Aside0.mk ((by rw [hg]; exact Nat.ne_of_gt (blk_lt (g := gb157) (o := .cells #[.int .i64 a0_0, .int .i64 a0_1, .int .i64 a0_2, .int .i64 a0_3, .int .i64 a0_4, .int .i64 a0_5, .int .u64 a0_6, .int .i64 a0_7, .int .i64 a0_8, .int .i64 a0_9, .int .u64 a0_10, .int .u64 a0_11, .int .u64 a0_12, .int .u64 a0_13, .bool a0_14, .bool a0_15, .bool a0_16, .bool a0_17] 49 (0, 0)) (by (with_reducible repeat (first | refine blk_drewN ?_ _ | refine blk_drew ?_ | refine blk_alloc ?_ _)); exact BK157.out)) : gb164 ≠ gb157)); have n8_ := Aside0.mk ((by rw [hg]; exact Nat.ne_of_lt (blk_lt (g := gb158) (o := .cells #[.bool false, .bool false, .bool false, .bool false] 35 (0, 0)) (by (with_reducible repeat (first | refine blk_drewN ?_ _ | refine blk_drew ?_ | refine blk_alloc ?_ _)); exact BK158.out)) : gb158 ≠ gb164)); have n9_ := Aside0.mk ((by rw [hg]; exact Nat.ne_of_gt (blk_lt (g := gb158) (o := .cells #[.bool false, .bool false, .bool false, .bool false] 35 (0, 0)) (by (with_reducible repeat (first | refine blk_drewN ?_ _ | refine blk_drew ?_ | refine blk_alloc ?_ _)); exact BK158.out)) : gb164 ≠ gb158)); clear BK157; clear BK158; clear HB; have BK157 := n0_; have BK158 := n1_; have HB := n2_; have BK164 := n3_; have GW164 := n4_; have GE164 := n5_; have NB157_164 := n6_; have NB164_157 := n7_; have NB158_164 := n8_; have NB164_158 := n9_; clear n0_ n1_ n2_ n3_ n4_ n5_ n6_ n7_ n8_ n9_; clear hb hbox hg; have hnb10 := NB164_157.out; have hnc10 := NB157_164.out; have hnb11 := NB164_158.out; have hnc11 := NB158_164.out; obtain ⟨hcz12_0, hcz12_1, hcz12_2, hcz12_3⟩ := cells4_ BK164.out; have hfz12_0 := fun j => blk_frozen BK164.out j) | ((with_reducible refine gate_callee (f := 13) rfl ?_); refine goesL_ (some 13) rfl rfl Tryd.func13 (by kernel_rfl) rfl #[.int .u64 t159] rfl (by (try simp only [List.map_toArray, List.map_cons, List.map_nil]); first | done | rfl | (simp only [List.length_drop, List.length_take]; rfl)) ?_; (with_reducible refine (flag_Of.calls t159 t165 t166 t167 t168 _ A3.out).mono ?_); rintro e w13 ⟨rfl, hb⟩; refine ⟨_, rfl, ?_⟩; have n0_ := Aside0.mk (blk_below (g := gb157) (o := .cells #[.int .i64 a0_0, .int .i64 a0_1, .int .i64 a0_2, .int .i64 a0_3, .int .i64 a0_4, .int .i64 a0_5, .int .u64 a0_6, .int .i64 a0_7, .int .i64 a0_8, .int .i64 a0_9, .int .u64 a0_10, .int .u64 a0_11, .int .u64 a0_12, .int .u64 a0_13, .bool a0_14, .bool a0_15, .bool a0_16, .bool a0_17] 49 (0, 0)) (by (with_reducible repeat (first | refine blk_drewN ?_ _ | refine blk_drew ?_ | refine blk_alloc ?_ _)); refine blk_far ?_ NB157_164.out _; (with_reducible repeat (first | refine blk_drewN ?_ _ | refine blk_drew ?_ | refine blk_alloc ?_ _)); refine blk_far ?_ NB157_164.out _; (with_reducible repeat (first | refine blk_drewN ?_ _ | refine blk_drew ?_ | refine blk_alloc ?_ _)); refine blk_far ?_ NB157_164.out _; (with_reducible repeat (first | refine blk_drewN ?_ _ | refine blk_drew ?_ | refine blk_alloc ?_ _)); refine blk_far ?_ NB157_164.out _; (with_reducible repeat (first | refine blk_drewN ?_ _ | refine blk_drew ?_ | refine blk_alloc ?_ _)); exact BK157.out) hb); have n1_ := Aside0.mk (blk_below (g := gb158) (o := .cells #[.bool false, .bool false, .bool false, .bool false] 35 (0, 0)) (by (with_reducible repeat (first | refine blk_drewN ?_ _ | refine blk_drew ?_ | refine blk_alloc ?_ _)); refine blk_far ?_ NB158_164.out _; (with_reducible repeat (first | refine blk_drewN ?_ _ | refine blk_drew ?_ | refine blk_alloc ?_ _)); refine blk_far ?_ NB158_164.out _; (with_reducible repeat (first | refine blk_drewN ?_ _ | refine blk_drew ?_ | refine blk_alloc ?_ _)); refine blk_far ?_ NB158_164.out _; (with_reducible repeat (first | refine blk_drewN ?_ _ | refine blk_drew ?_ | refine blk_alloc ?_ _)); refine blk_far ?_ NB158_164.out _; (with_reducible repeat (first | refine blk_drewN ?_ _ | refine blk_drew ?_ | refine blk_alloc ?_ _)); exact BK158.out) hb); have n2_ := Aside0.mk (blk_below (g := gb164) (o := .cells #[.bool t160, .bool t161, .bool t162, .bool t163] 35 (0, 0)) (by (with_reducible repeat (first | refine blk_drewN ?_ _ | refine blk_drew ?_ | refine blk_alloc ?_ _)); refine blk_put (cs := #[.bool t160, .bool t161, .bool t162, .bool false]) ?_ 3 _ rfl; (with_reducible repeat (first | refine blk_drewN ?_ _ | refine blk_drew ?_ | refine blk_alloc ?_ _)); refine blk_put (cs := #[.bool t160, .bool t161, .bool false, .bool false]) ?_ 2 _ rfl; (with_reducible repeat (first | refine blk_drewN ?_ _ | refine blk_drew ?_ | refine blk_alloc ?_ _)); refine blk_put (cs := #[.bool t160, .bool false, .bool false, .bool false]) ?_ 1 _ rfl; (with_reducible repeat (first | refine blk_drewN ?_ _ | refine blk_drew ?_ | refine blk_alloc ?_ _)); refine blk_put (cs := #[.bool false, .bool false, .bool false, .bool false]) ?_ 0 _ rfl; (with_reducible repeat (first | refine blk_drewN ?_ _ | refine blk_drew ?_ | refine blk_alloc ?_ _)); exact BK164.out) hb); have n3_ := Aside0.mk (below_step (by repeat (first | (with_reducible first | exact HB.out | apply below_alloc | apply pw_below_drewN | apply below_drew1 | refine below_set ?_ GE157.out | refine below_set ?_ GE158.out | refine below_set ?_ GE164.out) | exact HB.out)) hb); clear BK157; clear BK158; clear BK164; clear HB; have BK157 := n0_; have BK158 := n1_; have BK164 := n2_; have HB := n3_; clear n0_ n1_ n2_ n3_; (try clear hb); (try clear hb2); (try clear hk); (try clear hi); obtain ⟨hcz14_0, hcz14_1, hcz14_2, hcz14_3⟩ := cells4_ BK158.out; have hfz14_0 := fun j => blk_frozen BK158.out j))
 refine bodyPost_ret (results_tc rfl _ _ gb158 35 #[.bool t165, .bool t166, .bool t167, .bool t168] (0, 0) _ rfl (by (with_reducible repeat (first | refine blk_drewN ?_ _ | refine blk_drew ?_ | refine blk_alloc ?_ _)); refine blk_put (cs := #[.bool t165, .bool t166, .bool t167, .bool false]) ?_ 3 _ rfl; (with_reducible repeat (first | refine blk_drewN ?_ _ | refine blk_drew ?_ | refine blk_alloc ?_ _)); refine blk_put (cs := #[.bool t165, .bool t166, .bool false, .bool false]) ?_ 2 _ rfl; (with_reducible repeat (first | refine blk_drewN ?_ _ | refine blk_drew ?_ | refine blk_alloc ?_ _)); refine blk_put (cs := #[.bool t165, .bool false, .bool false, .bool false]) ?_ 1 _ rfl; (with_reducible repeat (first | refine blk_drewN ?_ _ | refine blk_drew ?_ | refine blk_alloc ?_ _)); refine blk_put (cs := #[.bool false, .bool false, .bool false, .bool false]) ?_ 0 _ rfl; (with_reducible repeat (first | refine blk_drewN ?_ _ | refine blk_drew ?_ | refine blk_alloc ?_ _)); exact BK158.out) Tryd.underlying35 rfl (by kernel_rfl)) rfl ?_
 exact ⟨by first | rfl | (simp [errW_none, errW_some] <;> rfl) | (simp [*, errW_none, errW_some] <;> rfl), by repeat (first | (with_reducible first | exact HB.out | apply below_alloc | apply pw_below_drewN | apply below_drew1 | refine below_set ?_ GE157.out | refine below_set ?_ GE158.out | refine below_set ?_ GE164.out) | exact HB.out)⟩

/-! ### alu_worker_madd: function 30 -/
def alu_worker_madd.f (a0_0 : Int) (a0_1 : Int) (a0_2 : Int) (a0_3 : Int) (a0_4 : Int) (a0_5 : Int) (a0_6 : Int) (a0_7 : Int) (a0_8 : Int) (a0_9 : Int) (a0_10 : Int) (a0_11 : Int) (a0_12 : Int) (a0_13 : Int) (a0_14 : Bool) (a0_15 : Bool) (a0_16 : Bool) (a0_17 : Bool) : Option (Int × Bool × Bool × Bool × Bool) := some (IntKind.u64.wrap (a0_13 + (IntKind.u64.wrap (a0_11 * a0_12))), a0_14, a0_15, a0_16, a0_17)
def alu_worker_madd.T1 : Bool × List (List Nat × List Nat) := (true, [([], []), ([0], [0]), ([1], [1]), ([], []), ([3], [3]), ([4], [4]), ([], []), ([6], [6]), ([7], [7]), ([5, 8], [5, 8]), ([2, 9], [2, 9]), ([], []), ([11], [11]), ([10, 0, 1, 2, 3, 4, 5, 6, 7, 8, 9, 10], [10]), ([12, 13, 0, 1, 2, 3, 4, 5, 6, 7, 8, 9, 10, 11, 12, 13], [12])])
def alu_worker_madd.B1 : List Nat := [0, 1, 3, 0, 8, 24, 0, 64, 192, 504, 1023, 0, 2048, 2047, 16383]
theorem alu_worker_madd.tab1 : rtab .any (opsOf Tryd.f30 1) = alu_worker_madd.T1 := by kernel_rfl
theorem alu_worker_madd.bits1 : waitsOk alu_worker_madd.T1.2 alu_worker_madd.B1 = true := by kernel_rfl
set_option maxHeartbeats 8000000 in
set_option maxRecDepth 100000 in
theorem alu_worker_madd.calls (a0_0 : Int) (a0_1 : Int) (a0_2 : Int) (a0_3 : Int) (a0_4 : Int) (a0_5 : Int) (a0_6 : Int) (a0_7 : Int) (a0_8 : Int) (a0_9 : Int) (a0_10 : Int) (a0_11 : Int) (a0_12 : Int) (a0_13 : Int) (a0_14 : Bool) (a0_15 : Bool) (a0_16 : Bool) (a0_17 : Bool) (r1 : Int) (r2 : Bool) (r3 : Bool) (r4 : Bool) (r5 : Bool) (w : World) (h : alu_worker_madd.f a0_0 a0_1 a0_2 a0_3 a0_4 a0_5 a0_6 a0_7 a0_8 a0_9 a0_10 a0_11 a0_12 a0_13 a0_14 a0_15 a0_16 a0_17 = some (r1, r2, r3, r4, r5)) :
    Calls Tryd.prog 30 #[.agg #[.int .i64 a0_0, .int .i64 a0_1, .int .i64 a0_2, .int .i64 a0_3, .int .i64 a0_4, .int .i64 a0_5, .int .u64 a0_6, .int .i64 a0_7, .int .i64 a0_8, .int .i64 a0_9, .int .u64 a0_10, .int .u64 a0_11, .int .u64 a0_12, .int .u64 a0_13, .bool a0_14, .bool a0_15, .bool a0_16, .bool a0_17]] w fun e w' => e = .returned (.tuple #[.int .u64 r1, .agg #[.bool r2, .bool r3, .bool r4, .bool r5]]) ∧ Below w.heap.size w w' := by
 have hu49 := Tryd.underlying49
 have hu35 := Tryd.underlying35
 have HB := Aside0.mk (Below.refl w.heap.size w)
 have H : (some (IntKind.u64.wrap (a0_13 + (IntKind.u64.wrap (a0_11 * a0_12))), a0_14, a0_15, a0_16, a0_17)) = some (r1, r2, r3, r4, r5) := h
 clear h
 simp only [Option.some.injEq, Prod.mk.injEq] at H
 obtain ⟨rfl, rfl, rfl, rfl, rfl⟩ := H
 go_enter Tryd.func30, Tryd.ntmps30
 try go_wp2_with (first | ((with_reducible refine gate_dst (N := 1) rfl ?_); refine box_event ?hg (N := 1) ?hd (cs := #[.int .i64 a0_0, .int .i64 a0_1, .int .i64 a0_2, .int .i64 a0_3, .int .i64 a0_4, .int .i64 a0_5, .int .u64 a0_6, .int .i64 a0_7, .int .i64 a0_8, .int .i64 a0_9, .int .u64 a0_10, .int .u64 a0_11, .int .u64 a0_12, .int .u64 a0_13, .bool a0_14, .bool a0_15, .bool a0_16, .bool a0_17]) (t := 49) ?hr ?_; (case hd => rfl); (case hg => rfl); (case hr => first | (go_simp; done) | (go_simp; rfl)); intro gb169 hg w2 hbox hb; have n0_ := Aside0.mk (below_step (by repeat (first | (with_reducible first | exact HB.out | apply below_alloc | apply pw_below_drewN | apply below_drew1) | exact HB.out)) hb); have n1_ := Aside0.mk (hbox); have n2_ := Aside0.mk ((by rw [hg]; exact (below_size (by repeat (first | (with_reducible first | exact HB.out | apply below_alloc | apply pw_below_drewN | apply below_drew1) | exact HB.out))) : w.heap.size ≤ gb169)); have n3_ := Aside0.mk ((by rw [hg]; exact (below_size (by repeat (first | (with_reducible first | exact HB.out | apply below_alloc | apply pw_below_drewN | apply below_drew1) | exact HB.out))) : w.heap.size ≤ gb169)); clear HB; have HB := n0_; have BK169 := n1_; have GW169 := n2_; have GE169 := n3_; clear n0_ n1_ n2_ n3_; clear hb hbox hg) | ((with_reducible refine gate_dst (N := 3) rfl ?_); refine box_event ?hg (N := 3) ?hd (cs := #[.bool false, .bool false, .bool false, .bool false]) (t := 35) ?hr ?_; (case hd => rfl); (case hg => rfl); (case hr => first | (go_simp; done) | (go_simp; rfl)); intro gb170 hg w3 hbox hb; have n0_ := Aside0.mk (blk_below (g := gb169) (o := .cells #[.int .i64 a0_0, .int .i64 a0_1, .int .i64 a0_2, .int .i64 a0_3, .int .i64 a0_4, .int .i64 a0_5, .int .u64 a0_6, .int .i64 a0_7, .int .i64 a0_8, .int .i64 a0_9, .int .u64 a0_10, .int .u64 a0_11, .int .u64 a0_12, .int .u64 a0_13, .bool a0_14, .bool a0_15, .bool a0_16, .bool a0_17] 49 (0, 0)) (by (with_reducible repeat (first | refine blk_drewN ?_ _ | refine blk_drew ?_ | refine blk_alloc ?_ _)); exact BK169.out) hb); have n1_ := Aside0.mk (below_step (by repeat (first | (with_reducible first | exact HB.out | apply below_alloc | apply pw_below_drewN | apply below_drew1 | refine below_set ?_ GE169.out) | exact HB.out)) hb); have n2_ := Aside0.mk (hbox); have n3_ := Aside0.mk ((by rw [hg]; exact (below_size (by repeat (first | (with_reducible first | exact HB.out | apply below_alloc | apply pw_below_drewN | apply below_drew1 | refine below_set ?_ GE169.out) | exact HB.out))) : w.heap.size ≤ gb170)); have n4_ := Aside0.mk ((by rw [hg]; exact (below_size (by repeat (first | (with_reducible first | exact HB.out | apply below_alloc | apply pw_below_drewN | apply below_drew1 | refine below_set ?_ GE169.out) | exact HB.out))) : w.heap.size ≤ gb170)); have n5_ := Aside0.mk ((by rw [hg]; exact Nat.ne_of_lt (blk_lt (g := gb169) (o := .cells #[.int .i64 a0_0, .int .i64 a0_1, .int .i64 a0_2, .int .i64 a0_3, .int .i64 a0_4, .int .i64 a0_5, .int .u64 a0_6, .int .i64 a0_7, .int .i64 a0_8, .int .i64 a0_9, .int .u64 a0_10, .int .u64 a0_11, .int .u64 a0_12, .int .u64 a0_13, .bool a0_14, .bool a0_15, .bool a0_16, .bool a0_17] 49 (0, 0)) (by (with_reducible repeat (first | refine blk_drewN ?_ _ | refine blk_drew ?_ | refine blk_alloc ?_ _)); exact BK169.out)) : gb169 ≠ gb170)); have n6_ := Aside0.mk ((by rw [hg]; exact Nat.ne_of_gt (blk_lt (g := gb169) (o := .cells #[.int .i64 a0_0, .int .i64 a0_1, .int .i64 a0_2, .int .i64 a0_3, .int .i64 a0_4, .int .i64 a0_5, .int .u64 a0_6, .int .i64 a0_7, .int .i64 a0_8, .int .i64 a0_9, .int .u64 a0_10, .int .u64 a0_11, .int .u64 a0_12, .int .u64 a0_13, .bool a0_14, .bool a0_15, .bool a0_16, .bool a0_17] 49 (0, 0)) (by (with_reducible repeat (first | refine blk_drewN ?_ _ | refine blk_drew ?_ | refine blk_alloc ?_ _)); exact BK169.out)) : gb170 ≠ gb169)); clear BK169; clear HB; have BK169 := n0_; have HB := n1_; have BK170 := n2_; have GW170 := n3_; have GE170 := n4_; have NB169_170 := n5_; have NB170_169 := n6_; clear n0_ n1_ n2_ n3_ n4_ n5_ n6_; clear hb hbox hg))
 have n0_ := Aside0.mk (blk_drew BK169.out)
 have n1_ := Aside0.mk (blk_drew BK170.out)
 have n2_ := Aside0.mk (below_drew1 HB.out)
 clear BK169
 clear BK170
 clear HB
 have BK169 := n0_
 have BK170 := n1_
 have HB := n2_
 clear n0_ n1_ n2_
 refine start_ (n := 15) (S := fun w' => w'.cell? ⟨gb169, 0, none⟩ = some (.int .i64 a0_0) ∧ w'.cell? ⟨gb169, 1, none⟩ = some (.int .i64 a0_1) ∧ w'.cell? ⟨gb169, 2, none⟩ = some (.int .i64 a0_2) ∧ w'.cell? ⟨gb169, 3, none⟩ = some (.int .i64 a0_3) ∧ w'.cell? ⟨gb169, 4, none⟩ = some (.int .i64 a0_4) ∧ w'.cell? ⟨gb169, 5, none⟩ = some (.int .i64 a0_5) ∧ w'.cell? ⟨gb169, 6, none⟩ = some (.int .u64 a0_6) ∧ w'.cell? ⟨gb169, 7, none⟩ = some (.int .i64 a0_7) ∧ w'.cell? ⟨gb169, 8, none⟩ = some (.int .i64 a0_8) ∧ w'.cell? ⟨gb169, 9, none⟩ = some (.int .i64 a0_9) ∧ w'.cell? ⟨gb169, 10, none⟩ = some (.int .u64 a0_10) ∧ w'.cell? ⟨gb169, 11, none⟩ = some (.int .u64 a0_11) ∧ w'.cell? ⟨gb169, 12, none⟩ = some (.int .u64 a0_12) ∧ w'.cell? ⟨gb169, 13, none⟩ = some (.int .u64 a0_13) ∧ w'.cell? ⟨gb169, 14, none⟩ = some (.bool a0_14) ∧ w'.cell? ⟨gb169, 15, none⟩ = some (.bool a0_15) ∧ w'.cell? ⟨gb169, 16, none⟩ = some (.bool a0_16) ∧ w'.cell? ⟨gb169, 17, none⟩ = some (.bool a0_17)) (ds := []) #[false, false, false, false, false, false, false, false, false, false, false, false, false, false, false] (by kernel_rfl) rfl rfl ⟨(blk_cell BK169.out 0).trans rfl, (blk_cell BK169.out 1).trans rfl, (blk_cell BK169.out 2).trans rfl, (blk_cell BK169.out 3).trans rfl, (blk_cell BK169.out 4).trans rfl, (blk_cell BK169.out 5).trans rfl, (blk_cell BK169.out 6).trans rfl, (blk_cell BK169.out 7).trans rfl, (blk_cell BK169.out 8).trans rfl, (blk_cell BK169.out 9).trans rfl, (blk_cell BK169.out 10).trans rfl, (blk_cell BK169.out 11).trans rfl, (blk_cell BK169.out 12).trans rfl, (blk_cell BK169.out 13).trans rfl, (blk_cell BK169.out 14).trans rfl, (blk_cell BK169.out 15).trans rfl, (blk_cell BK169.out 16).trans rfl, (blk_cell BK169.out 17).trans rfl⟩ (fun hHeld => ?_); refine with_tabW alu_worker_madd.tab1 alu_worker_madd.bits1 (fun HT_ HW_ => ?_)
 generalize w3.drew = w4 at BK169 BK170 HB hHeld ⊢
 refine pure_ (i := 0) (N := some 4) (v := ?_) (a' := ?_) #[true, false, false, false, false, false, false, false, false, false, false, false, false, false, false] rfl rfl (any_of HT_.out (by kernel_rfl)) (fun _ _ _ h => h) (Or.inl ⟨by rfl, ?_⟩) ?_ ?_
 rotate_left
 · intro w'; go_simp; with_reducible rfl
 rotate_left
 · simp only [qa_, qb_, qc_, qd_, i64_w, i32_w]; rfl
 refine pure_ (i := 1) (N := some 5) (v := ?_) (a' := ?_) #[true, true, false, false, false, false, false, false, false, false, false, false, false, false, false] rfl rfl (any_of HT_.out (by kernel_rfl)) (fun _ _ _ h => h) (Or.inl ⟨by rfl, ?_⟩) ?_ ?_
 rotate_left
 · intro w'; go_simp; with_reducible rfl
 rotate_left
 · simp only [qa_, qb_, qc_, qd_, i64_w, i32_w]; rfl
 refine pure_ (i := 3) (N := some 7) (v := ?_) (a' := ?_) #[true, true, false, true, false, false, false, false, false, false, false, false, false, false, false] rfl rfl (any_of HT_.out (by kernel_rfl)) (fun _ _ _ h => h) (Or.inl ⟨by rfl, ?_⟩) ?_ ?_
 rotate_left
 · intro w'; go_simp; with_reducible rfl
 rotate_left
 · simp only [qa_, qb_, qc_, qd_, i64_w, i32_w]; rfl
 refine pure_ (i := 4) (N := some 8) (v := ?_) (a' := ?_) #[true, true, false, true, true, false, false, false, false, false, false, false, false, false, false] rfl rfl (any_of HT_.out (by kernel_rfl)) (fun _ _ _ h => h) (Or.inl ⟨by rfl, ?_⟩) ?_ ?_
 rotate_left
 · intro w'; go_simp; with_reducible rfl
 rotate_left
 · simp only [qa_, qb_, qc_, qd_, i64_w, i32_w]; rfl
 refine pure_ (i := 6) (N := some 10) (v := ?_) (a' := ?_) #[true, true, false, true, true, false, true, false, false, false, false, false, false, false, false] rfl rfl (any_of HT_.out (by kernel_rfl)) (fun _ _ _ h => h) (Or.inl ⟨by rfl, ?_⟩) ?_ ?_
 rotate_left
 · intro w'; go_simp; with_reducible rfl
 rotate_left
 · simp only [qa_, qb_, qc_, qd_, i64_w, i32_w]; rfl
 refine pure_ (i := 7) (N := some 11) (v := ?_) (a' := ?_) #[true, true, false, true, true, false, true, true, false, false, false, false, false, false, false] rfl rfl (any_of HT_.out (by kernel_rfl)) (fun _ _ _ h => h) (Or.inl ⟨by rfl, ?_⟩) ?_ ?_
 rotate_left
 · intro w'; go_simp; with_reducible rfl
 rotate_left
 · simp only [qa_, qb_, qc_, qd_, i64_w, i32_w]; rfl
 refine pure_ (i := 11) (N := some 15) (v := ?_) (a' := ?_) #[true, true, false, true, true, false, true, true, false, false, false, true, false, false, false] rfl rfl (any_of HT_.out (by kernel_rfl)) (fun _ _ _ h => h) (Or.inl ⟨by rfl, ?_⟩) ?_ ?_
 rotate_left
 · intro w'; go_simp; with_reducible rfl
 rotate_left
 · simp only [qa_, qb_, qc_, qd_, i64_w, i32_w]; rfl
 refine take_ (i := 2) (N := some 6) (v := ?_) (a' := ?_) #[true, true, true, true, true, false, true, true, false, false, false, true, false, false, false] rfl rfl (take_ofW HT_.out HW_.out (by kernel_rfl)) (fun _ _ _ h => h) (Or.inl ⟨by rfl, ?_⟩) hHeld ?_ ?_
 rotate_left
 · rintro w' ⟨s0, s1, s2, s3, s4, s5, s6, s7, s8, s9, s10, s11, s12, s13, s14, s15, s16, s17⟩; go_simp; with_reducible rfl
 rotate_left
 · simp only [qa_, qb_, qc_, qd_, i64_w, i32_w]; rfl
 refine take_ (i := 5) (N := some 9) (v := ?_) (a' := ?_) #[true, true, true, true, true, true, true, true, false, false, false, true, false, false, false] rfl rfl (take_ofW HT_.out HW_.out (by kernel_rfl)) (fun _ _ _ h => h) (Or.inl ⟨by rfl, ?_⟩) hHeld ?_ ?_
 rotate_left
 · rintro w' ⟨s0, s1, s2, s3, s4, s5, s6, s7, s8, s9, s10, s11, s12, s13, s14, s15, s16, s17⟩; go_simp; with_reducible rfl
 rotate_left
 · simp only [qa_, qb_, qc_, qd_, i64_w, i32_w]; rfl
 refine take_ (i := 8) (N := some 12) (v := ?_) (a' := ?_) #[true, true, true, true, true, true, true, true, true, false, false, true, false, false, false] rfl rfl (take_ofW HT_.out HW_.out (by kernel_rfl)) (fun _ _ _ h => h) (Or.inl ⟨by rfl, ?_⟩) hHeld ?_ ?_
 rotate_left
 · rintro w' ⟨s0, s1, s2, s3, s4, s5, s6, s7, s8, s9, s10, s11, s12, s13, s14, s15, s16, s17⟩; go_simp; with_reducible rfl
 rotate_left
 · simp only [qa_, qb_, qc_, qd_, i64_w, i32_w]; rfl
 refine pure_ (i := 9) (N := some 13) (v := ?_) (a' := ?_) #[true, true, true, true, true, true, true, true, true, true, false, true, false, false, false] rfl rfl (any_of HT_.out (by kernel_rfl)) (fun _ _ _ h => h) (Or.inl ⟨by rfl, ?_⟩) ?_ ?_
 rotate_left
 · intro w'; go_simp; with_reducible rfl
 rotate_left
 · simp only [qa_, qb_, qc_, qd_, i64_w, i32_w]; rfl
 refine pure_ (i := 10) (N := some 14) (v := ?_) (a' := ?_) #[true, true, true, true, true, true, true, true, true, true, true, true, false, false, false] rfl rfl (any_of HT_.out (by kernel_rfl)) (fun _ _ _ h => h) (Or.inl ⟨by rfl, ?_⟩) ?_ ?_
 rotate_left
 · intro w'; go_simp; with_reducible rfl
 rotate_left
 · simp only [qa_, qb_, qc_, qd_, i64_w, i32_w]; rfl
 refine pure_ (i := 13) (N := some 2) (v := ?_) (a' := ?_) #[true, true, true, true, true, true, true, true, true, true, true, true, false, true, false] rfl rfl (any_of HT_.out (by kernel_rfl)) (fun _ _ _ h => h) (Or.inl ⟨by rfl, ?_⟩) ?_ ?_
 rotate_left
 · intro w'; go_simp; with_reducible rfl
 rotate_left
 · simp only [qa_, qb_, qc_, qd_, i64_w, i32_w]; rfl
 refine take_ (i := 12) (N := some 16) (v := ?_) (a' := ?_) #[true, true, true, true, true, true, true, true, true, true, true, true, true, true, false] rfl rfl (take_ofW HT_.out HW_.out (by kernel_rfl)) (fun _ _ _ h => h) (Or.inl ⟨by rfl, ?_⟩) hHeld ?_ ?_
 rotate_left
 · rintro w' ⟨s0, s1, s2, s3, s4, s5, s6, s7, s8, s9, s10, s11, s12, s13, s14, s15, s16, s17⟩; go_simp; with_reducible rfl
 rotate_left
 · simp only [qa_, qb_, qc_, qd_, i64_w, i32_w]; rfl
 refine one_ (i := 14) (N := none) #[true, true, true, true, true, true, true, true, true, true, true, true, true, true, true] rfl rfl (one_of HT_.out (by kernel_rfl)) (by decide) (fun K hK => ?_)
 have hs5 : w4.cell? ⟨gb170, 0, none⟩ = some (.bool false) := (blk_cell BK170.out 0).trans rfl
 have hfs5 := blk_frozen BK170.out 0
 have hns5_0 := NB169_170.out
 have hms5_0 := NB170_169.out
 have hs6 : w4.cell? ⟨gb170, 1, none⟩ = some (.bool false) := (blk_cell BK170.out 1).trans rfl
 have hfs6 := blk_frozen BK170.out 1
 have hns6_0 := NB169_170.out
 have hms6_0 := NB170_169.out
 have hs7 : w4.cell? ⟨gb170, 2, none⟩ = some (.bool false) := (blk_cell BK170.out 2).trans rfl
 have hfs7 := blk_frozen BK170.out 2
 have hns7_0 := NB169_170.out
 have hms7_0 := NB170_169.out
 have hs8 : w4.cell? ⟨gb170, 3, none⟩ = some (.bool false) := (blk_cell BK170.out 3).trans rfl
 have hfs8 := blk_frozen BK170.out 3
 have hns8_0 := NB169_170.out
 have hms8_0 := NB170_169.out
 refine skip_ (w1 := ?_) (by rfl) rfl ?_ ?_
 rotate_left
 ·
  go_simp
  rfl
 refine hK.out _ _ ⟨((cell_far (p := ⟨gb170, _, none⟩) NB169_170.out _).trans (((cell_far (p := ⟨gb170, _, none⟩) NB169_170.out _).trans (((cell_far (p := ⟨gb170, _, none⟩) NB169_170.out _).trans (((cell_far (p := ⟨gb170, _, none⟩) NB169_170.out _).trans (hHeld.1)))))))), ((cell_far (p := ⟨gb170, _, none⟩) NB169_170.out _).trans (((cell_far (p := ⟨gb170, _, none⟩) NB169_170.out _).trans (((cell_far (p := ⟨gb170, _, none⟩) NB169_170.out _).trans (((cell_far (p := ⟨gb170, _, none⟩) NB169_170.out _).trans (hHeld.2.1)))))))), ((cell_far (p := ⟨gb170, _, none⟩) NB169_170.out _).trans (((cell_far (p := ⟨gb170, _, none⟩) NB169_170.out _).trans (((cell_far (p := ⟨gb170, _, none⟩) NB169_170.out _).trans (((cell_far (p := ⟨gb170, _, none⟩) NB169_170.out _).trans (hHeld.2.2.1)))))))), ((cell_far (p := ⟨gb170, _, none⟩) NB169_170.out _).trans (((cell_far (p := ⟨gb170, _, none⟩) NB169_170.out _).trans (((cell_far (p := ⟨gb170, _, none⟩) NB169_170.out _).trans (((cell_far (p := ⟨gb170, _, none⟩) NB169_170.out _).trans (hHeld.2.2.2.1)))))))), ((cell_far (p := ⟨gb170, _, none⟩) NB169_170.out _).trans (((cell_far (p := ⟨gb170, _, none⟩) NB169_170.out _).trans (((cell_far (p := ⟨gb170, _, none⟩) NB169_170.out _).trans (((cell_far (p := ⟨gb170, _, none⟩) NB169_170.out _).trans (hHeld.2.2.2.2.1)))))))), ((cell_far (p := ⟨gb170, _, none⟩) NB169_170.out _).trans (((cell_far (p := ⟨gb170, _, none⟩) NB169_170.out _).trans (((cell_far (p := ⟨gb170, _, none⟩) NB169_170.out _).trans (((cell_far (p := ⟨gb170, _, none⟩) NB169_170.out _).trans (hHeld.2.2.2.2.2.1)))))))), ((cell_far (p := ⟨gb170, _, none⟩) NB169_170.out _).trans (((cell_far (p := ⟨gb170, _, none⟩) NB169_170.out _).trans (((cell_far (p := ⟨gb170, _, none⟩) NB169_170.out _).trans (((cell_far (p := ⟨gb170, _, none⟩) NB169_170.out _).trans (hHeld.2.2.2.2.2.2.1)))))))), ((cell_far (p := ⟨gb170, _, none⟩) NB169_170.out _).trans (((cell_far (p := ⟨gb170, _, none⟩) NB169_170.out _).trans (((cell_far (p := ⟨gb170, _, none⟩) NB169_170.out _).trans (((cell_far (p := ⟨gb170, _, none⟩) NB169_170.out _).trans (hHeld.2.2.2.2.2.2.2.1)))))))), ((cell_far (p := ⟨gb170, _, none⟩) NB169_170.out _).trans (((cell_far (p := ⟨gb170, _, none⟩) NB169_170.out _).trans (((cell_far (p := ⟨gb170, _, none⟩) NB169_170.out _).trans (((cell_far (p := ⟨gb170, _, none⟩) NB169_170.out _).trans (hHeld.2.2.2.2.2.2.2.2.1)))))))), ((cell_far (p := ⟨gb170, _, none⟩) NB169_170.out _).trans (((cell_far (p := ⟨gb170, _, none⟩) NB169_170.out _).trans (((cell_far (p := ⟨gb170, _, none⟩) NB169_170.out _).trans (((cell_far (p := ⟨gb170, _, none⟩) NB169_170.out _).trans (hHeld.2.2.2.2.2.2.2.2.2.1)))))))), ((cell_far (p := ⟨gb170, _, none⟩) NB169_170.out _).trans (((cell_far (p := ⟨gb170, _, none⟩) NB169_170.out _).trans (((cell_far (p := ⟨gb170, _, none⟩) NB169_170.out _).trans (((cell_far (p := ⟨gb170, _, none⟩) NB169_170.out _).trans (hHeld.2.2.2.2.2.2.2.2.2.2.1)))))))), ((cell_far (p := ⟨gb170, _, none⟩) NB169_170.out _).trans (((cell_far (p := ⟨gb170, _, none⟩) NB169_170.out _).trans (((cell_far (p := ⟨gb170, _, none⟩) NB169_170.out _).trans (((cell_far (p := ⟨gb170, _, none⟩) NB169_170.out _).trans (hHeld.2.2.2.2.2.2.2.2.2.2.2.1)))))))), ((cell_far (p := ⟨gb170, _, none⟩) NB169_170.out _).trans (((cell_far (p := ⟨gb170, _, none⟩) NB169_170.out _).trans (((cell_far (p := ⟨gb170, _, none⟩) NB169_170.out _).trans (((cell_far (p := ⟨gb170, _, none⟩) NB169_170.out _).trans (hHeld.2.2.2.2.2.2.2.2.2.2.2.2.1)))))))), ((cell_far (p := ⟨gb170, _, none⟩) NB169_170.out _).trans (((cell_far (p := ⟨gb170, _, none⟩) NB169_170.out _).trans (((cell_far (p := ⟨gb170, _, none⟩) NB169_170.out _).trans (((cell_far (p := ⟨gb170, _, none⟩) NB169_170.out _).trans (hHeld.2.2.2.2.2.2.2.2.2.2.2.2.2.1)))))))), ((cell_far (p := ⟨gb170, _, none⟩) NB169_170.out _).trans (((cell_far (p := ⟨gb170, _, none⟩) NB169_170.out _).trans (((cell_far (p := ⟨gb170, _, none⟩) NB169_170.out _).trans (((cell_far (p := ⟨gb170, _, none⟩) NB169_170.out _).trans (hHeld.2.2.2.2.2.2.2.2.2.2.2.2.2.2.1)))))))), ((cell_far (p := ⟨gb170, _, none⟩) NB169_170.out _).trans (((cell_far (p := ⟨gb170, _, none⟩) NB169_170.out _).trans (((cell_far (p := ⟨gb170, _, none⟩) NB169_170.out _).trans (((cell_far (p := ⟨gb170, _, none⟩) NB169_170.out _).trans (hHeld.2.2.2.2.2.2.2.2.2.2.2.2.2.2.2.1)))))))), ((cell_far (p := ⟨gb170, _, none⟩) NB169_170.out _).trans (((cell_far (p := ⟨gb170, _, none⟩) NB169_170.out _).trans (((cell_far (p := ⟨gb170, _, none⟩) NB169_170.out _).trans (((cell_far (p := ⟨gb170, _, none⟩) NB169_170.out _).trans (hHeld.2.2.2.2.2.2.2.2.2.2.2.2.2.2.2.2.1)))))))), ((cell_far (p := ⟨gb170, _, none⟩) NB169_170.out _).trans (((cell_far (p := ⟨gb170, _, none⟩) NB169_170.out _).trans (((cell_far (p := ⟨gb170, _, none⟩) NB169_170.out _).trans (((cell_far (p := ⟨gb170, _, none⟩) NB169_170.out _).trans (hHeld.2.2.2.2.2.2.2.2.2.2.2.2.2.2.2.2.2))))))))⟩ (fun hHeld => ?_)
 clear hK K
 refine done_ (done_of HT_.out (by kernel_rfl)) ?_
 try go_wp2
 refine bodyPost_ret (results_tc rfl _ _ gb170 35 #[.bool a0_14, .bool a0_15, .bool a0_16, .bool a0_17] (0, 0) _ rfl (by (with_reducible repeat (first | refine blk_drewN ?_ _ | refine blk_drew ?_ | refine blk_alloc ?_ _)); refine blk_put (cs := #[.bool a0_14, .bool a0_15, .bool a0_16, .bool false]) ?_ 3 _ rfl; (with_reducible repeat (first | refine blk_drewN ?_ _ | refine blk_drew ?_ | refine blk_alloc ?_ _)); refine blk_put (cs := #[.bool a0_14, .bool a0_15, .bool false, .bool false]) ?_ 2 _ rfl; (with_reducible repeat (first | refine blk_drewN ?_ _ | refine blk_drew ?_ | refine blk_alloc ?_ _)); refine blk_put (cs := #[.bool a0_14, .bool false, .bool false, .bool false]) ?_ 1 _ rfl; (with_reducible repeat (first | refine blk_drewN ?_ _ | refine blk_drew ?_ | refine blk_alloc ?_ _)); refine blk_put (cs := #[.bool false, .bool false, .bool false, .bool false]) ?_ 0 _ rfl; (with_reducible repeat (first | refine blk_drewN ?_ _ | refine blk_drew ?_ | refine blk_alloc ?_ _)); exact BK170.out) Tryd.underlying35 rfl (by kernel_rfl)) rfl ?_
 exact ⟨by first | rfl | (simp [errW_none, errW_some] <;> rfl) | (simp [*, errW_none, errW_some] <;> rfl), by repeat (first | (with_reducible first | exact HB.out | apply below_alloc | apply pw_below_drewN | apply below_drew1 | refine below_set ?_ GE169.out | refine below_set ?_ GE170.out) | exact HB.out)⟩

/-! ### alu_worker_msub: function 31 -/
def alu_worker_msub.f (a0_0 : Int) (a0_1 : Int) (a0_2 : Int) (a0_3 : Int) (a0_4 : Int) (a0_5 : Int) (a0_6 : Int) (a0_7 : Int) (a0_8 : Int) (a0_9 : Int) (a0_10 : Int) (a0_11 : Int) (a0_12 : Int) (a0_13 : Int) (a0_14 : Bool) (a0_15 : Bool) (a0_16 : Bool) (a0_17 : Bool) : Option (Int × Bool × Bool × Bool × Bool) := some (IntKind.u64.wrap (a0_13 - (IntKind.u64.wrap (a0_11 * a0_12))), a0_14, a0_15, a0_16, a0_17)
def alu_worker_msub.T1 : Bool × List (List Nat × List Nat) := (true, [([], []), ([0], [0]), ([1], [1]), ([], []), ([3], [3]), ([4], [4]), ([], []), ([6], [6]), ([7], [7]), ([5, 8], [5, 8]), ([2, 9], [2, 9]), ([], []), ([11], [11]), ([10, 0, 1, 2, 3, 4, 5, 6, 7, 8, 9, 10], [10]), ([12, 13, 0, 1, 2, 3, 4, 5, 6, 7, 8, 9, 10, 11, 12, 13], [12])])
def alu_worker_msub.B1 : List Nat := [0, 1, 3, 0, 8, 24, 0, 64, 192, 504, 1023, 0, 2048, 2047, 16383]
theorem alu_worker_msub.tab1 : rtab .any (opsOf Tryd.f31 1) = alu_worker_msub.T1 := by kernel_rfl
theorem alu_worker_msub.bits1 : waitsOk alu_worker_msub.T1.2 alu_worker_msub.B1 = true := by kernel_rfl
set_option maxHeartbeats 8000000 in
set_option maxRecDepth 100000 in
theorem alu_worker_msub.calls (a0_0 : Int) (a0_1 : Int) (a0_2 : Int) (a0_3 : Int) (a0_4 : Int) (a0_5 : Int) (a0_6 : Int) (a0_7 : Int) (a0_8 : Int) (a0_9 : Int) (a0_10 : Int) (a0_11 : Int) (a0_12 : Int) (a0_13 : Int) (a0_14 : Bool) (a0_15 : Bool) (a0_16 : Bool) (a0_17 : Bool) (r1 : Int) (r2 : Bool) (r3 : Bool) (r4 : Bool) (r5 : Bool) (w : World) (h : alu_worker_msub.f a0_0 a0_1 a0_2 a0_3 a0_4 a0_5 a0_6 a0_7 a0_8 a0_9 a0_10 a0_11 a0_12 a0_13 a0_14 a0_15 a0_16 a0_17 = some (r1, r2, r3, r4, r5)) :
    Calls Tryd.prog 31 #[.agg #[.int .i64 a0_0, .int .i64 a0_1, .int .i64 a0_2, .int .i64 a0_3, .int .i64 a0_4, .int .i64 a0_5, .int .u64 a0_6, .int .i64 a0_7, .int .i64 a0_8, .int .i64 a0_9, .int .u64 a0_10, .int .u64 a0_11, .int .u64 a0_12, .int .u64 a0_13, .bool a0_14, .bool a0_15, .bool a0_16, .bool a0_17]] w fun e w' => e = .returned (.tuple #[.int .u64 r1, .agg #[.bool r2, .bool r3, .bool r4, .bool r5]]) ∧ Below w.heap.size w w' := by
 have hu49 := Tryd.underlying49
 have hu35 := Tryd.underlying35
 have HB := Aside0.mk (Below.refl w.heap.size w)
 have H : (some (IntKind.u64.wrap (a0_13 - (IntKind.u64.wrap (a0_11 * a0_12))), a0_14, a0_15, a0_16, a0_17)) = some (r1, r2, r3, r4, r5) := h
 clear h
 simp only [Option.some.injEq, Prod.mk.injEq] at H
 obtain ⟨rfl, rfl, rfl, rfl, rfl⟩ := H
 go_enter Tryd.func31, Tryd.ntmps31
 try go_wp2_with (first | ((with_reducible refine gate_dst (N := 1) rfl ?_); refine box_event ?hg (N := 1) ?hd (cs := #[.int .i64 a0_0, .int .i64 a0_1, .int .i64 a0_2, .int .i64 a0_3, .int .i64 a0_4, .int .i64 a0_5, .int .u64 a0_6, .int .i64 a0_7, .int .i64 a0_8, .int .i64 a0_9, .int .u64 a0_10, .int .u64 a0_11, .int .u64 a0_12, .int .u64 a0_13, .bool a0_14, .bool a0_15, .bool a0_16, .bool a0_17]) (t := 49) ?hr ?_; (case hd => rfl); (case hg => rfl); (case hr => first | (go_simp; done) | (go_simp; rfl)); intro gb171 hg w2 hbox hb; have n0_ := Aside0.mk (below_step (by repeat (first | (with_reducible first | exact HB.out | apply below_alloc | apply pw_below_drewN | apply below_drew1) | exact HB.out)) hb); have n1_ := Aside0.mk (hbox); have n2_ := Aside0.mk ((by rw [hg]; exact (below_size (by repeat (first | (with_reducible first | exact HB.out | apply below_alloc | apply pw_below_drewN | apply below_drew1) | exact HB.out))) : w.heap.size ≤ gb171)); have n3_ := Aside0.mk ((by rw [hg]; exact (below_size (by repeat (first | (with_reducible first | exact HB.out | apply below_alloc | apply pw_below_drewN | apply below_drew1) | exact HB.out))) : w.heap.size ≤ gb171)); clear HB; have HB := n0_; have BK171 := n1_; have GW171 := n2_; have GE171 := n3_; clear n0_ n1_ n2_ n3_; clear hb hbox hg) | ((with_reducible refine gate_dst (N := 3) rfl ?_); refine box_event ?hg (N := 3) ?hd (cs := #[.bool false, .bool false, .bool false, .bool false]) (t := 35) ?hr ?_; (case hd => rfl); (case hg => rfl); (case hr => first | (go_simp; done) | (go_simp; rfl)); intro gb172 hg w3 hbox hb; have n0_ := Aside0.mk (blk_below (g := gb171) (o := .cells #[.int .i64 a0_0, .int .i64 a0_1, .int .i64 a0_2, .int .i64 a0_3, .int .i64 a0_4, .int .i64 a0_5, .int .u64 a0_6, .int .i64 a0_7, .int .i64 a0_8, .int .i64 a0_9, .int .u64 a0_10, .int .u64 a0_11, .int .u64 a0_12, .int .u64 a0_13, .bool a0_14, .bool a0_15, .bool a0_16, .bool a0_17] 49 (0, 0)) (by (with_reducible repeat (first | refine blk_drewN ?_ _ | refine blk_drew ?_ | refine blk_alloc ?_ _)); exact BK171.out) hb); have n1_ := Aside0.mk (below_step (by repeat (first | (with_reducible first | exact HB.out | apply below_alloc | apply pw_below_drewN | apply below_drew1 | refine below_set ?_ GE171.out) | exact HB.out)) hb); have n2_ := Aside0.mk (hbox); have n3_ := Aside0.mk ((by rw [hg]; exact (below_size (by repeat (first | (with_reducible first | exact HB.out | apply below_alloc | apply pw_below_drewN | apply below_drew1 | refine below_set ?_ GE171.out) | exact HB.out))) : w.heap.size ≤ gb172)); have n4_ := Aside0.mk ((by rw [hg]; exact (below_size (by repeat (first | (with_reducible first | exact HB.out | apply below_alloc | apply pw_below_drewN | apply below_drew1 | refine below_set ?_ GE171.out) | exact HB.out))) : w.heap.size ≤ gb172)); have n5_ := Aside0.mk ((by rw [hg]; exact Nat.ne_of_lt (blk_lt (g := gb171) (o := .cells #[.int .i64 a0_0, .int .i64 a0_1, .int .i64 a0_2, .int .i64 a0_3, .int .i64 a0_4, .int .i64 a0_5, .int .u64 a0_6, .int .i64 a0_7, .int .i64 a0_8, .int .i64 a0_9, .int .u64 a0_10, .int .u64 a0_11, .int .u64 a0_12, .int .u64 a0_13, .bool a0_14, .bool a0_15, .bool a0_16, .bool a0_17] 49 (0, 0)) (by (with_reducible repeat (first | refine blk_drewN ?_ _ | refine blk_drew ?_ | refine blk_alloc ?_ _)); exact BK171.out)) : gb171 ≠ gb172)); have n6_ := Aside0.mk ((by rw [hg]; exact Nat.ne_of_gt (blk_lt (g := gb171) (o := .cells #[.int .i64 a0_0, .int .i64 a0_1, .int .i64 a0_2, .int .i64 a0_3, .int .i64 a0_4, .int .i64 a0_5, .int .u64 a0_6, .int .i64 a0_7, .int .i64 a0_8, .int .i64 a0_9, .int .u64 a0_10, .int .u64 a0_11, .int .u64 a0_12, .int .u64 a0_13, .bool a0_14, .bool a0_15, .bool a0_16, .bool a0_17] 49 (0, 0)) (by (with_reducible repeat (first | refine blk_drewN ?_ _ | refine blk_drew ?_ | refine blk_alloc ?_ _)); exact BK171.out)) : gb172 ≠ gb171)); clear BK171; clear HB; have BK171 := n0_; have HB := n1_; have BK172 := n2_; have GW172 := n3_; have GE172 := n4_; have NB171_172 := n5_; have NB172_171 := n6_; clear n0_ n1_ n2_ n3_ n4_ n5_ n6_; clear hb hbox hg))
 have n0_ := Aside0.mk (blk_drew BK171.out)
 have n1_ := Aside0.mk (blk_drew BK172.out)
 have n2_ := Aside0.mk (below_drew1 HB.out)
 clear BK171
 clear BK172
 clear HB
 have BK171 := n0_
 have BK172 := n1_
 have HB := n2_
 clear n0_ n1_ n2_
 refine start_ (n := 15) (S := fun w' => w'.cell? ⟨gb171, 0, none⟩ = some (.int .i64 a0_0) ∧ w'.cell? ⟨gb171, 1, none⟩ = some (.int .i64 a0_1) ∧ w'.cell? ⟨gb171, 2, none⟩ = some (.int .i64 a0_2) ∧ w'.cell? ⟨gb171, 3, none⟩ = some (.int .i64 a0_3) ∧ w'.cell? ⟨gb171, 4, none⟩ = some (.int .i64 a0_4) ∧ w'.cell? ⟨gb171, 5, none⟩ = some (.int .i64 a0_5) ∧ w'.cell? ⟨gb171, 6, none⟩ = some (.int .u64 a0_6) ∧ w'.cell? ⟨gb171, 7, none⟩ = some (.int .i64 a0_7) ∧ w'.cell? ⟨gb171, 8, none⟩ = some (.int .i64 a0_8) ∧ w'.cell? ⟨gb171, 9, none⟩ = some (.int .i64 a0_9) ∧ w'.cell? ⟨gb171, 10, none⟩ = some (.int .u64 a0_10) ∧ w'.cell? ⟨gb171, 11, none⟩ = some (.int .u64 a0_11) ∧ w'.cell? ⟨gb171, 12, none⟩ = some (.int .u64 a0_12) ∧ w'.cell? ⟨gb171, 13, none⟩ = some (.int .u64 a0_13) ∧ w'.cell? ⟨gb171, 14, none⟩ = some (.bool a0_14) ∧ w'.cell? ⟨gb171, 15, none⟩ = some (.bool a0_15) ∧ w'.cell? ⟨gb171, 16, none⟩ = some (.bool a0_16) ∧ w'.cell? ⟨gb171, 17, none⟩ = some (.bool a0_17)) (ds := []) #[false, false, false, false, false, false, false, false, false, false, false, false, false, false, false] (by kernel_rfl) rfl rfl ⟨(blk_cell BK171.out 0).trans rfl, (blk_cell BK171.out 1).trans rfl, (blk_cell BK171.out 2).trans rfl, (blk_cell BK171.out 3).trans rfl, (blk_cell BK171.out 4).trans rfl, (blk_cell BK171.out 5).trans rfl, (blk_cell BK171.out 6).trans rfl, (blk_cell BK171.out 7).trans rfl, (blk_cell BK171.out 8).trans rfl, (blk_cell BK171.out 9).trans rfl, (blk_cell BK171.out 10).trans rfl, (blk_cell BK171.out 11).trans rfl, (blk_cell BK171.out 12).trans rfl, (blk_cell BK171.out 13).trans rfl, (blk_cell BK171.out 14).trans rfl, (blk_cell BK171.out 15).trans rfl, (blk_cell BK171.out 16).trans rfl, (blk_cell BK171.out 17).trans rfl⟩ (fun hHeld => ?_); refine with_tabW alu_worker_msub.tab1 alu_worker_msub.bits1 (fun HT_ HW_ => ?_)
 generalize w3.drew = w4 at BK171 BK172 HB hHeld ⊢
 refine pure_ (i := 0) (N := some 4) (v := ?_) (a' := ?_) #[true, false, false, false, false, false, false, false, false, false, false, false, false, false, false] rfl rfl (any_of HT_.out (by kernel_rfl)) (fun _ _ _ h => h) (Or.inl ⟨by rfl, ?_⟩) ?_ ?_
 rotate_left
 · intro w'; go_simp; with_reducible rfl
 rotate_left
 · simp only [qa_, qb_, qc_, qd_, i64_w, i32_w]; rfl
 refine pure_ (i := 1) (N := some 5) (v := ?_) (a' := ?_) #[true, true, false, false, false, false, false, false, false, false, false, false, false, false, false] rfl rfl (any_of HT_.out (by kernel_rfl)) (fun _ _ _ h => h) (Or.inl ⟨by rfl, ?_⟩) ?_ ?_
 rotate_left
 · intro w'; go_simp; with_reducible rfl
 rotate_left
 · simp only [qa_, qb_, qc_, qd_, i64_w, i32_w]; rfl
 refine pure_ (i := 3) (N := some 7) (v := ?_) (a' := ?_) #[true, true, false, true, false, false, false, false, false, false, false, false, false, false, false] rfl rfl (any_of HT_.out (by kernel_rfl)) (fun _ _ _ h => h) (Or.inl ⟨by rfl, ?_⟩) ?_ ?_
 rotate_left
 · intro w'; go_simp; with_reducible rfl
 rotate_left
 · simp only [qa_, qb_, qc_, qd_, i64_w, i32_w]; rfl
 refine pure_ (i := 4) (N := some 8) (v := ?_) (a' := ?_) #[true, true, false, true, true, false, false, false, false, false, false, false, false, false, false] rfl rfl (any_of HT_.out (by kernel_rfl)) (fun _ _ _ h => h) (Or.inl ⟨by rfl, ?_⟩) ?_ ?_
 rotate_left
 · intro w'; go_simp; with_reducible rfl
 rotate_left
 · simp only [qa_, qb_, qc_, qd_, i64_w, i32_w]; rfl
 refine pure_ (i := 6) (N := some 10) (v := ?_) (a' := ?_) #[true, true, false, true, true, false, true, false, false, false, false, false, false, false, false] rfl rfl (any_of HT_.out (by kernel_rfl)) (fun _ _ _ h => h) (Or.inl ⟨by rfl, ?_⟩) ?_ ?_
 rotate_left
 · intro w'; go_simp; with_reducible rfl
 rotate_left
 · simp only [qa_, qb_, qc_, qd_, i64_w, i32_w]; rfl
 refine pure_ (i := 7) (N := some 11) (v := ?_) (a' := ?_) #[true, true, false, true, true, false, true, true, false, false, false, false, false, false, false] rfl rfl (any_of HT_.out (by kernel_rfl)) (fun _ _ _ h => h) (Or.inl ⟨by rfl, ?_⟩) ?_ ?_
 rotate_left
 · intro w'; go_simp; with_reducible rfl
 rotate_left
 · simp only [qa_, qb_, qc_, qd_, i64_w, i32_w]; rfl
 refine pure_ (i := 11) (N := some 15) (v := ?_) (a' := ?_) #[true, true, false, true, true, false, true, true, false, false, false, true, false, false, false] rfl rfl (any_of HT_.out (by kernel_rfl)) (fun _ _ _ h => h) (Or.inl ⟨by rfl, ?_⟩) ?_ ?_
 rotate_left
 · intro w'; go_simp; with_reducible rfl
 rotate_left
 · simp only [qa_, qb_, qc_, qd_, i64_w, i32_w]; rfl
 refine take_ (i := 2) (N := some 6) (v := ?_) (a' := ?_) #[true, true, true, true, true, false, true, true, false, false, false, true, false, false, false] rfl rfl (take_ofW HT_.out HW_.out (by kernel_rfl)) (fun _ _ _ h => h) (Or.inl ⟨by rfl, ?_⟩) hHeld ?_ ?_
 rotate_left
 · rintro w' ⟨s0, s1, s2, s3, s4, s5, s6, s7, s8, s9, s10, s11, s12, s13, s14, s15, s16, s17⟩; go_simp; with_reducible rfl
 rotate_left
 · simp only [qa_, qb_, qc_, qd_, i64_w, i32_w]; rfl
 refine take_ (i := 5) (N := some 9) (v := ?_) (a' := ?_) #[true, true, true, true, true, true, true, true, false, false, false, true, false, false, false] rfl rfl (take_ofW HT_.out HW_.out (by kernel_rfl)) (fun _ _ _ h => h) (Or.inl ⟨by rfl, ?_⟩) hHeld ?_ ?_
 rotate_left
 · rintro w' ⟨s0, s1, s2, s3, s4, s5, s6, s7, s8, s9, s10, s11, s12, s13, s14, s15, s16, s17⟩; go_simp; with_reducible rfl
 rotate_left
 · simp only [qa_, qb_, qc_, qd_, i64_w, i32_w]; rfl
 refine take_ (i := 8) (N := some 12) (v := ?_) (a' := ?_) #[true, true, true, true, true, true, true, true, true, false, false, true, false, false, false] rfl rfl (take_ofW HT_.out HW_.out (by kernel_rfl)) (fun _ _ _ h => h) (Or.inl ⟨by rfl, ?_⟩) hHeld ?_ ?_
 rotate_left
 · rintro w' ⟨s0, s1, s2, s3, s4, s5, s6, s7, s8, s9, s10, s11, s12, s13, s14, s15, s16, s17⟩; go_simp; with_reducible rfl
 rotate_left
 · simp only [qa_, qb_, qc_, qd_, i64_w, i32_w]; rfl
 refine pure_ (i := 9) (N := some 13) (v := ?_) (a' := ?_) #[true, true, true, true, true, true, true, true, true, true, false, true, false, false, false] rfl rfl (any_of HT_.out (by kernel_rfl)) (fun _ _ _ h => h) (Or.inl ⟨by rfl, ?_⟩) ?_ ?_
 rotate_left
 · intro w'; go_simp; with_reducible rfl
 rotate_left
 · simp only [qa_, qb_, qc_, qd_, i64_w, i32_w]; rfl
 refine pure_ (i := 10) (N := some 14) (v := ?_) (a' := ?_) #[true, true, true, true, true, true, true, true, true, true, true, true, false, false, false] rfl rfl (any_of HT_.out (by kernel_rfl)) (fun _ _ _ h => h) (Or.inl ⟨by rfl, ?_⟩) ?_ ?_
 rotate_left
 · intro w'; go_simp; with_reducible rfl
 rotate_left
 · simp only [qa_, qb_, qc_, qd_, i64_w, i32_w]; rfl
 refine pure_ (i := 13) (N := some 2) (v := ?_) (a' := ?_) #[true, true, true, true, true, true, true, true, true, true, true, true, false, true, false] rfl rfl (any_of HT_.out (by kernel_rfl)) (fun _ _ _ h => h) (Or.inl ⟨by rfl, ?_⟩) ?_ ?_
 rotate_left
 · intro w'; go_simp; with_reducible rfl
 rotate_left
 · simp only [qa_, qb_, qc_, qd_, i64_w, i32_w]; rfl
 refine take_ (i := 12) (N := some 16) (v := ?_) (a' := ?_) #[true, true, true, true, true, true, true, true, true, true, true, true, true, true, false] rfl rfl (take_ofW HT_.out HW_.out (by kernel_rfl)) (fun _ _ _ h => h) (Or.inl ⟨by rfl, ?_⟩) hHeld ?_ ?_
 rotate_left
 · rintro w' ⟨s0, s1, s2, s3, s4, s5, s6, s7, s8, s9, s10, s11, s12, s13, s14, s15, s16, s17⟩; go_simp; with_reducible rfl
 rotate_left
 · simp only [qa_, qb_, qc_, qd_, i64_w, i32_w]; rfl
 refine one_ (i := 14) (N := none) #[true, true, true, true, true, true, true, true, true, true, true, true, true, true, true] rfl rfl (one_of HT_.out (by kernel_rfl)) (by decide) (fun K hK => ?_)
 have hs5 : w4.cell? ⟨gb172, 0, none⟩ = some (.bool false) := (blk_cell BK172.out 0).trans rfl
 have hfs5 := blk_frozen BK172.out 0
 have hns5_0 := NB171_172.out
 have hms5_0 := NB172_171.out
 have hs6 : w4.cell? ⟨gb172, 1, none⟩ = some (.bool false) := (blk_cell BK172.out 1).trans rfl
 have hfs6 := blk_frozen BK172.out 1
 have hns6_0 := NB171_172.out
 have hms6_0 := NB172_171.out
 have hs7 : w4.cell? ⟨gb172, 2, none⟩ = some (.bool false) := (blk_cell BK172.out 2).trans rfl
 have hfs7 := blk_frozen BK172.out 2
 have hns7_0 := NB171_172.out
 have hms7_0 := NB172_171.out
 have hs8 : w4.cell? ⟨gb172, 3, none⟩ = some (.bool false) := (blk_cell BK172.out 3).trans rfl
 have hfs8 := blk_frozen BK172.out 3
 have hns8_0 := NB171_172.out
 have hms8_0 := NB172_171.out
 refine skip_ (w1 := ?_) (by rfl) rfl ?_ ?_
 rotate_left
 ·
  go_simp
  rfl
 refine hK.out _ _ ⟨((cell_far (p := ⟨gb172, _, none⟩) NB171_172.out _).trans (((cell_far (p := ⟨gb172, _, none⟩) NB171_172.out _).trans (((cell_far (p := ⟨gb172, _, none⟩) NB171_172.out _).trans (((cell_far (p := ⟨gb172, _, none⟩) NB171_172.out _).trans (hHeld.1)))))))), ((cell_far (p := ⟨gb172, _, none⟩) NB171_172.out _).trans (((cell_far (p := ⟨gb172, _, none⟩) NB171_172.out _).trans (((cell_far (p := ⟨gb172, _, none⟩) NB171_172.out _).trans (((cell_far (p := ⟨gb172, _, none⟩) NB171_172.out _).trans (hHeld.2.1)))))))), ((cell_far (p := ⟨gb172, _, none⟩) NB171_172.out _).trans (((cell_far (p := ⟨gb172, _, none⟩) NB171_172.out _).trans (((cell_far (p := ⟨gb172, _, none⟩) NB171_172.out _).trans (((cell_far (p := ⟨gb172, _, none⟩) NB171_172.out _).trans (hHeld.2.2.1)))))))), ((cell_far (p := ⟨gb172, _, none⟩) NB171_172.out _).trans (((cell_far (p := ⟨gb172, _, none⟩) NB171_172.out _).trans (((cell_far (p := ⟨gb172, _, none⟩) NB171_172.out _).trans (((cell_far (p := ⟨gb172, _, none⟩) NB171_172.out _).trans (hHeld.2.2.2.1)))))))), ((cell_far (p := ⟨gb172, _, none⟩) NB171_172.out _).trans (((cell_far (p := ⟨gb172, _, none⟩) NB171_172.out _).trans (((cell_far (p := ⟨gb172, _, none⟩) NB171_172.out _).trans (((cell_far (p := ⟨gb172, _, none⟩) NB171_172.out _).trans (hHeld.2.2.2.2.1)))))))), ((cell_far (p := ⟨gb172, _, none⟩) NB171_172.out _).trans (((cell_far (p := ⟨gb172, _, none⟩) NB171_172.out _).trans (((cell_far (p := ⟨gb172, _, none⟩) NB171_172.out _).trans (((cell_far (p := ⟨gb172, _, none⟩) NB171_172.out _).trans (hHeld.2.2.2.2.2.1)))))))), ((cell_far (p := ⟨gb172, _, none⟩) NB171_172.out _).trans (((cell_far (p := ⟨gb172, _, none⟩) NB171_172.out _).trans (((cell_far (p := ⟨gb172, _, none⟩) NB171_172.out _).trans (((cell_far (p := ⟨gb172, _, none⟩) NB171_172.out _).trans (hHeld.2.2.2.2.2.2.1)))))))), ((cell_far (p := ⟨gb172, _, none⟩) NB171_172.out _).trans (((cell_far (p := ⟨gb172, _, none⟩) NB171_172.out _).trans (((cell_far (p := ⟨gb172, _, none⟩) NB171_172.out _).trans (((cell_far (p := ⟨gb172, _, none⟩) NB171_172.out _).trans (hHeld.2.2.2.2.2.2.2.1)))))))), ((cell_far (p := ⟨gb172, _, none⟩) NB171_172.out _).trans (((cell_far (p := ⟨gb172, _, none⟩) NB171_172.out _).trans (((cell_far (p := ⟨gb172, _, none⟩) NB171_172.out _).trans (((cell_far (p := ⟨gb172, _, none⟩) NB171_172.out _).trans (hHeld.2.2.2.2.2.2.2.2.1)))))))), ((cell_far (p := ⟨gb172, _, none⟩) NB171_172.out _).trans (((cell_far (p := ⟨gb172, _, none⟩) NB171_172.out _).trans (((cell_far (p := ⟨gb172, _, none⟩) NB171_172.out _).trans (((cell_far (p := ⟨gb172, _, none⟩) NB171_172.out _).trans (hHeld.2.2.2.2.2.2.2.2.2.1)))))))), ((cell_far (p := ⟨gb172, _, none⟩) NB171_172.out _).trans (((cell_far (p := ⟨gb172, _, none⟩) NB171_172.out _).trans (((cell_far (p := ⟨gb172, _, none⟩) NB171_172.out _).trans (((cell_far (p := ⟨gb172, _, none⟩) NB171_172.out _).trans (hHeld.2.2.2.2.2.2.2.2.2.2.1)))))))), ((cell_far (p := ⟨gb172, _, none⟩) NB171_172.out _).trans (((cell_far (p := ⟨gb172, _, none⟩) NB171_172.out _).trans (((cell_far (p := ⟨gb172, _, none⟩) NB171_172.out _).trans (((cell_far (p := ⟨gb172, _, none⟩) NB171_172.out _).trans (hHeld.2.2.2.2.2.2.2.2.2.2.2.1)))))))), ((cell_far (p := ⟨gb172, _, none⟩) NB171_172.out _).trans (((cell_far (p := ⟨gb172, _, none⟩) NB171_172.out _).trans (((cell_far (p := ⟨gb172, _, none⟩) NB171_172.out _).trans (((cell_far (p := ⟨gb172, _, none⟩) NB171_172.out _).trans (hHeld.2.2.2.2.2.2.2.2.2.2.2.2.1)))))))), ((cell_far (p := ⟨gb172, _, none⟩) NB171_172.out _).trans (((cell_far (p := ⟨gb172, _, none⟩) NB171_172.out _).trans (((cell_far (p := ⟨gb172, _, none⟩) NB171_172.out _).trans (((cell_far (p := ⟨gb172, _, none⟩) NB171_172.out _).trans (hHeld.2.2.2.2.2.2.2.2.2.2.2.2.2.1)))))))), ((cell_far (p := ⟨gb172, _, none⟩) NB171_172.out _).trans (((cell_far (p := ⟨gb172, _, none⟩) NB171_172.out _).trans (((cell_far (p := ⟨gb172, _, none⟩) NB171_172.out _).trans (((cell_far (p := ⟨gb172, _, none⟩) NB171_172.out _).trans (hHeld.2.2.2.2.2.2.2.2.2.2.2.2.2.2.1)))))))), ((cell_far (p := ⟨gb172, _, none⟩) NB171_172.out _).trans (((cell_far (p := ⟨gb172, _, none⟩) NB171_172.out _).trans (((cell_far (p := ⟨gb172, _, none⟩) NB171_172.out _).trans (((cell_far (p := ⟨gb172, _, none⟩) NB171_172.out _).trans (hHeld.2.2.2.2.2.2.2.2.2.2.2.2.2.2.2.1)))))))), ((cell_far (p := ⟨gb172, _, none⟩) NB171_172.out _).trans (((cell_far (p := ⟨gb172, _, none⟩) NB171_172.out _).trans (((cell_far (p := ⟨gb172, _, none⟩) NB171_172.out _).trans (((cell_far (p := ⟨gb172, _, none⟩) NB171_172.out _).trans (hHeld.2.2.2.2.2.2.2.2.2.2.2.2.2.2.2.2.1)))))))), ((cell_far (p := ⟨gb172, _, none⟩) NB171_172.out _).trans (((cell_far (p := ⟨gb172, _, none⟩) NB171_172.out _).trans (((cell_far (p := ⟨gb172, _, none⟩) NB171_172.out _).trans (((cell_far (p := ⟨gb172, _, none⟩) NB171_172.out _).trans (hHeld.2.2.2.2.2.2.2.2.2.2.2.2.2.2.2.2.2))))))))⟩ (fun hHeld => ?_)
 clear hK K
 refine done_ (done_of HT_.out (by kernel_rfl)) ?_
 try go_wp2
 refine bodyPost_ret (results_tc rfl _ _ gb172 35 #[.bool a0_14, .bool a0_15, .bool a0_16, .bool a0_17] (0, 0) _ rfl (by (with_reducible repeat (first | refine blk_drewN ?_ _ | refine blk_drew ?_ | refine blk_alloc ?_ _)); refine blk_put (cs := #[.bool a0_14, .bool a0_15, .bool a0_16, .bool false]) ?_ 3 _ rfl; (with_reducible repeat (first | refine blk_drewN ?_ _ | refine blk_drew ?_ | refine blk_alloc ?_ _)); refine blk_put (cs := #[.bool a0_14, .bool a0_15, .bool false, .bool false]) ?_ 2 _ rfl; (with_reducible repeat (first | refine blk_drewN ?_ _ | refine blk_drew ?_ | refine blk_alloc ?_ _)); refine blk_put (cs := #[.bool a0_14, .bool false, .bool false, .bool false]) ?_ 1 _ rfl; (with_reducible repeat (first | refine blk_drewN ?_ _ | refine blk_drew ?_ | refine blk_alloc ?_ _)); refine blk_put (cs := #[.bool false, .bool false, .bool false, .bool false]) ?_ 0 _ rfl; (with_reducible repeat (first | refine blk_drewN ?_ _ | refine blk_drew ?_ | refine blk_alloc ?_ _)); exact BK172.out) Tryd.underlying35 rfl (by kernel_rfl)) rfl ?_
 exact ⟨by first | rfl | (simp [errW_none, errW_some] <;> rfl) | (simp [*, errW_none, errW_some] <;> rfl), by repeat (first | (with_reducible first | exact HB.out | apply below_alloc | apply pw_below_drewN | apply below_drew1 | refine below_set ?_ GE171.out | refine below_set ?_ GE172.out) | exact HB.out)⟩

end Go.Proofs.YtkmochnefidlmaaDoor.P
