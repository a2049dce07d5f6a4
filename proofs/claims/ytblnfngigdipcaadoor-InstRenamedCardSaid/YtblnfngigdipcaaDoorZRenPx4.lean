/- Written for this claim by a program of this session: what the claim uses of lemmas and proved contracts of Go functions. -/
import Derived.Test.YtblnfngigdipcaaDoorZRenPx0
import Derived.Test.YtblnfngigdipcaaDoorZRenPx1
import Derived.Test.YtblnfngigdipcaaDoorZRenPx2
import Derived.Test.YtblnfngigdipcaaDoorZRenPx3
namespace Go.Proofs.YtblnfngigdipcaaDoor.P
open Go.RowKit Go.Proofs.YtblnfngigdipcaaDoorW.PrintWords Go.Proofs.YtblnfngigdipcaaDoorW.PrintLast Go.Proofs.YtblnfngigdipcaaDoorW.PrintMore
attribute [local go_sem] max2_int min2_int max_two min_two max_three min_three max_four min_four   -- for this text's walks alone
set_option linter.unusedVariables false
set_option linter.unusedSimpArgs false
attribute [local go_sem high] eqA54
def bb0_0 : Array Bool := #[false, false, false, false, false, false, false, false, false, false, false, false, false]
def bb0_1 : Array Bool := #[true, false, false, false, false, false, false, false, false, false, false, false, false]
def bb0_2 : Array Bool := #[true, true, false, false, false, false, false, false, false, false, false, false, false]
def bb0_3 : Array Bool := #[true, true, true, false, false, false, false, false, false, false, false, false, false]
def bb0_4 : Array Bool := #[true, true, true, true, false, false, false, false, false, false, false, false, false]
def bb0_5 : Array Bool := #[true, true, true, true, true, false, false, false, false, false, false, false, false]
def bb0_6 : Array Bool := #[true, true, true, true, true, true, false, false, false, false, false, false, false]
def bb0_7 : Array Bool := #[true, true, true, true, true, true, true, false, false, false, false, false, false]
def bb0_8 : Array Bool := #[true, true, true, true, true, true, true, true, false, false, false, false, false]
def bb0_9 : Array Bool := #[true, true, true, true, true, true, true, true, true, true, true, true, false]
def bb0_10 : Array Bool := #[true, true, true, true, true, true, true, true, true, false, false, false, false]
def bb0_11 : Array Bool := #[true, true, true, true, true, true, true, true, false, false, false, true, false]
def bb0_12 : Array Bool := #[true, true, true, true, true, true, true, true, true, true, false, false, false]
def bb0_13 : Array Bool := #[true, true, true, true, true, true, true, true, true, true, true, false, false]
def bb0_14 : Array Bool := #[true, true, true, true, true, true, true, true, true, false, false, true, false]
def bb0_15 : Array Bool := #[true, true, true, true, true, true, true, true, true, true, false, true, false]
def bb0_16 : Array Bool := #[true, true, true, true, true, true, true, true, true, true, true, true, true]
mutual
def mask_tell.j0 : Nat → Int → Int → Int → Bool → Option (Int × Int × Int)
 | 0, _, _, _, _ => none
 | k + 1, x0, x3, x4, x22 => if x22 = true then (some (0, 0, 0)) else ((bits_TrailingZeros64.f x0).bind fun t110 => (if t110 = 0 then (if 0 ≤ (wrap64 (64 - x3)) then ((bits_LeadingZeros64.f k (Go.bits .xor .u64 18446744073709551615 (shl .u64 x0 (wrap64 (64 - x3))))).bind fun t111 => (if x3 = 0 then (none) else (mask_tell.j1 k x0 x3 x4 (Int.tmod (wrap64 (x3 - t111)) x3)))) else (none)) else (mask_tell.j1 k x0 x3 x4 t110)))
def mask_tell.j1 : Nat → Int → Int → Int → Int → Option (Int × Int × Int)
 | 0, _, _, _, _ => none
 | k + 1, x0, x3, x4, x5 => (bits_Rotate.f k x0 x5 x3).bind fun bt112 => ((bits_Low.f 18446744073709551615 x4).bind fun t114 => (if bt112.1 = t114 then (if x3 = 0 then (none) else ((mask_front.f x3).bind fun t115 => (if x3 = 64 then (some (1, Int.tmod (wrap64 (x3 - x5)) x3, wrap64 ((wrap64 (x4 - 1)) + t115))) else (some (0, Int.tmod (wrap64 (x3 - x5)) x3, wrap64 ((wrap64 (x4 - 1)) + t115)))))) else (some (0, 0, 0))))
end
def mask_tell.f (k : Nat) (a0 : Int) : Option (Int × Int × Int) := (mask_Size.f k a0).bind fun t107 => ((bits_Low.f a0 t107).bind fun t108 => ((mask_Ones.f t108).bind fun t109 => (if t109 = 0 then (mask_tell.j0 k t108 t107 t109 true) else (mask_tell.j0 k t108 t107 t109 (t109 == t107)))))
theorem mask_tell.mono_l : ∀ k, (∀ y0 y1 y2 y3, LeO (mask_tell.j0 k y0 y1 y2 y3) (mask_tell.j0 (k + 1) y0 y1 y2 y3)) ∧ (∀ y0 y1 y2 y3, LeO (mask_tell.j1 k y0 y1 y2 y3) (mask_tell.j1 (k + 1) y0 y1 y2 y3))
 | 0 => ⟨fun _ _ _ _ r h => by simp [mask_tell.j0] at h, fun _ _ _ _ r h => by simp [mask_tell.j1] at h⟩
 | k + 1 => by
  obtain ⟨ih0, ih1⟩ := mask_tell.mono_l k
  refine ⟨?_, ?_⟩
  ·
   intro y0 y1 y2 y3
   unfold mask_tell.j0
   repeat' first
   | (with_reducible exact ih0 _ _ _ _)
   | (with_reducible exact ih1 _ _ _ _)
   | (with_reducible exact bits_LeadingZeros64.mono _ _)
   | (with_reducible exact bits_Rotate.mono _ _ _ _)
   | (with_reducible exact mask_Size.mono _ _)
   | (with_reducible exact LeO.refl _)
   | (with_reducible exact LeO.none _)
   | (with_reducible refine LeO.ite ?_ ?_)
   | (with_reducible refine LeO.bind ?_ (fun _ => ?_))
   | exact ih0 _ _ _ _
   | exact ih1 _ _ _ _
   | exact bits_LeadingZeros64.mono _ _
   | exact bits_Rotate.mono _ _ _ _
   | exact mask_Size.mono _ _
   | exact LeO.none _
   | refine LeO.ite ?_ ?_
   | refine LeO.bind ?_ (fun _ => ?_)
  ·
   intro y0 y1 y2 y3
   unfold mask_tell.j1
   repeat' first
   | (with_reducible exact ih0 _ _ _ _)
   | (with_reducible exact ih1 _ _ _ _)
   | (with_reducible exact bits_LeadingZeros64.mono _ _)
   | (with_reducible exact bits_Rotate.mono _ _ _ _)
   | (with_reducible exact mask_Size.mono _ _)
   | (with_reducible exact LeO.refl _)
   | (with_reducible exact LeO.none _)
   | (with_reducible refine LeO.ite ?_ ?_)
   | (with_reducible refine LeO.bind ?_ (fun _ => ?_))
   | exact ih0 _ _ _ _
   | exact ih1 _ _ _ _
   | exact bits_LeadingZeros64.mono _ _
   | exact bits_Rotate.mono _ _ _ _
   | exact mask_Size.mono _ _
   | exact LeO.none _
   | refine LeO.ite ?_ ?_
   | refine LeO.bind ?_ (fun _ => ?_)
theorem mask_tell.mono : ∀ a0 k, LeO (mask_tell.f k a0) (mask_tell.f (k + 1) a0) := by
 intro a0 k
 obtain ⟨ih0, ih1⟩ := mask_tell.mono_l k
 unfold mask_tell.f
 repeat' first
   | (with_reducible exact ih0 _ _ _ _)
   | (with_reducible exact ih1 _ _ _ _)
   | (with_reducible exact bits_LeadingZeros64.mono _ _)
   | (with_reducible exact bits_Rotate.mono _ _ _ _)
   | (with_reducible exact mask_Size.mono _ _)
   | (with_reducible exact LeO.refl _)
   | (with_reducible exact LeO.none _)
   | (with_reducible refine LeO.ite ?_ ?_)
   | (with_reducible refine LeO.bind ?_ (fun _ => ?_))
   | exact ih0 _ _ _ _
   | exact ih1 _ _ _ _
   | exact bits_LeadingZeros64.mono _ _
   | exact bits_Rotate.mono _ _ _ _
   | exact mask_Size.mono _ _
   | exact LeO.none _
   | refine LeO.ite ?_ ?_
   | refine LeO.bind ?_ (fun _ => ?_)
def mask_tell.T12 : Bool × List (List Nat × List Nat) := (true, [([], []), ([], []), ([0, 1], [0, 1]), ([], []), ([2, 3], [2, 3]), ([], []), ([5], [5]), ([], []), ([7], [7]), ([6, 8], [6, 8]), ([4, 9], [4, 9]), ([], []), ([11, 10, 8, 0, 1, 2, 3, 4, 5, 6, 7, 8, 9, 10, 11], [10, 11])])
def mask_tell.B12 : List Nat := [0, 0, 3, 0, 15, 0, 32, 0, 128, 480, 1023, 0, 4095]
theorem mask_tell.tab12 : rtab .any (opsOf Tryd.f23 12) = mask_tell.T12 := by kernel_rfl
theorem mask_tell.bits12 : waitsOk mask_tell.T12.2 mask_tell.B12 = true := by kernel_rfl
set_option maxHeartbeats 8000000 in
set_option maxRecDepth 100000 in
theorem mask_tell.calls (k : Nat) (a0 : Int) (r1 : Int) (r2 : Int) (r3 : Int) (w : World) (h : mask_tell.f k a0 = some (r1, r2, r3)) (hTab : TabW w := by first | exact hTab | exact TabW.drew hTab | exact TabW.drewN hTab _ | exact TabW.below hTab (by repeat (first | (with_reducible first | exact HB.out | apply below_alloc | apply pw_below_drewN | apply below_drew1) | refine Below.setCell ?_ (Aside0.out (by assumption)) _ | exact HB.out | exact Below.refl _ _))) :
    Calls Tryd.prog 23 #[.int .u64 a0] w fun e w' => e = .returned (.agg #[.int .i64 r1, .int .i64 r2, .int .i64 r3]) ∧ Below w.heap.size w w' := by
 have hu54 := Tryd.underlying54
 have HB := Aside0.mk (Below.refl w.heap.size w)
 have H : ((mask_Size.f k a0).bind fun t107 => ((bits_Low.f a0 t107).bind fun t108 => ((mask_Ones.f t108).bind fun t109 => (if t109 = 0 then (mask_tell.j0 k t108 t107 t109 true) else (mask_tell.j0 k t108 t107 t109 (t109 == t107)))))) = some (r1, r2, r3) := h
 clear h
 replace H := Option.bind_eq_some_iff.mp H
 obtain ⟨t107, A20, H⟩ := H
 replace H : ((bits_Low.f a0 t107).bind fun t108 => ((mask_Ones.f t108).bind fun t109 => (if t109 = 0 then (mask_tell.j0 k t108 t107 t109 true) else (mask_tell.j0 k t108 t107 t109 (t109 == t107))))) = some (r1, r2, r3) := H
 have A2 := Aside0.mk A20
 clear A20
 replace H := Option.bind_eq_some_iff.mp H
 obtain ⟨t108, A30, H⟩ := H
 replace H : ((mask_Ones.f t108).bind fun t109 => (if t109 = 0 then (mask_tell.j0 k t108 t107 t109 true) else (mask_tell.j0 k t108 t107 t109 (t109 == t107)))) = some (r1, r2, r3) := H
 have A3 := Aside0.mk A30
 clear A30
 replace H := Option.bind_eq_some_iff.mp H
 obtain ⟨t109, A40, H⟩ := H
 replace H : (if t109 = 0 then (mask_tell.j0 k t108 t107 t109 true) else (mask_tell.j0 k t108 t107 t109 (t109 == t107))) = some (r1, r2, r3) := H
 have A4 := Aside0.mk A40
 clear A40
 have HC5 := Aside0.mk H
 clear H
 go_enter Tryd.func23, Tryd.ntmps23
 go_upto_region 4 with (first | ((with_reducible refine gate_dst (N := 2) rfl ?_); refine box_event ?hg (N := 2) ?hd (cs := #[.int .i64 0, .int .i64 0, .int .i64 0]) (t := 54) ?hr ?_; (case hd => rfl); (case hg => rfl); (case hr => first | (go_simp; done) | (go_simp; rfl)); intro gb106 hg w6 hbox hb; have n0_ := Aside0.mk (below_step (by repeat (first | (with_reducible first | exact HB.out | apply below_alloc | apply pw_below_drewN | apply below_drew1) | exact HB.out)) hb); have n1_ := Aside0.mk (hbox); have n2_ := Aside0.mk ((by rw [hg]; exact (below_size (by repeat (first | (with_reducible first | exact HB.out | apply below_alloc | apply pw_below_drewN | apply below_drew1) | exact HB.out))) : w.heap.size ≤ gb106)); have n3_ := Aside0.mk ((by rw [hg]; exact (below_size (by repeat (first | (with_reducible first | exact HB.out | apply below_alloc | apply pw_below_drewN | apply below_drew1) | exact HB.out))) : w.heap.size ≤ gb106)); clear HB; have HB := n0_; have BK106 := n1_; have GW106 := n2_; have GE106 := n3_; clear n0_ n1_ n2_ n3_; clear hb hbox hg) | ((with_reducible refine gate_callee (f := 27) rfl ?_); refine goesL_ (some 10) rfl rfl Tryd.func27 (by kernel_rfl) rfl #[.int .u64 a0] rfl (by (try simp only [List.map_toArray, List.map_cons, List.map_nil]); first | done | rfl | (simp only [List.length_drop, List.length_take]; rfl)) ?_; (with_reducible refine (mask_Size.calls k a0 t107 _ A2.out).mono ?_); rintro e w7 ⟨rfl, hb⟩; refine ⟨_, rfl, ?_⟩; have n0_ := Aside0.mk (blk_below (g := gb106) (o := .cells #[.int .i64 0, .int .i64 0, .int .i64 0] 54 (0, 0)) (by (with_reducible repeat (first | refine blk_drewN ?_ _ | refine blk_drew ?_ | refine blk_alloc ?_ _)); exact BK106.out) hb); have n1_ := Aside0.mk (below_step (by repeat (first | (with_reducible first | exact HB.out | apply below_alloc | apply pw_below_drewN | apply below_drew1 | refine below_set ?_ GE106.out) | exact HB.out)) hb); clear BK106; clear HB; have BK106 := n0_; have HB := n1_; clear n0_ n1_; (try clear hb); (try clear hb2); (try clear hk); (try clear hi)) | ((with_reducible refine gate_callee (f := 28) rfl ?_); refine goesL_ (some 13) rfl rfl Tryd.func28 (by kernel_rfl) rfl #[.int .u64 a0, .int .i64 t107] rfl (by (try simp only [List.map_toArray, List.map_cons, List.map_nil]); first | done | rfl | (simp only [List.length_drop, List.length_take]; rfl)) ?_; (with_reducible refine (bits_Low.calls a0 t107 t108 _ A3.out).mono ?_); rintro e w8 ⟨rfl, hb⟩; refine ⟨_, rfl, ?_⟩; have n0_ := Aside0.mk (blk_below (g := gb106) (o := .cells #[.int .i64 0, .int .i64 0, .int .i64 0] 54 (0, 0)) (by (with_reducible repeat (first | refine blk_drewN ?_ _ | refine blk_drew ?_ | refine blk_alloc ?_ _)); exact BK106.out) hb); have n1_ := Aside0.mk (below_step (by repeat (first | (with_reducible first | exact HB.out | apply below_alloc | apply pw_below_drewN | apply below_drew1 | refine below_set ?_ GE106.out) | exact HB.out)) hb); clear BK106; clear HB; have BK106 := n0_; have HB := n1_; clear n0_ n1_; (try clear hb); (try clear hb2); (try clear hk); (try clear hi)) | ((with_reducible refine gate_callee (f := 29) rfl ?_); refine goesL_ (some 15) rfl rfl Tryd.func29 (by kernel_rfl) rfl #[.int .u64 t108] rfl (by (try simp only [List.map_toArray, List.map_cons, List.map_nil]); first | done | rfl | (simp only [List.length_drop, List.length_take]; rfl)) ?_; (with_reducible refine (mask_Ones.calls t108 t109 _ A4.out).mono ?_); rintro e w' ⟨rfl, ⟨nd, rfl⟩⟩; refine ⟨_, rfl, ?_⟩))
 (try simp only [Act.put, List.setIfInBounds_toArray, List.set_cons_zero, List.set_cons_succ])
 go_cut [22] (fun v22 wc => ∃ (kq : Nat) (x22_4 : Bool), v22 = .bool x22_4 ∧ Aside0 (mask_tell.j0 kq t108 t107 t109 x22_4 = some (r1, r2, r3)) ∧ Aside0 (kq ≤ k) ∧ Aside0 (wc.heap[gb106]? = some (.cells #[.int .i64 0, .int .i64 0, .int .i64 0] 54 (0, 0))) ∧ Aside0 (Below w.heap.size w wc))
 case first =>
  have H := HC5.out
  clear HC5
  by_cases c9 : t109 = 0
  ·
   rw [if_pos c9] at H
   have c9b0 : (t109 == 0) = true := beq_iff_eq.mpr c9
   have c9b1 : (t109 != 0) = false := bne_eq_false_iff_eq.mpr c9
   clear c9
   (first | rw [c9b0] | (simp only [i64_w, i32_w]; rw [c9b0]) | skip)
   have H' := Aside0.mk H
   clear H
   go_wp2
   go_meet
   case rel => exact ⟨_, (true), (by first | rfl | (simp; done) | (simp [*]; done)), H', ⟨by first | omega | exact Nat.le_refl _⟩, ⟨by (with_reducible repeat (first | refine blk_drewN ?_ _ | refine blk_drew ?_ | refine blk_alloc ?_ _)); exact BK106.out⟩, ⟨by repeat (first | (with_reducible first | exact HB.out | apply below_alloc | apply pw_below_drewN | apply below_drew1 | refine below_set ?_ GE106.out) | exact HB.out)⟩⟩
  ·
   rw [if_neg c9] at H
   have c9b0 : (t109 == 0) = false := beq_eq_false_iff_ne.mpr c9
   have c9b1 : (t109 != 0) = true := bne_iff_ne.mpr c9
   (first | rw [c9b0] | (simp only [i64_w, i32_w]; rw [c9b0]) | skip)
   have H' := Aside0.mk H
   clear H
   go_wp2
   go_meet
   case rel => exact ⟨_, ((t109 == t107)), (by first | rfl | (simp; done) | (simp [*]; done)), H', ⟨by first | omega | exact Nat.le_refl _⟩, ⟨by (with_reducible repeat (first | refine blk_drewN ?_ _ | refine blk_drew ?_ | refine blk_alloc ?_ _)); exact BK106.out⟩, ⟨by repeat (first | (with_reducible first | exact HB.out | apply below_alloc | apply pw_below_drewN | apply below_drew1 | refine below_set ?_ GE106.out) | exact HB.out)⟩⟩
 case rest =>
  clear HC5
  try clear c2
  try clear p2
  try clear c9
  try clear c9b0
  try clear c9b1
  obtain ⟨kq, x22_4, rfl, HA, HJ4, BK106, HB⟩ := hcut
  cases kq with
  | zero => exact absurd HA.out (by simp [mask_tell.j0])
  | succ kj4 =>
   have H := HA.out
   clear HA
   simp only [mask_tell.j0] at H
   by_cases c10 : x22_4 = true
   ·
    subst c10
    have H1 : (some (0, 0, 0)) = some (r1, r2, r3) := by rw [if_pos rfl] at H; exact H
    clear H
    have H := H1
    clear H1
    simp only [Option.some.injEq, Prod.mk.injEq] at H
    obtain ⟨rfl, rfl, rfl⟩ := H
    have hcz11_0 : wc.cell? ⟨gb106, 0, none⟩ = some (.int .i64 0) := (blk_cell BK106.out 0).trans rfl
    have hcz11_1 : wc.cell? ⟨gb106, 1, none⟩ = some (.int .i64 0) := (blk_cell BK106.out 1).trans rfl
    have hcz11_2 : wc.cell? ⟨gb106, 2, none⟩ = some (.int .i64 0) := (blk_cell BK106.out 2).trans rfl
    have hfz11_0 := blk_frozen BK106.out 0
    have hfz11_1 := blk_frozen BK106.out 1
    have hfz11_2 := blk_frozen BK106.out 2
    go_wp2
    refine bodyPost_ret (results_cell_row rfl _ _ gb106 54 #[.int .i64 0, .int .i64 0, .int .i64 0] (0, 0) _ rfl (by (with_reducible repeat (first | refine blk_drewN ?_ _ | refine blk_drew ?_ | refine blk_alloc ?_ _)); refine blk_put (cs := #[.int .i64 0, .int .i64 0, .int .i64 0]) ?_ 2 _ rfl; (with_reducible repeat (first | refine blk_drewN ?_ _ | refine blk_drew ?_ | refine blk_alloc ?_ _)); refine blk_put (cs := #[.int .i64 0, .int .i64 0, .int .i64 0]) ?_ 1 _ rfl; (with_reducible repeat (first | refine blk_drewN ?_ _ | refine blk_drew ?_ | refine blk_alloc ?_ _)); refine blk_put (cs := #[.int .i64 0, .int .i64 0, .int .i64 0]) ?_ 0 _ rfl; (with_reducible repeat (first | refine blk_drewN ?_ _ | refine blk_drew ?_ | refine blk_alloc ?_ _)); exact BK106.out) Tryd.underlying54 rfl (by kernel_rfl)) rfl ?_
    exact ⟨by first | rfl | (simp [errW_none, errW_some] <;> rfl) | (simp [*, errW_none, errW_some] <;> rfl), by repeat (first | (with_reducible first | exact HB.out | apply below_alloc | apply pw_below_drewN | apply below_drew1 | refine below_set ?_ GE106.out) | exact HB.out)⟩
   ·
    replace c10 := Bool.eq_false_iff.mpr c10
    subst c10
    have H1 : ((bits_TrailingZeros64.f t108).bind fun t110 => (if t110 = 0 then (if 0 ≤ (wrap64 (64 - t107)) then ((bits_LeadingZeros64.f kj4 (Go.bits .xor .u64 18446744073709551615 (shl .u64 t108 (wrap64 (64 - t107))))).bind fun t111 => (if t107 = 0 then (none) else (mask_tell.j1 kj4 t108 t107 t109 (Int.tmod (wrap64 (t107 - t111)) t107)))) else (none)) else (mask_tell.j1 kj4 t108 t107 t109 t110))) = some (r1, r2, r3) := by rw [if_neg (show ¬ (false = true) by decide)] at H; exact H
    clear H
    have H := H1
    clear H1
    replace H := Option.bind_eq_some_iff.mp H
    obtain ⟨t110, A120, H⟩ := H
    replace H : (if t110 = 0 then (if 0 ≤ (wrap64 (64 - t107)) then ((bits_LeadingZeros64.f kj4 (Go.bits .xor .u64 18446744073709551615 (shl .u64 t108 (wrap64 (64 - t107))))).bind fun t111 => (if t107 = 0 then (none) else (mask_tell.j1 kj4 t108 t107 t109 (Int.tmod (wrap64 (t107 - t111)) t107)))) else (none)) else (mask_tell.j1 kj4 t108 t107 t109 t110)) = some (r1, r2, r3) := H
    have A12 := Aside0.mk A120
    clear A120
    have HC13 := Aside0.mk H
    clear H
    go_upto_if 27 with (first | ((with_reducible refine gate_callee (f := 30) rfl ?_); refine goesL_ (some 25) rfl rfl Tryd.func30 (by kernel_rfl) rfl #[.int .u64 t108] rfl (by (try simp only [List.map_toArray, List.map_cons, List.map_nil]); first | done | rfl | (simp only [List.length_drop, List.length_take]; rfl)) ?_; (with_reducible refine (bits_TrailingZeros64.calls t108 t110 _ A12.out).mono ?_); rintro e w' ⟨rfl, ⟨nd, rfl⟩⟩; refine ⟨_, rfl, ?_⟩))
    (try simp only [Act.put, List.setIfInBounds_toArray, List.set_cons_zero, List.set_cons_succ])
    go_cut [5] (fun v5 wc => ∃ (kq : Nat) (x5_12 : Int), v5 = .int .i64 x5_12 ∧ Aside0 (mask_tell.j1 kq t108 t107 t109 x5_12 = some (r1, r2, r3)) ∧ Aside0 (kq ≤ kj4) ∧ Aside0 (wc.heap[gb106]? = some (.cells #[.int .i64 0, .int .i64 0, .int .i64 0] 54 (0, 0))) ∧ Aside0 (Below w.heap.size w wc))
    case first =>
     have H := HC13.out
     clear HC13
     by_cases c14 : t110 = 0
     ·
      rw [if_pos c14] at H
      have c14b0 : (t110 == 0) = true := beq_iff_eq.mpr c14
      have c14b1 : (t110 != 0) = false := bne_eq_false_iff_eq.mpr c14
      clear c14
      (first | rw [c14b0] | (simp only [i64_w, i32_w]; rw [c14b0]) | skip)
      obtain ⟨ji15, hji15⟩ : ∃ j_ : Int, (wrap64 (64 - t107)) = j_ := ⟨_, rfl⟩
      replace H : (if 0 ≤ (ji15) then ((bits_LeadingZeros64.f kj4 (Go.bits .xor .u64 18446744073709551615 (shl .u64 t108 (ji15)))).bind fun t111 => (if t107 = 0 then (none) else (mask_tell.j1 kj4 t108 t107 t109 (Int.tmod (wrap64 (t107 - t111)) t107)))) else (none)) = some (r1, r2, r3) := by first | (rw [hji15] at H; exact H) | (simp only [hji15] at H ⊢; exact H)
      have hji15w : (IntKind.i64.wrap (64 - t107)) = ji15 := (i64_w _).trans hji15
      by_cases c16 : 0 ≤ (ji15)
      ·
       rw [if_pos c16] at H
       have c16b0 := eq_true c16
       have c16b1 : decide (0 ≤ (ji15)) = true := decide_eq_true c16
       clear c16
       obtain ⟨ji17, hji17⟩ : ∃ j_ : Int, (shl .u64 t108 (ji15)) = j_ := ⟨_, rfl⟩
       replace H : ((bits_LeadingZeros64.f kj4 (Go.bits .xor .u64 18446744073709551615 (ji17))).bind fun t111 => (if t107 = 0 then (none) else (mask_tell.j1 kj4 t108 t107 t109 (Int.tmod (wrap64 (t107 - t111)) t107)))) = some (r1, r2, r3) := by first | (rw [hji17] at H; exact H) | (simp only [hji17] at H ⊢; exact H)
       have hji17_ : (IntKind.u64.wrap (t108 * 2 ^ min (ji15).toNat 64)) = ji17 := hji17
       have hji17z : (ji15) ≤ 64 → (IntKind.u64.wrap (t108 * 2 ^ (ji15).toNat)) = ji17 := shl_small hji17
       replace H := Option.bind_eq_some_iff.mp H
       obtain ⟨t111, A180, H⟩ := H
       replace H : (if t107 = 0 then (none) else (mask_tell.j1 kj4 t108 t107 t109 (Int.tmod (wrap64 (t107 - t111)) t107))) = some (r1, r2, r3) := H
       have A18 := Aside0.mk A180
       clear A180
       by_cases c19 : t107 = 0
       ·
        rw [if_pos c19] at H
        exact absurd H (by simp)
       ·
        rw [if_neg c19] at H
        have c19b0 : (t107 == 0) = false := beq_eq_false_iff_ne.mpr c19
        have c19b1 : (t107 != 0) = true := bne_iff_ne.mpr c19
        have H' := Aside0.mk H
        clear H
        go_wp2_with (first | ((with_reducible refine gate_callee (f := 31) rfl ?_); refine goesL_ (some 34) rfl rfl Tryd.func31 (by kernel_rfl) rfl #[.int .u64 (Go.bits .xor .u64 18446744073709551615 (ji17))] rfl (by (try simp only [List.map_toArray, List.map_cons, List.map_nil]); first | done | (simp only [hji17]; rfl) | rfl | (simp only [List.length_drop, List.length_take]; rfl)) ?_; (with_reducible refine (bits_LeadingZeros64.calls kj4 (Go.bits .xor .u64 18446744073709551615 (ji17)) t111 _ A18.out).mono ?_); rintro e w' ⟨rfl, ⟨nd, rfl⟩⟩; refine ⟨_, rfl, ?_⟩))
        go_meet
        case rel => exact ⟨_, (Int.tmod (wrap64 (t107 - t111)) t107), (by first | rfl | (simp; done) | (simp [*]; done)), H', ⟨by have := HJ4.out; first | omega | exact Nat.le_refl _⟩, ⟨by (with_reducible repeat (first | refine blk_drewN ?_ _ | refine blk_drew ?_ | refine blk_alloc ?_ _)); exact BK106.out⟩, ⟨by repeat (first | (with_reducible first | exact HB.out | apply below_alloc | apply pw_below_drewN | apply below_drew1 | refine below_set ?_ GE106.out) | exact HB.out)⟩⟩
      ·
       rw [if_neg c16] at H
       exact absurd H (by simp)
     ·
      rw [if_neg c14] at H
      have c14b0 : (t110 == 0) = false := beq_eq_false_iff_ne.mpr c14
      have c14b1 : (t110 != 0) = true := bne_iff_ne.mpr c14
      (first | rw [c14b0] | (simp only [i64_w, i32_w]; rw [c14b0]) | skip)
      have H' := Aside0.mk H
      clear H
      go_wp2
      go_meet
      case rel => exact ⟨_, (t110), (by first | rfl | (simp; done) | (simp [*]; done)), H', ⟨by have := HJ4.out; first | omega | exact Nat.le_refl _⟩, ⟨by (with_reducible repeat (first | refine blk_drewN ?_ _ | refine blk_drew ?_ | refine blk_alloc ?_ _)); exact BK106.out⟩, ⟨by repeat (first | (with_reducible first | exact HB.out | apply below_alloc | apply pw_below_drewN | apply below_drew1 | refine below_set ?_ GE106.out) | exact HB.out)⟩⟩
    case rest =>
     clear HC13
     try clear c1
     try clear c2
     try clear p2
     try clear c3
     try clear p6
     try clear c9
     try clear c9b0
     try clear c9b1
     try clear c10
     try clear c14
     try clear c14b0
     try clear c14b1
     try clear c16
     try clear c16b0
     try clear c16b1
     try clear c19
     try clear c19b0
     try clear c19b1
     try clear hcz11_0 hcz11_1 hcz11_2
     try clear hfz11_0
     try clear p2
     obtain ⟨kq, x5_12, rfl, HA, HJ12, BK106, HB⟩ := hcut
     cases kq with
     | zero => exact absurd HA.out (by simp [mask_tell.j1])
     | succ kj12 =>
      have H := HA.out
      clear HA
      simp only [mask_tell.j1] at H
      replace H := Option.bind_eq_some_iff.mp H
      obtain ⟨⟨t112, t113⟩, A200, H⟩ := H
      replace H : ((bits_Low.f 18446744073709551615 t109).bind fun t114 => (if t112 = t114 then (if t107 = 0 then (none) else ((mask_front.f t107).bind fun t115 => (if t107 = 64 then (some (1, Int.tmod (wrap64 (t107 - x5_12)) t107, wrap64 ((wrap64 (t109 - 1)) + t115))) else (some (0, Int.tmod (wrap64 (t107 - x5_12)) t107, wrap64 ((wrap64 (t109 - 1)) + t115)))))) else (some (0, 0, 0)))) = some (r1, r2, r3) := H
      have A20 := Aside0.mk A200
      clear A200
      replace H := Option.bind_eq_some_iff.mp H
      obtain ⟨t114, A210, H⟩ := H
      replace H : (if t112 = t114 then (if t107 = 0 then (none) else ((mask_front.f t107).bind fun t115 => (if t107 = 64 then (some (1, Int.tmod (wrap64 (t107 - x5_12)) t107, wrap64 ((wrap64 (t109 - 1)) + t115))) else (some (0, Int.tmod (wrap64 (t107 - x5_12)) t107, wrap64 ((wrap64 (t109 - 1)) + t115)))))) else (some (0, 0, 0))) = some (r1, r2, r3) := H
      have A21 := Aside0.mk A210
      clear A210
      by_cases c22 : t112 = t114
      ·
       rw [if_pos c22] at H
       have c22b0 : (t112 == t114) = true := beq_iff_eq.mpr c22
       have c22b1 : (t112 != t114) = false := bne_eq_false_iff_eq.mpr c22
       clear c22
       by_cases c23 : t107 = 0
       ·
        rw [if_pos c23] at H
        exact absurd H (by simp)
       ·
        rw [if_neg c23] at H
        have c23b0 : (t107 == 0) = false := beq_eq_false_iff_ne.mpr c23
        have c23b1 : (t107 != 0) = true := bne_iff_ne.mpr c23
        replace H := Option.bind_eq_some_iff.mp H
        obtain ⟨t115, A240, H⟩ := H
        replace H : (if t107 = 64 then (some (1, Int.tmod (wrap64 (t107 - x5_12)) t107, wrap64 ((wrap64 (t109 - 1)) + t115))) else (some (0, Int.tmod (wrap64 (t107 - x5_12)) t107, wrap64 ((wrap64 (t109 - 1)) + t115)))) = some (r1, r2, r3) := H
        have A24 := Aside0.mk A240
        clear A240
        by_cases c25 : t107 = 64
        ·
         rw [if_pos c25] at H
         have c25b0 : (t107 == 64) = true := beq_iff_eq.mpr c25
         have c25b1 : (t107 != 64) = false := bne_eq_false_iff_eq.mpr c25
         clear c25
         simp only [Option.some.injEq, Prod.mk.injEq] at H
         obtain ⟨rfl, rfl, rfl⟩ := H
         try go_wp2_with (first | ((with_reducible refine gate_callee (f := 32) rfl ?_); refine goesL_ (some 42) rfl rfl Tryd.func32 (by kernel_rfl) rfl #[.int .u64 t108, .int .i64 x5_12, .int .i64 t107] rfl (by (try simp only [List.map_toArray, List.map_cons, List.map_nil]); first | done | rfl | (simp only [List.length_drop, List.length_take]; rfl)) ?_; (with_reducible refine (bits_Rotate.calls kj12 t108 x5_12 t107 t112 t113 _ A20.out).mono ?_); rintro e w26 ⟨rfl, hb⟩; refine ⟨_, rfl, ?_⟩; have n0_ := Aside0.mk (blk_below (g := gb106) (o := .cells #[.int .i64 0, .int .i64 0, .int .i64 0] 54 (0, 0)) (by (with_reducible repeat (first | refine blk_drewN ?_ _ | refine blk_drew ?_ | refine blk_alloc ?_ _)); exact BK106.out) hb); have n1_ := Aside0.mk (below_step (by repeat (first | (with_reducible first | exact HB.out | apply below_alloc | apply pw_below_drewN | apply below_drew1 | refine below_set ?_ GE106.out) | exact HB.out)) hb); clear BK106; clear HB; have BK106 := n0_; have HB := n1_; clear n0_ n1_; (try clear hb); (try clear hb2); (try clear hk); (try clear hi)) | ((with_reducible refine gate_callee (f := 28) rfl ?_); refine goesL_ (some 47) rfl rfl Tryd.func28 (by kernel_rfl) rfl #[.int .u64 18446744073709551615, .int .i64 t109] rfl (by (try simp only [List.map_toArray, List.map_cons, List.map_nil]); first | done | rfl | (simp only [List.length_drop, List.length_take]; rfl)) ?_; (with_reducible refine (bits_Low.calls 18446744073709551615 t109 t114 _ A21.out).mono ?_); rintro e w27 ⟨rfl, hb⟩; refine ⟨_, rfl, ?_⟩; have n0_ := Aside0.mk (blk_below (g := gb106) (o := .cells #[.int .i64 0, .int .i64 0, .int .i64 0] 54 (0, 0)) (by (with_reducible repeat (first | refine blk_drewN ?_ _ | refine blk_drew ?_ | refine blk_alloc ?_ _)); exact BK106.out) hb); have n1_ := Aside0.mk (below_step (by repeat (first | (with_reducible first | exact HB.out | apply below_alloc | apply pw_below_drewN | apply below_drew1 | refine below_set ?_ GE106.out) | exact HB.out)) hb); clear BK106; clear HB; have BK106 := n0_; have HB := n1_; clear n0_ n1_; (try clear hb); (try clear hb2); (try clear hk); (try clear hi)))
         have n0_ := Aside0.mk (blk_drew BK106.out)
         have n1_ := Aside0.mk (below_drew1 HB.out)
         clear BK106
         clear HB
         have BK106 := n0_
         have HB := n1_
         clear n0_ n1_
         refine start_ (n := 13) (S := fun w' => True) (ds := []) bb0_0 (by kernel_rfl) rfl rfl trivial (fun hHeld => ?_); refine with_tabW mask_tell.tab12 mask_tell.bits12 (fun HT_ HW_ => ?_)
         generalize w27.drew = w28 at BK106 HB hHeld ⊢
         refine pure_ (i := 0) (N := some 50) (v := ?_) (a' := ?_) bb0_1 rfl rfl (any_of HT_.out (by kernel_rfl)) (fun _ _ _ h => h) (Or.inl ⟨by rfl, ?_⟩) ?_ ?_
         rotate_left
         · intro w'; go_simp; with_reducible rfl
         rotate_left
         · simp only [qa_, qb_, qc_, qd_, i64_w, i32_w]; rfl
         refine pure_ (i := 1) (N := some 51) (v := ?_) (a' := ?_) bb0_2 rfl rfl (any_of HT_.out (by kernel_rfl)) (fun _ _ _ h => h) (Or.inl ⟨by rfl, ?_⟩) ?_ ?_
         rotate_left
         · intro w'; go_simp; with_reducible rfl
         rotate_left
         · simp only [qa_, qb_, qc_, qd_, i64_w, i32_w]; rfl
         refine pure_ (i := 2) (N := some 52) (v := ?_) (a' := ?_) bb0_3 rfl rfl (any_of HT_.out (by kernel_rfl)) (fun _ _ _ h => h) (Or.inl ⟨by rfl, ?_⟩) ?_ ?_
         rotate_left
         · intro w'; go_simp; with_reducible rfl
         rotate_left
         · simp only [qa_, qb_, qc_, qd_, i64_w, i32_w]; rfl
         refine pure_ (i := 3) (N := some 53) (v := ?_) (a' := ?_) bb0_4 rfl rfl (any_of HT_.out (by kernel_rfl)) (fun _ _ _ h => h) (Or.inl ⟨by rfl, ?_⟩) ?_ ?_
         rotate_left
         · intro w'; go_simp; with_reducible rfl
         rotate_left
         · simp only [qa_, qb_, qc_, qd_, i64_w, i32_w]; rfl
         refine pure_ (i := 4) (N := some 54) (v := ?_) (a' := ?_) bb0_5 rfl rfl (any_of HT_.out (by kernel_rfl)) (fun _ _ _ h => h) (Or.inl ⟨by rfl, ?_⟩) ?_ ?_
         rotate_left
         · intro w'; go_simp; with_reducible rfl
         rotate_left
         · simp only [qa_, qb_, qc_, qd_, i64_w, i32_w]; rfl
         refine pure_ (i := 5) (N := some 55) (v := ?_) (a' := ?_) bb0_6 rfl rfl (any_of HT_.out (by kernel_rfl)) (fun _ _ _ h => h) (Or.inl ⟨by rfl, ?_⟩) ?_ ?_
         rotate_left
         · intro w'; go_simp; with_reducible rfl
         rotate_left
         · simp only [qa_, qb_, qc_, qd_, i64_w, i32_w]; rfl
         refine pure_ (i := 6) (N := some 56) (v := ?_) (a' := ?_) bb0_7 rfl rfl (any_of HT_.out (by kernel_rfl)) (fun _ _ _ h => h) (Or.inl ⟨by rfl, ?_⟩) ?_ ?_
         rotate_left
         · intro w'; go_simp; with_reducible rfl
         rotate_left
         · simp only [qa_, qb_, qc_, qd_, i64_w, i32_w]; rfl
         refine pure_ (i := 7) (N := some 57) (v := ?_) (a' := ?_) bb0_8 rfl rfl (any_of HT_.out (by kernel_rfl)) (fun _ _ _ h => h) (Or.inl ⟨by rfl, ?_⟩) ?_ ?_
         rotate_left
         · intro w'; go_simp; with_reducible rfl
         rotate_left
         · simp only [qa_, qb_, qc_, qd_, i64_w, i32_w]; rfl
         refine join_ (σ := Nat) 1 bb0_9 (fun s_ => [(58, .int .i64 t115), (8, .pointer (some ⟨s_, 0, none⟩)), (59, .int .i64 (wrap64 ((wrap64 (t109 - 1)) + t115))), (60, .agg #[.int .i64 0, .int .i64 (Int.tmod (wrap64 (t107 - x5_12)) t107), .int .i64 (wrap64 ((wrap64 (t109 - 1)) + t115))])]) (fun s_ w' => (w'.heap[gb106]? = some (.cells #[.int .i64 0, .int .i64 0, .int .i64 0] 54 (0, 0))) ∧ (w'.heap[s_]? = some (.cells #[.int .i64 0, .int .i64 0, .int .i64 0] 54 (0, 0))) ∧ (w.heap.size ≤ s_) ∧ (w.heap.size ≤ s_) ∧ (gb106 ≠ s_) ∧ (s_ ≠ gb106) ∧ (Below w.heap.size w w')) ?_ ?_
         rotate_left
         ·
          intro hCont
          refine two_ (i := 8) (j := 11) (Ni := some 58) (Nj := some 8) bb0_10 bb0_11 rfl rfl rfl rfl (two_of HT_.out (by kernel_rfl)) (by decide) (by decide) (fun K hK => ?_) (fun K hK => ?_)
          ·
           skip
           refine goes_ Tryd.func33 (by kernel_rfl) rfl #[.int .i64 t107] (by rfl) rfl rfl (by (try simp only [List.map_toArray, List.map_cons, List.map_nil]); first | done | rfl | (simp only [List.length_drop, List.length_take]; rfl)) ?_
           with_reducible refine (mask_front.calls t107 t115 _ A24.out).mono ?_
           rintro e w' ⟨rfl, ⟨nd, rfl⟩⟩
           refine ⟨_, rfl, ?_⟩
           refine hK.out _ _ trivial (fun hHeld => ?_)
           clear hK K
           refine norm_ (a' := ?_) ?_ ?_
           rotate_left
           ·
            show Act.put _ (some 58) _ = _
            simp only [qa_, qb_, qc_, qd_, i64_w, i32_w]
            rfl
           refine pure_ (i := 9) (N := some 59) (v := ?_) (a' := ?_) bb0_12 rfl rfl (any_of HT_.out (by kernel_rfl)) (fun _ _ _ h => h) (Or.inl ⟨by rfl, ?_⟩) ?_ ?_
           rotate_left
           · intro w'; go_simp; with_reducible rfl
           rotate_left
           · simp only [qa_, qb_, qc_, qd_, i64_w, i32_w]; rfl
           refine pure_ (i := 10) (N := some 60) (v := ?_) (a' := ?_) bb0_13 rfl rfl (any_of HT_.out (by kernel_rfl)) (fun _ _ _ h => h) (Or.inl ⟨by rfl, ?_⟩) ?_ ?_
           rotate_left
           · intro w'; go_simp; with_reducible rfl
           rotate_left
           · simp only [qa_, qb_, qc_, qd_, i64_w, i32_w]; rfl
           refine one_ (i := 11) (N := some 8) bb0_9 rfl rfl (one_of HT_.out (by kernel_rfl)) (by decide) (fun K hK => ?_)
           refine box_step ?hg (N := 8) ?hd (cs := #[.int .i64 0, .int .i64 0, .int .i64 0]) (t := 54) ?hr ?_; (case hd => rfl); (case hg => rfl); (case hr => first | (go_simp; done) | (go_simp; rfl))
           intro gb116 hg w29 hbox hb
           have n0_ := Aside0.mk (blk_below (g := gb106) (o := .cells #[.int .i64 0, .int .i64 0, .int .i64 0] 54 (0, 0)) (by (with_reducible repeat (first | refine blk_drewN ?_ _ | refine blk_drew ?_ | refine blk_alloc ?_ _)); exact BK106.out) hb)
           have n1_ := Aside0.mk (below_step (by repeat (first | (with_reducible first | exact HB.out | apply below_alloc | apply pw_below_drewN | apply below_drew1 | refine below_set ?_ GE106.out) | exact HB.out)) hb)
           have n2_ := Aside0.mk (hbox)
           have n3_ := Aside0.mk ((by rw [hg]; exact (below_size (by repeat (first | (with_reducible first | exact HB.out | apply below_alloc | apply pw_below_drewN | apply below_drew1 | refine below_set ?_ GE106.out) | exact HB.out))) : w.heap.size ≤ gb116))
           have n4_ := Aside0.mk ((by rw [hg]; exact (below_size (by repeat (first | (with_reducible first | exact HB.out | apply below_alloc | apply pw_below_drewN | apply below_drew1 | refine below_set ?_ GE106.out) | exact HB.out))) : w.heap.size ≤ gb116))
           have n5_ := Aside0.mk ((by rw [hg]; exact Nat.ne_of_lt (blk_lt (g := gb106) (o := .cells #[.int .i64 0, .int .i64 0, .int .i64 0] 54 (0, 0)) (by (with_reducible repeat (first | refine blk_drewN ?_ _ | refine blk_drew ?_ | refine blk_alloc ?_ _)); exact BK106.out)) : gb106 ≠ gb116))
           have n6_ := Aside0.mk ((by rw [hg]; exact Nat.ne_of_gt (blk_lt (g := gb106) (o := .cells #[.int .i64 0, .int .i64 0, .int .i64 0] 54 (0, 0)) (by (with_reducible repeat (first | refine blk_drewN ?_ _ | refine blk_drew ?_ | refine blk_alloc ?_ _)); exact BK106.out)) : gb116 ≠ gb106))
           clear BK106
           clear HB
           have BK106 := n0_
           have HB := n1_
           have BK116 := n2_
           have GW116 := n3_
           have GE116 := n4_
           have NB106_116 := n5_
           have NB116_106 := n6_
           clear n0_ n1_ n2_ n3_ n4_ n5_ n6_
           clear hb hbox hg
           refine hK.out _ _ trivial (fun hHeld => ?_)
           clear hK K
           refine norm_ (a' := ?_) ?_ ?_
           rotate_left
           ·
            show Act.put _ (some 8) _ = _
            simp only [qa_, qb_, qc_, qd_, i64_w, i32_w]
            rfl
           exact norm_ (by simp only [putAll, Act.put, List.setIfInBounds_toArray, List.set_cons_zero, List.set_cons_succ]) (hCont (gb116) _ ⟨(by (with_reducible repeat (first | refine blk_drewN ?_ _ | refine blk_drew ?_ | refine blk_alloc ?_ _)); exact BK106.out), (by (with_reducible repeat (first | refine blk_drewN ?_ _ | refine blk_drew ?_ | refine blk_alloc ?_ _)); exact BK116.out), GW116.out, GE116.out, NB106_116.out, NB116_106.out, (by repeat (first | (with_reducible first | exact HB.out | apply below_alloc | apply pw_below_drewN | apply below_drew1 | refine below_set ?_ GE106.out | refine below_set ?_ GE116.out) | exact HB.out))⟩)
          ·
           skip
           refine box_step ?hg (N := 8) ?hd (cs := #[.int .i64 0, .int .i64 0, .int .i64 0]) (t := 54) ?hr ?_; (case hd => rfl); (case hg => rfl); (case hr => first | (go_simp; done) | (go_simp; rfl))
           intro gb116 hg w29 hbox hb
           have n0_ := Aside0.mk (blk_below (g := gb106) (o := .cells #[.int .i64 0, .int .i64 0, .int .i64 0] 54 (0, 0)) (by (with_reducible repeat (first | refine blk_drewN ?_ _ | refine blk_drew ?_ | refine blk_alloc ?_ _)); exact BK106.out) hb)
           have n1_ := Aside0.mk (below_step (by repeat (first | (with_reducible first | exact HB.out | apply below_alloc | apply pw_below_drewN | apply below_drew1 | refine below_set ?_ GE106.out) | exact HB.out)) hb)
           have n2_ := Aside0.mk (hbox)
           have n3_ := Aside0.mk ((by rw [hg]; exact (below_size (by repeat (first | (with_reducible first | exact HB.out | apply below_alloc | apply pw_below_drewN | apply below_drew1 | refine below_set ?_ GE106.out) | exact HB.out))) : w.heap.size ≤ gb116))
           have n4_ := Aside0.mk ((by rw [hg]; exact (below_size (by repeat (first | (with_reducible first | exact HB.out | apply below_alloc | apply pw_below_drewN | apply below_drew1 | refine below_set ?_ GE106.out) | exact HB.out))) : w.heap.size ≤ gb116))
           have n5_ := Aside0.mk ((by rw [hg]; exact Nat.ne_of_lt (blk_lt (g := gb106) (o := .cells #[.int .i64 0, .int .i64 0, .int .i64 0] 54 (0, 0)) (by (with_reducible repeat (first | refine blk_drewN ?_ _ | refine blk_drew ?_ | refine blk_alloc ?_ _)); exact BK106.out)) : gb106 ≠ gb116))
           have n6_ := Aside0.mk ((by rw [hg]; exact Nat.ne_of_gt (blk_lt (g := gb106) (o := .cells #[.int .i64 0, .int .i64 0, .int .i64 0] 54 (0, 0)) (by (with_reducible repeat (first | refine blk_drewN ?_ _ | refine blk_drew ?_ | refine blk_alloc ?_ _)); exact BK106.out)) : gb116 ≠ gb106))
           clear BK106
           clear HB
           have BK106 := n0_
           have HB := n1_
           have BK116 := n2_
           have GW116 := n3_
           have GE116 := n4_
           have NB106_116 := n5_
           have NB116_106 := n6_
           clear n0_ n1_ n2_ n3_ n4_ n5_ n6_
           clear hb hbox hg
           refine hK.out _ _ trivial (fun hHeld => ?_)
           clear hK K
           refine norm_ (a' := ?_) ?_ ?_
           rotate_left
           ·
            show Act.put _ (some 8) _ = _
            simp only [qa_, qb_, qc_, qd_, i64_w, i32_w]
            rfl
           refine one_ (i := 8) (N := some 58) bb0_14 rfl rfl (one_of HT_.out (by kernel_rfl)) (by decide) (fun K hK => ?_)
           refine goes_ Tryd.func33 (by kernel_rfl) rfl #[.int .i64 t107] (by rfl) rfl rfl (by (try simp only [List.map_toArray, List.map_cons, List.map_nil]); first | done | rfl | (simp only [List.length_drop, List.length_take]; rfl)) ?_
           with_reducible refine (mask_front.calls t107 t115 _ A24.out).mono ?_
           rintro e w' ⟨rfl, ⟨nd, rfl⟩⟩
           refine ⟨_, rfl, ?_⟩
           refine hK.out _ _ trivial (fun hHeld => ?_)
           clear hK K
           refine norm_ (a' := ?_) ?_ ?_
           rotate_left
           ·
            show Act.put _ (some 58) _ = _
            simp only [qa_, qb_, qc_, qd_, i64_w, i32_w]
            rfl
           refine pure_ (i := 9) (N := some 59) (v := ?_) (a' := ?_) bb0_15 rfl rfl (any_of HT_.out (by kernel_rfl)) (fun _ _ _ h => h) (Or.inl ⟨by rfl, ?_⟩) ?_ ?_
           rotate_left
           · intro w'; go_simp; with_reducible rfl
           rotate_left
           · simp only [qa_, qb_, qc_, qd_, i64_w, i32_w]; rfl
           refine pure_ (i := 10) (N := some 60) (v := ?_) (a' := ?_) bb0_9 rfl rfl (any_of HT_.out (by kernel_rfl)) (fun _ _ _ h => h) (Or.inl ⟨by rfl, ?_⟩) ?_ ?_
           rotate_left
           · intro w'; go_simp; with_reducible rfl
           rotate_left
           · simp only [qa_, qb_, qc_, qd_, i64_w, i32_w]; rfl
           exact norm_ (by simp only [putAll, Act.put, List.setIfInBounds_toArray, List.set_cons_zero, List.set_cons_succ]) (hCont (gb116) _ ⟨(by (with_reducible repeat (first | refine blk_drewN ?_ _ | refine blk_drew ?_ | refine blk_alloc ?_ _)); exact BK106.out), (by (with_reducible repeat (first | refine blk_drewN ?_ _ | refine blk_drew ?_ | refine blk_alloc ?_ _)); exact BK116.out), GW116.out, GE116.out, NB106_116.out, NB116_106.out, (by repeat (first | (with_reducible first | exact HB.out | apply below_alloc | apply pw_below_drewN | apply below_drew1 | refine below_set ?_ GE106.out | refine below_set ?_ GE116.out) | exact HB.out))⟩)
         rintro gb116 w30 ⟨h0_, h1_, h2_, h3_, h4_, h5_, h6_⟩
         have n0_ : Aside0 (w30.heap[gb106]? = some (.cells #[.int .i64 0, .int .i64 0, .int .i64 0] 54 (0, 0))) := ⟨h0_⟩
         have n1_ : Aside0 (w30.heap[gb116]? = some (.cells #[.int .i64 0, .int .i64 0, .int .i64 0] 54 (0, 0))) := ⟨h1_⟩
         have n2_ : Aside0 (w.heap.size ≤ gb116) := ⟨h2_⟩
         have n3_ : Aside0 (w.heap.size ≤ gb116) := ⟨h3_⟩
         have n4_ : Aside0 (gb106 ≠ gb116) := ⟨h4_⟩
         have n5_ : Aside0 (gb116 ≠ gb106) := ⟨h5_⟩
         have n6_ : Aside0 (Below w.heap.size w w30) := ⟨h6_⟩
         clear BK106
         clear HB
         clear h0_ h1_ h2_ h3_ h4_ h5_ h6_
         have BK106 := n0_
         have BK116 := n1_
         have GW116 := n2_
         have GE116 := n3_
         have NB106_116 := n4_
         have NB116_106 := n5_
         have HB := n6_
         clear n0_ n1_ n2_ n3_ n4_ n5_ n6_
         have hHeld := trivial
         refine norm_ (a' := ?_) ?_ ?_
         rotate_left
         ·
          simp only [putAll, Act.put, List.setIfInBounds_toArray, List.set_cons_zero, List.set_cons_succ]
          rfl
         refine one_ (i := 12) (N := none) bb0_16 rfl rfl (one_of HT_.out (by kernel_rfl)) (by decide) (fun K hK => ?_)
         have hs31 : w30.cell? ⟨gb116, 0, none⟩ = some (.int .i64 0) := (blk_cell BK116.out 0).trans rfl
         have hfs31 := blk_frozen BK116.out 0
         have hns31_0 := NB106_116.out
         have hms31_0 := NB116_106.out
         have hs32 : w30.cell? ⟨gb116, 1, none⟩ = some (.int .i64 0) := (blk_cell BK116.out 1).trans rfl
         have hfs32 := blk_frozen BK116.out 1
         have hns32_0 := NB106_116.out
         have hms32_0 := NB116_106.out
         have hs33 : w30.cell? ⟨gb116, 2, none⟩ = some (.int .i64 0) := (blk_cell BK116.out 2).trans rfl
         have hfs33 := blk_frozen BK116.out 2
         have hns33_0 := NB106_116.out
         have hms33_0 := NB116_106.out
         refine skip_ (w1 := ?_) (by rfl) rfl ?_ ?_
         rotate_left
         ·
          go_simp
          rfl
         refine hK.out _ _ trivial (fun hHeld => ?_)
         clear hK K
         refine done_ (done_of HT_.out (by kernel_rfl)) ?_
         have hnb34 := NB116_106.out
         have hnc34 := NB106_116.out
         have hcz35_0 : w30.cell? ⟨gb116, 0, none⟩ = some (.int .i64 0) := (blk_cell BK116.out 0).trans rfl
         have hcz35_1 : w30.cell? ⟨gb116, 1, none⟩ = some (.int .i64 0) := (blk_cell BK116.out 1).trans rfl
         have hcz35_2 : w30.cell? ⟨gb116, 2, none⟩ = some (.int .i64 0) := (blk_cell BK116.out 2).trans rfl
         have hfz35_0 := blk_frozen BK116.out 0
         have hfz35_1 := blk_frozen BK116.out 1
         have hfz35_2 := blk_frozen BK116.out 2
         have hcz36_0 : w30.cell? ⟨gb106, 0, none⟩ = some (.int .i64 0) := (blk_cell BK106.out 0).trans rfl
         have hcz36_1 : w30.cell? ⟨gb106, 1, none⟩ = some (.int .i64 0) := (blk_cell BK106.out 1).trans rfl
         have hcz36_2 : w30.cell? ⟨gb106, 2, none⟩ = some (.int .i64 0) := (blk_cell BK106.out 2).trans rfl
         have hfz36_0 := blk_frozen BK106.out 0
         have hfz36_1 := blk_frozen BK106.out 1
         have hfz36_2 := blk_frozen BK106.out 2
         try go_wp2
         refine bodyPost_ret (results_cell_row rfl _ _ gb106 54 #[.int .i64 1, .int .i64 (Int.tmod (wrap64 (t107 - x5_12)) t107), .int .i64 (wrap64 ((wrap64 (t109 - 1)) + t115))] (0, 0) _ rfl (by (with_reducible repeat (first | refine blk_drewN ?_ _ | refine blk_drew ?_ | refine blk_alloc ?_ _)); refine blk_put (cs := #[.int .i64 1, .int .i64 (Int.tmod (wrap64 (t107 - x5_12)) t107), .int .i64 0]) ?_ 2 _ rfl; (with_reducible repeat (first | refine blk_drewN ?_ _ | refine blk_drew ?_ | refine blk_alloc ?_ _)); refine blk_put (cs := #[.int .i64 1, .int .i64 0, .int .i64 0]) ?_ 1 _ rfl; (with_reducible repeat (first | refine blk_drewN ?_ _ | refine blk_drew ?_ | refine blk_alloc ?_ _)); refine blk_put (cs := #[.int .i64 0, .int .i64 0, .int .i64 0]) ?_ 0 _ rfl; (with_reducible repeat (first | refine blk_drewN ?_ _ | refine blk_drew ?_ | refine blk_alloc ?_ _)); refine blk_far ?_ NB106_116.out _; (with_reducible repeat (first | refine blk_drewN ?_ _ | refine blk_drew ?_ | refine blk_alloc ?_ _)); refine blk_far ?_ NB106_116.out _; (with_reducible repeat (first | refine blk_drewN ?_ _ | refine blk_drew ?_ | refine blk_alloc ?_ _)); refine blk_far ?_ NB106_116.out _; (with_reducible repeat (first | refine blk_drewN ?_ _ | refine blk_drew ?_ | refine blk_alloc ?_ _)); refine blk_far ?_ NB106_116.out _; (with_reducible repeat (first | refine blk_drewN ?_ _ | refine blk_drew ?_ | refine blk_alloc ?_ _)); exact BK106.out) Tryd.underlying54 rfl (by kernel_rfl)) rfl ?_
         exact ⟨by first | rfl | (simp [errW_none, errW_some] <;> rfl) | (simp [*, errW_none, errW_some] <;> rfl), by repeat (first | (with_reducible first | exact HB.out | apply below_alloc | apply pw_below_drewN | apply below_drew1 | refine below_set ?_ GE106.out | refine below_set ?_ GE116.out) | exact HB.out)⟩
        ·
         rw [if_neg c25] at H
         have c25b0 : (t107 == 64) = false := beq_eq_false_iff_ne.mpr c25
         have c25b1 : (t107 != 64) = true := bne_iff_ne.mpr c25
         simp only [Option.some.injEq, Prod.mk.injEq] at H
         obtain ⟨rfl, rfl, rfl⟩ := H
         try go_wp2_with (first | ((with_reducible refine gate_callee (f := 32) rfl ?_); refine goesL_ (some 42) rfl rfl Tryd.func32 (by kernel_rfl) rfl #[.int .u64 t108, .int .i64 x5_12, .int .i64 t107] rfl (by (try simp only [List.map_toArray, List.map_cons, List.map_nil]); first | done | rfl | (simp only [List.length_drop, List.length_take]; rfl)) ?_; (with_reducible refine (bits_Rotate.calls kj12 t108 x5_12 t107 t112 t113 _ A20.out).mono ?_); rintro e w37 ⟨rfl, hb⟩; refine ⟨_, rfl, ?_⟩; have n0_ := Aside0.mk (blk_below (g := gb106) (o := .cells #[.int .i64 0, .int .i64 0, .int .i64 0] 54 (0, 0)) (by (with_reducible repeat (first | refine blk_drewN ?_ _ | refine blk_drew ?_ | refine blk_alloc ?_ _)); exact BK106.out) hb); have n1_ := Aside0.mk (below_step (by repeat (first | (with_reducible first | exact HB.out | apply below_alloc | apply pw_below_drewN | apply below_drew1 | refine below_set ?_ GE106.out) | exact HB.out)) hb); clear BK106; clear HB; have BK106 := n0_; have HB := n1_; clear n0_ n1_; (try clear hb); (try clear hb2); (try clear hk); (try clear hi)) | ((with_reducible refine gate_callee (f := 28) rfl ?_); refine goesL_ (some 47) rfl rfl Tryd.func28 (by kernel_rfl) rfl #[.int .u64 18446744073709551615, .int .i64 t109] rfl (by (try simp only [List.map_toArray, List.map_cons, List.map_nil]); first | done | rfl | (simp only [List.length_drop, List.length_take]; rfl)) ?_; (with_reducible refine (bits_Low.calls 18446744073709551615 t109 t114 _ A21.out).mono ?_); rintro e w38 ⟨rfl, hb⟩; refine ⟨_, rfl, ?_⟩; have n0_ := Aside0.mk (blk_below (g := gb106) (o := .cells #[.int .i64 0, .int .i64 0, .int .i64 0] 54 (0, 0)) (by (with_reducible repeat (first | refine blk_drewN ?_ _ | refine blk_drew ?_ | refine blk_alloc ?_ _)); exact BK106.out) hb); have n1_ := Aside0.mk (below_step (by repeat (first | (with_reducible first | exact HB.out | apply below_alloc | apply pw_below_drewN | apply below_drew1 | refine below_set ?_ GE106.out) | exact HB.out)) hb); clear BK106; clear HB; have BK106 := n0_; have HB := n1_; clear n0_ n1_; (try clear hb); (try clear hb2); (try clear hk); (try clear hi)))
         have n0_ := Aside0.mk (blk_drew BK106.out)
         have n1_ := Aside0.mk (below_drew1 HB.out)
         clear BK106
         clear HB
         have BK106 := n0_
         have HB := n1_
         clear n0_ n1_
         refine start_ (n := 13) (S := fun w' => True) (ds := []) bb0_0 (by kernel_rfl) rfl rfl trivial (fun hHeld => ?_); refine with_tabW mask_tell.tab12 mask_tell.bits12 (fun HT_ HW_ => ?_)
         generalize w38.drew = w39 at BK106 HB hHeld ⊢
         refine pure_ (i := 0) (N := some 50) (v := ?_) (a' := ?_) bb0_1 rfl rfl (any_of HT_.out (by kernel_rfl)) (fun _ _ _ h => h) (Or.inl ⟨by rfl, ?_⟩) ?_ ?_
         rotate_left
         · intro w'; go_simp; with_reducible rfl
         rotate_left
         · simp only [qa_, qb_, qc_, qd_, i64_w, i32_w]; rfl
         refine pure_ (i := 1) (N := some 51) (v := ?_) (a' := ?_) bb0_2 rfl rfl (any_of HT_.out (by kernel_rfl)) (fun _ _ _ h => h) (Or.inl ⟨by rfl, ?_⟩) ?_ ?_
         rotate_left
         · intro w'; go_simp; with_reducible rfl
         rotate_left
         · simp only [qa_, qb_, qc_, qd_, i64_w, i32_w]; rfl
         refine pure_ (i := 2) (N := some 52) (v := ?_) (a' := ?_) bb0_3 rfl rfl (any_of HT_.out (by kernel_rfl)) (fun _ _ _ h => h) (Or.inl ⟨by rfl, ?_⟩) ?_ ?_
         rotate_left
         · intro w'; go_simp; with_reducible rfl
         rotate_left
         · simp only [qa_, qb_, qc_, qd_, i64_w, i32_w]; rfl
         refine pure_ (i := 3) (N := some 53) (v := ?_) (a' := ?_) bb0_4 rfl rfl (any_of HT_.out (by kernel_rfl)) (fun _ _ _ h => h) (Or.inl ⟨by rfl, ?_⟩) ?_ ?_
         rotate_left
         · intro w'; go_simp; with_reducible rfl
         rotate_left
         · simp only [qa_, qb_, qc_, qd_, i64_w, i32_w]; rfl
         refine pure_ (i := 4) (N := some 54) (v := ?_) (a' := ?_) bb0_5 rfl rfl (any_of HT_.out (by kernel_rfl)) (fun _ _ _ h => h) (Or.inl ⟨by rfl, ?_⟩) ?_ ?_
         rotate_left
         · intro w'; go_simp; with_reducible rfl
         rotate_left
         · simp only [qa_, qb_, qc_, qd_, i64_w, i32_w]; rfl
         refine pure_ (i := 5) (N := some 55) (v := ?_) (a' := ?_) bb0_6 rfl rfl (any_of HT_.out (by kernel_rfl)) (fun _ _ _ h => h) (Or.inl ⟨by rfl, ?_⟩) ?_ ?_
         rotate_left
         · intro w'; go_simp; with_reducible rfl
         rotate_left
         · simp only [qa_, qb_, qc_, qd_, i64_w, i32_w]; rfl
         refine pure_ (i := 6) (N := some 56) (v := ?_) (a' := ?_) bb0_7 rfl rfl (any_of HT_.out (by kernel_rfl)) (fun _ _ _ h => h) (Or.inl ⟨by rfl, ?_⟩) ?_ ?_
         rotate_left
         · intro w'; go_simp; with_reducible rfl
         rotate_left
         · simp only [qa_, qb_, qc_, qd_, i64_w, i32_w]; rfl
         refine pure_ (i := 7) (N := some 57) (v := ?_) (a' := ?_) bb0_8 rfl rfl (any_of HT_.out (by kernel_rfl)) (fun _ _ _ h => h) (Or.inl ⟨by rfl, ?_⟩) ?_ ?_
         rotate_left
         · intro w'; go_simp; with_reducible rfl
         rotate_left
         · simp only [qa_, qb_, qc_, qd_, i64_w, i32_w]; rfl
         refine join_ (σ := Nat) 1 bb0_9 (fun s_ => [(58, .int .i64 t115), (8, .pointer (some ⟨s_, 0, none⟩)), (59, .int .i64 (wrap64 ((wrap64 (t109 - 1)) + t115))), (60, .agg #[.int .i64 0, .int .i64 (Int.tmod (wrap64 (t107 - x5_12)) t107), .int .i64 (wrap64 ((wrap64 (t109 - 1)) + t115))])]) (fun s_ w' => (w'.heap[gb106]? = some (.cells #[.int .i64 0, .int .i64 0, .int .i64 0] 54 (0, 0))) ∧ (w'.heap[s_]? = some (.cells #[.int .i64 0, .int .i64 0, .int .i64 0] 54 (0, 0))) ∧ (w.heap.size ≤ s_) ∧ (w.heap.size ≤ s_) ∧ (gb106 ≠ s_) ∧ (s_ ≠ gb106) ∧ (Below w.heap.size w w')) ?_ ?_
         rotate_left
         ·
          intro hCont
          refine two_ (i := 8) (j := 11) (Ni := some 58) (Nj := some 8) bb0_10 bb0_11 rfl rfl rfl rfl (two_of HT_.out (by kernel_rfl)) (by decide) (by decide) (fun K hK => ?_) (fun K hK => ?_)
          ·
           skip
           refine goes_ Tryd.func33 (by kernel_rfl) rfl #[.int .i64 t107] (by rfl) rfl rfl (by (try simp only [List.map_toArray, List.map_cons, List.map_nil]); first | done | rfl | (simp only [List.length_drop, List.length_take]; rfl)) ?_
           with_reducible refine (mask_front.calls t107 t115 _ A24.out).mono ?_
           rintro e w' ⟨rfl, ⟨nd, rfl⟩⟩
           refine ⟨_, rfl, ?_⟩
           refine hK.out _ _ trivial (fun hHeld => ?_)
           clear hK K
           refine norm_ (a' := ?_) ?_ ?_
           rotate_left
           ·
            show Act.put _ (some 58) _ = _
            simp only [qa_, qb_, qc_, qd_, i64_w, i32_w]
            rfl
           refine pure_ (i := 9) (N := some 59) (v := ?_) (a' := ?_) bb0_12 rfl rfl (any_of HT_.out (by kernel_rfl)) (fun _ _ _ h => h) (Or.inl ⟨by rfl, ?_⟩) ?_ ?_
           rotate_left
           · intro w'; go_simp; with_reducible rfl
           rotate_left
           · simp only [qa_, qb_, qc_, qd_, i64_w, i32_w]; rfl
           refine pure_ (i := 10) (N := some 60) (v := ?_) (a' := ?_) bb0_13 rfl rfl (any_of HT_.out (by kernel_rfl)) (fun _ _ _ h => h) (Or.inl ⟨by rfl, ?_⟩) ?_ ?_
           rotate_left
           · intro w'; go_simp; with_reducible rfl
           rotate_left
           · simp only [qa_, qb_, qc_, qd_, i64_w, i32_w]; rfl
           refine one_ (i := 11) (N := some 8) bb0_9 rfl rfl (one_of HT_.out (by kernel_rfl)) (by decide) (fun K hK => ?_)
           refine box_step ?hg (N := 8) ?hd (cs := #[.int .i64 0, .int .i64 0, .int .i64 0]) (t := 54) ?hr ?_; (case hd => rfl); (case hg => rfl); (case hr => first | (go_simp; done) | (go_simp; rfl))
           intro gb116 hg w40 hbox hb
           have n0_ := Aside0.mk (blk_below (g := gb106) (o := .cells #[.int .i64 0, .int .i64 0, .int .i64 0] 54 (0, 0)) (by (with_reducible repeat (first | refine blk_drewN ?_ _ | refine blk_drew ?_ | refine blk_alloc ?_ _)); exact BK106.out) hb)
           have n1_ := Aside0.mk (below_step (by repeat (first | (with_reducible first | exact HB.out | apply below_alloc | apply pw_below_drewN | apply below_drew1 | refine below_set ?_ GE106.out) | exact HB.out)) hb)
           have n2_ := Aside0.mk (hbox)
           have n3_ := Aside0.mk ((by rw [hg]; exact (below_size (by repeat (first | (with_reducible first | exact HB.out | apply below_alloc | apply pw_below_drewN | apply below_drew1 | refine below_set ?_ GE106.out) | exact HB.out))) : w.heap.size ≤ gb116))
           have n4_ := Aside0.mk ((by rw [hg]; exact (below_size (by repeat (first | (with_reducible first | exact HB.out | apply below_alloc | apply pw_below_drewN | apply below_drew1 | refine below_set ?_ GE106.out) | exact HB.out))) : w.heap.size ≤ gb116))
           have n5_ := Aside0.mk ((by rw [hg]; exact Nat.ne_of_lt (blk_lt (g := gb106) (o := .cells #[.int .i64 0, .int .i64 0, .int .i64 0] 54 (0, 0)) (by (with_reducible repeat (first | refine blk_drewN ?_ _ | refine blk_drew ?_ | refine blk_alloc ?_ _)); exact BK106.out)) : gb106 ≠ gb116))
           have n6_ := Aside0.mk ((by rw [hg]; exact Nat.ne_of_gt (blk_lt (g := gb106) (o := .cells #[.int .i64 0, .int .i64 0, .int .i64 0] 54 (0, 0)) (by (with_reducible repeat (first | refine blk_drewN ?_ _ | refine blk_drew ?_ | refine blk_alloc ?_ _)); exact BK106.out)) : gb116 ≠ gb106))
           clear BK106
           clear HB
           have BK106 := n0_
           have HB := n1_
           have BK116 := n2_
           have GW116 := n3_
           have GE116 := n4_
           have NB106_116 := n5_
           have NB116_106 := n6_
           clear n0_ n1_ n2_ n3_ n4_ n5_ n6_
           clear hb hbox hg
           refine hK.out _ _ trivial (fun hHeld => ?_)
           clear hK K
           refine norm_ (a' := ?_) ?_ ?_
           rotate_left
           ·
            show Act.put _ (some 8) _ = _
            simp only [qa_, qb_, qc_, qd_, i64_w, i32_w]
            rfl
           exact norm_ (by simp only [putAll, Act.put, List.setIfInBounds_toArray, List.set_cons_zero, List.set_cons_succ]) (hCont (gb116) _ ⟨(by (with_reducible repeat (first | refine blk_drewN ?_ _ | refine blk_drew ?_ | refine blk_alloc ?_ _)); exact BK106.out), (by (with_reducible repeat (first | refine blk_drewN ?_ _ | refine blk_drew ?_ | refine blk_alloc ?_ _)); exact BK116.out), GW116.out, GE116.out, NB106_116.out, NB116_106.out, (by repeat (first | (with_reducible first | exact HB.out | apply below_alloc | apply pw_below_drewN | apply below_drew1 | refine below_set ?_ GE106.out | refine below_set ?_ GE116.out) | exact HB.out))⟩)
          ·
           skip
           refine box_step ?hg (N := 8) ?hd (cs := #[.int .i64 0, .int .i64 0, .int .i64 0]) (t := 54) ?hr ?_; (case hd => rfl); (case hg => rfl); (case hr => first | (go_simp; done) | (go_simp; rfl))
           intro gb116 hg w40 hbox hb
           have n0_ := Aside0.mk (blk_below (g := gb106) (o := .cells #[.int .i64 0, .int .i64 0, .int .i64 0] 54 (0, 0)) (by (with_reducible repeat (first | refine blk_drewN ?_ _ | refine blk_drew ?_ | refine blk_alloc ?_ _)); exact BK106.out) hb)
           have n1_ := Aside0.mk (below_step (by repeat (first | (with_reducible first | exact HB.out | apply below_alloc | apply pw_below_drewN | apply below_drew1 | refine below_set ?_ GE106.out) | exact HB.out)) hb)
           have n2_ := Aside0.mk (hbox)
           have n3_ := Aside0.mk ((by rw [hg]; exact (below_size (by repeat (first | (with_reducible first | exact HB.out | apply below_alloc | apply pw_below_drewN | apply below_drew1 | refine below_set ?_ GE106.out) | exact HB.out))) : w.heap.size ≤ gb116))
           have n4_ := Aside0.mk ((by rw [hg]; exact (below_size (by repeat (first | (with_reducible first | exact HB.out | apply below_alloc | apply pw_below_drewN | apply below_drew1 | refine below_set ?_ GE106.out) | exact HB.out))) : w.heap.size ≤ gb116))
           have n5_ := Aside0.mk ((by rw [hg]; exact Nat.ne_of_lt (blk_lt (g := gb106) (o := .cells #[.int .i64 0, .int .i64 0, .int .i64 0] 54 (0, 0)) (by (with_reducible repeat (first | refine blk_drewN ?_ _ | refine blk_drew ?_ | refine blk_alloc ?_ _)); exact BK106.out)) : gb106 ≠ gb116))
           have n6_ := Aside0.mk ((by rw [hg]; exact Nat.ne_of_gt (blk_lt (g := gb106) (o := .cells #[.int .i64 0, .int .i64 0, .int .i64 0] 54 (0, 0)) (by (with_reducible repeat (first | refine blk_drewN ?_ _ | refine blk_drew ?_ | refine blk_alloc ?_ _)); exact BK106.out)) : gb116 ≠ gb106))
           clear BK106
           clear HB
           have BK106 := n0_
           have HB := n1_
           have BK116 := n2_
           have GW116 := n3_
           have GE116 := n4_
           have NB106_116 := n5_
           have NB116_106 := n6_
           clear n0_ n1_ n2_ n3_ n4_ n5_ n6_
           clear hb hbox hg
           refine hK.out _ _ trivial (fun hHeld => ?_)
           clear hK K
           refine norm_ (a' := ?_) ?_ ?_
           rotate_left
           ·
            show Act.put _ (some 8) _ = _
            simp only [qa_, qb_, qc_, qd_, i64_w, i32_w]
            rfl
           refine one_ (i := 8) (N := some 58) bb0_14 rfl rfl (one_of HT_.out (by kernel_rfl)) (by decide) (fun K hK => ?_)
           refine goes_ Tryd.func33 (by kernel_rfl) rfl #[.int .i64 t107] (by rfl) rfl rfl (by (try simp only [List.map_toArray, List.map_cons, List.map_nil]); first | done | rfl | (simp only [List.length_drop, List.length_take]; rfl)) ?_
           with_reducible refine (mask_front.calls t107 t115 _ A24.out).mono ?_
           rintro e w' ⟨rfl, ⟨nd, rfl⟩⟩
           refine ⟨_, rfl, ?_⟩
           refine hK.out _ _ trivial (fun hHeld => ?_)
           clear hK K
           refine norm_ (a' := ?_) ?_ ?_
           rotate_left
           ·
            show Act.put _ (some 58) _ = _
            simp only [qa_, qb_, qc_, qd_, i64_w, i32_w]
            rfl
           refine pure_ (i := 9) (N := some 59) (v := ?_) (a' := ?_) bb0_15 rfl rfl (any_of HT_.out (by kernel_rfl)) (fun _ _ _ h => h) (Or.inl ⟨by rfl, ?_⟩) ?_ ?_
           rotate_left
           · intro w'; go_simp; with_reducible rfl
           rotate_left
           · simp only [qa_, qb_, qc_, qd_, i64_w, i32_w]; rfl
           refine pure_ (i := 10) (N := some 60) (v := ?_) (a' := ?_) bb0_9 rfl rfl (any_of HT_.out (by kernel_rfl)) (fun _ _ _ h => h) (Or.inl ⟨by rfl, ?_⟩) ?_ ?_
           rotate_left
           · intro w'; go_simp; with_reducible rfl
           rotate_left
           · simp only [qa_, qb_, qc_, qd_, i64_w, i32_w]; rfl
           exact norm_ (by simp only [putAll, Act.put, List.setIfInBounds_toArray, List.set_cons_zero, List.set_cons_succ]) (hCont (gb116) _ ⟨(by (with_reducible repeat (first | refine blk_drewN ?_ _ | refine blk_drew ?_ | refine blk_alloc ?_ _)); exact BK106.out), (by (with_reducible repeat (first | refine blk_drewN ?_ _ | refine blk_drew ?_ | refine blk_alloc ?_ _)); exact BK116.out), GW116.out, GE116.out, NB106_116.out, NB116_106.out, (by repeat (first | (with_reducible first | exact HB.out | apply below_alloc | apply pw_below_drewN | apply below_drew1 | refine below_set ?_ GE106.out | refine below_set ?_ GE116.out) | exact HB.out))⟩)
         rintro gb116 w41 ⟨h0_, h1_, h2_, h3_, h4_, h5_, h6_⟩
         have n0_ : Aside0 (w41.heap[gb106]? = some (.cells #[.int .i64 0, .int .i64 0, .int .i64 0] 54 (0, 0))) := ⟨h0_⟩
         have n1_ : Aside0 (w41.heap[gb116]? = some (.cells #[.int .i64 0, .int .i64 0, .int .i64 0] 54 (0, 0))) := ⟨h1_⟩
         have n2_ : Aside0 (w.heap.size ≤ gb116) := ⟨h2_⟩
         have n3_ : Aside0 (w.heap.size ≤ gb116) := ⟨h3_⟩
         have n4_ : Aside0 (gb106 ≠ gb116) := ⟨h4_⟩
         have n5_ : Aside0 (gb116 ≠ gb106) := ⟨h5_⟩
         have n6_ : Aside0 (Below w.heap.size w w41) := ⟨h6_⟩
         clear BK106
         clear HB
         clear h0_ h1_ h2_ h3_ h4_ h5_ h6_
         have BK106 := n0_
         have BK116 := n1_
         have GW116 := n2_
         have GE116 := n3_
         have NB106_116 := n4_
         have NB116_106 := n5_
         have HB := n6_
         clear n0_ n1_ n2_ n3_ n4_ n5_ n6_
         have hHeld := trivial
         refine norm_ (a' := ?_) ?_ ?_
         rotate_left
         ·
          simp only [putAll, Act.put, List.setIfInBounds_toArray, List.set_cons_zero, List.set_cons_succ]
          rfl
         refine one_ (i := 12) (N := none) bb0_16 rfl rfl (one_of HT_.out (by kernel_rfl)) (by decide) (fun K hK => ?_)
         have hs42 : w41.cell? ⟨gb116, 0, none⟩ = some (.int .i64 0) := (blk_cell BK116.out 0).trans rfl
         have hfs42 := blk_frozen BK116.out 0
         have hns42_0 := NB106_116.out
         have hms42_0 := NB116_106.out
         have hs43 : w41.cell? ⟨gb116, 1, none⟩ = some (.int .i64 0) := (blk_cell BK116.out 1).trans rfl
         have hfs43 := blk_frozen BK116.out 1
         have hns43_0 := NB106_116.out
         have hms43_0 := NB116_106.out
         have hs44 : w41.cell? ⟨gb116, 2, none⟩ = some (.int .i64 0) := (blk_cell BK116.out 2).trans rfl
         have hfs44 := blk_frozen BK116.out 2
         have hns44_0 := NB106_116.out
         have hms44_0 := NB116_106.out
         refine skip_ (w1 := ?_) (by rfl) rfl ?_ ?_
         rotate_left
         ·
          go_simp
          rfl
         refine hK.out _ _ trivial (fun hHeld => ?_)
         clear hK K
         refine done_ (done_of HT_.out (by kernel_rfl)) ?_
         have hnb45 := NB116_106.out
         have hnc45 := NB106_116.out
         have hcz46_0 : w41.cell? ⟨gb116, 0, none⟩ = some (.int .i64 0) := (blk_cell BK116.out 0).trans rfl
         have hcz46_1 : w41.cell? ⟨gb116, 1, none⟩ = some (.int .i64 0) := (blk_cell BK116.out 1).trans rfl
         have hcz46_2 : w41.cell? ⟨gb116, 2, none⟩ = some (.int .i64 0) := (blk_cell BK116.out 2).trans rfl
         have hfz46_0 := blk_frozen BK116.out 0
         have hfz46_1 := blk_frozen BK116.out 1
         have hfz46_2 := blk_frozen BK116.out 2
         have hcz47_0 : w41.cell? ⟨gb106, 0, none⟩ = some (.int .i64 0) := (blk_cell BK106.out 0).trans rfl
         have hcz47_1 : w41.cell? ⟨gb106, 1, none⟩ = some (.int .i64 0) := (blk_cell BK106.out 1).trans rfl
         have hcz47_2 : w41.cell? ⟨gb106, 2, none⟩ = some (.int .i64 0) := (blk_cell BK106.out 2).trans rfl
         have hfz47_0 := blk_frozen BK106.out 0
         have hfz47_1 := blk_frozen BK106.out 1
         have hfz47_2 := blk_frozen BK106.out 2
         try go_wp2
         refine bodyPost_ret (results_cell_row rfl _ _ gb106 54 #[.int .i64 0, .int .i64 (Int.tmod (wrap64 (t107 - x5_12)) t107), .int .i64 (wrap64 ((wrap64 (t109 - 1)) + t115))] (0, 0) _ rfl (by (with_reducible repeat (first | refine blk_drewN ?_ _ | refine blk_drew ?_ | refine blk_alloc ?_ _)); refine blk_put (cs := #[.int .i64 0, .int .i64 (Int.tmod (wrap64 (t107 - x5_12)) t107), .int .i64 0]) ?_ 2 _ rfl; (with_reducible repeat (first | refine blk_drewN ?_ _ | refine blk_drew ?_ | refine blk_alloc ?_ _)); refine blk_put (cs := #[.int .i64 0, .int .i64 0, .int .i64 0]) ?_ 1 _ rfl; (with_reducible repeat (first | refine blk_drewN ?_ _ | refine blk_drew ?_ | refine blk_alloc ?_ _)); refine blk_put (cs := #[.int .i64 0, .int .i64 0, .int .i64 0]) ?_ 0 _ rfl; (with_reducible repeat (first | refine blk_drewN ?_ _ | refine blk_drew ?_ | refine blk_alloc ?_ _)); refine blk_far ?_ NB106_116.out _; (with_reducible repeat (first | refine blk_drewN ?_ _ | refine blk_drew ?_ | refine blk_alloc ?_ _)); refine blk_far ?_ NB106_116.out _; (with_reducible repeat (first | refine blk_drewN ?_ _ | refine blk_drew ?_ | refine blk_alloc ?_ _)); refine blk_far ?_ NB106_116.out _; (with_reducible repeat (first | refine blk_drewN ?_ _ | refine blk_drew ?_ | refine blk_alloc ?_ _)); exact BK106.out) Tryd.underlying54 rfl (by kernel_rfl)) rfl ?_
         exact ⟨by first | rfl | (simp [errW_none, errW_some] <;> rfl) | (simp [*, errW_none, errW_some] <;> rfl), by repeat (first | (with_reducible first | exact HB.out | apply below_alloc | apply pw_below_drewN | apply below_drew1 | refine below_set ?_ GE106.out | refine below_set ?_ GE116.out) | exact HB.out)⟩
      ·
       rw [if_neg c22] at H
       have c22b0 : (t112 == t114) = false := beq_eq_false_iff_ne.mpr c22
       have c22b1 : (t112 != t114) = true := bne_iff_ne.mpr c22
       simp only [Option.some.injEq, Prod.mk.injEq] at H
       obtain ⟨rfl, rfl, rfl⟩ := H
       go_wp2_with (first | ((with_reducible refine gate_callee (f := 32) rfl ?_); refine goesL_ (some 42) rfl rfl Tryd.func32 (by kernel_rfl) rfl #[.int .u64 t108, .int .i64 x5_12, .int .i64 t107] rfl (by (try simp only [List.map_toArray, List.map_cons, List.map_nil]); first | done | rfl | (simp only [List.length_drop, List.length_take]; rfl)) ?_; (with_reducible refine (bits_Rotate.calls kj12 t108 x5_12 t107 t112 t113 _ A20.out).mono ?_); rintro e w48 ⟨rfl, hb⟩; refine ⟨_, rfl, ?_⟩; have n0_ := Aside0.mk (blk_below (g := gb106) (o := .cells #[.int .i64 0, .int .i64 0, .int .i64 0] 54 (0, 0)) (by (with_reducible repeat (first | refine blk_drewN ?_ _ | refine blk_drew ?_ | refine blk_alloc ?_ _)); exact BK106.out) hb); have n1_ := Aside0.mk (below_step (by repeat (first | (with_reducible first | exact HB.out | apply below_alloc | apply pw_below_drewN | apply below_drew1 | refine below_set ?_ GE106.out) | exact HB.out)) hb); clear BK106; clear HB; have BK106 := n0_; have HB := n1_; clear n0_ n1_; (try clear hb); (try clear hb2); (try clear hk); (try clear hi)) | ((with_reducible refine gate_callee (f := 28) rfl ?_); refine goesL_ (some 47) rfl rfl Tryd.func28 (by kernel_rfl) rfl #[.int .u64 18446744073709551615, .int .i64 t109] rfl (by (try simp only [List.map_toArray, List.map_cons, List.map_nil]); first | done | rfl | (simp only [List.length_drop, List.length_take]; rfl)) ?_; (with_reducible refine (bits_Low.calls 18446744073709551615 t109 t114 _ A21.out).mono ?_); rintro e w49 ⟨rfl, hb⟩; refine ⟨_, rfl, ?_⟩; have n0_ := Aside0.mk (blk_below (g := gb106) (o := .cells #[.int .i64 0, .int .i64 0, .int .i64 0] 54 (0, 0)) (by (with_reducible repeat (first | refine blk_drewN ?_ _ | refine blk_drew ?_ | refine blk_alloc ?_ _)); exact BK106.out) hb); have n1_ := Aside0.mk (below_step (by repeat (first | (with_reducible first | exact HB.out | apply below_alloc | apply pw_below_drewN | apply below_drew1 | refine below_set ?_ GE106.out) | exact HB.out)) hb); clear BK106; clear HB; have BK106 := n0_; have HB := n1_; clear n0_ n1_; (try clear hb); (try clear hb2); (try clear hk); (try clear hi); obtain ⟨hcz50_0, hcz50_1, hcz50_2⟩ := cells3_ BK106.out; have hfz50_0 := fun j => blk_frozen BK106.out j))
       refine bodyPost_ret (results_cell_row rfl _ _ gb106 54 #[.int .i64 0, .int .i64 0, .int .i64 0] (0, 0) _ rfl (by (with_reducible repeat (first | refine blk_drewN ?_ _ | refine blk_drew ?_ | refine blk_alloc ?_ _)); refine blk_put (cs := #[.int .i64 0, .int .i64 0, .int .i64 0]) ?_ 2 _ rfl; (with_reducible repeat (first | refine blk_drewN ?_ _ | refine blk_drew ?_ | refine blk_alloc ?_ _)); refine blk_put (cs := #[.int .i64 0, .int .i64 0, .int .i64 0]) ?_ 1 _ rfl; (with_reducible repeat (first | refine blk_drewN ?_ _ | refine blk_drew ?_ | refine blk_alloc ?_ _)); refine blk_put (cs := #[.int .i64 0, .int .i64 0, .int .i64 0]) ?_ 0 _ rfl; (with_reducible repeat (first | refine blk_drewN ?_ _ | refine blk_drew ?_ | refine blk_alloc ?_ _)); exact BK106.out) Tryd.underlying54 rfl (by kernel_rfl)) rfl ?_
       exact ⟨by first | rfl | (simp [errW_none, errW_some] <;> rfl) | (simp [*, errW_none, errW_some] <;> rfl), by repeat (first | (with_reducible first | exact HB.out | apply below_alloc | apply pw_below_drewN | apply below_drew1 | refine below_set ?_ GE106.out) | exact HB.out)⟩
def mask_Is.f (k : Nat) (a0 : Int) : Option (Bool) := (mask_tell.f k a0).bind fun bt117 => (if (!(bt117.1 == 0) || (!(bt117.2.1 == 0) || (!(bt117.2.2 == 0)))) = true then (some true) else (some (a0 == 4294967297)))
theorem mask_Is.mono : ∀ a0 k, LeO (mask_Is.f k a0) (mask_Is.f (k + 1) a0) := by
 intro a0 k
 unfold mask_Is.f
 repeat' first
   | (with_reducible exact mask_tell.mono _ _)
   | (with_reducible exact LeO.refl _)
   | (with_reducible exact LeO.none _)
   | (with_reducible refine LeO.ite ?_ ?_)
   | (with_reducible refine LeO.bind ?_ (fun _ => ?_))
   | exact mask_tell.mono _ _
   | exact LeO.none _
   | refine LeO.ite ?_ ?_
   | refine LeO.bind ?_ (fun _ => ?_)
set_option maxHeartbeats 8000000 in
set_option maxRecDepth 100000 in
theorem mask_Is.calls (k : Nat) (a0 : Int) (r : Bool) (w : World) (h : mask_Is.f k a0 = some r) (hTab : TabW w := by first | exact hTab | exact TabW.drew hTab | exact TabW.drewN hTab _ | exact TabW.below hTab (by repeat (first | (with_reducible first | exact HB.out | apply below_alloc | apply pw_below_drewN | apply below_drew1) | refine Below.setCell ?_ (Aside0.out (by assumption)) _ | exact HB.out | exact Below.refl _ _))) :
    Calls Tryd.prog 15 #[.int .u64 a0] w fun e w' => e = .returned (.bool r) ∧ Below w.heap.size w w' := by
 have hu54 := Tryd.underlying54
 have HB := Aside0.mk (Below.refl w.heap.size w)
 have H : ((mask_tell.f k a0).bind fun bt117 => (if (!(bt117.1 == 0) || (!(bt117.2.1 == 0) || (!(bt117.2.2 == 0)))) = true then (some true) else (some (a0 == 4294967297)))) = some r := h
 clear h
 replace H := Option.bind_eq_some_iff.mp H
 obtain ⟨⟨t117, t118, t119⟩, A20, H⟩ := H
 replace H : (if (!(t117 == 0) || (!(t118 == 0) || (!(t119 == 0)))) = true then (some true) else (some (a0 == 4294967297))) = some r := H
 have A2 := Aside0.mk A20
 clear A20
 by_cases c3 : (!(t117 == 0) || (!(t118 == 0) || (!(t119 == 0)))) = true
 ·
  rw [if_pos c3] at H
  have c3b0 : (!(t117 == 0) || (!(t118 == 0) || (!(t119 == 0)))) = true := c3
  clear c3
  obtain rfl := Option.some.inj H
  go_enter Tryd.func15, Tryd.ntmps15
  go_wp2_with (first | ((with_reducible refine gate_callee (f := 23) rfl ?_); refine goesL_ (some 4) rfl rfl Tryd.func23 (by kernel_rfl) rfl #[.int .u64 a0] rfl (by (try simp only [List.map_toArray, List.map_cons, List.map_nil]); first | done | rfl | (simp only [List.length_drop, List.length_take]; rfl)) ?_; (with_reducible refine (mask_tell.calls k a0 t117 t118 t119 _ A2.out).mono ?_); rintro e w4 ⟨rfl, hb⟩; refine ⟨_, rfl, ?_⟩; have n0_ := Aside0.mk (below_step (by repeat (first | (with_reducible first | exact HB.out | apply below_alloc | apply pw_below_drewN | apply below_drew1) | exact HB.out)) hb); clear HB; have HB := n0_; clear n0_; (try clear hb); (try clear hb2); (try clear hk); (try clear hi)))
  go_ret
  exact ⟨by first | rfl | (simp [errW_none, errW_some] <;> rfl) | (simp [*, errW_none, errW_some] <;> rfl), by repeat (first | (with_reducible first | exact HB.out | apply below_alloc | apply pw_below_drewN | apply below_drew1) | exact HB.out)⟩
 ·
  rw [if_neg c3] at H
  have c3b0 : (!(t117 == 0) || (!(t118 == 0) || (!(t119 == 0)))) = false := by simpa using c3
  clear c3
  obtain rfl := Option.some.inj H
  go_enter Tryd.func15, Tryd.ntmps15
  go_wp2_with (first | ((with_reducible refine gate_callee (f := 23) rfl ?_); refine goesL_ (some 4) rfl rfl Tryd.func23 (by kernel_rfl) rfl #[.int .u64 a0] rfl (by (try simp only [List.map_toArray, List.map_cons, List.map_nil]); first | done | rfl | (simp only [List.length_drop, List.length_take]; rfl)) ?_; (with_reducible refine (mask_tell.calls k a0 t117 t118 t119 _ A2.out).mono ?_); rintro e w5 ⟨rfl, hb⟩; refine ⟨_, rfl, ?_⟩; have n0_ := Aside0.mk (below_step (by repeat (first | (with_reducible first | exact HB.out | apply below_alloc | apply pw_below_drewN | apply below_drew1) | exact HB.out)) hb); clear HB; have HB := n0_; clear n0_; (try clear hb); (try clear hb2); (try clear hk); (try clear hi)))
  go_ret
  exact ⟨by first | rfl | (simp [errW_none, errW_some] <;> rfl) | (simp [*, errW_none, errW_some] <;> rfl), by repeat (first | (with_reducible first | exact HB.out | apply below_alloc | apply pw_below_drewN | apply below_drew1) | exact HB.out)⟩
end Go.Proofs.YtblnfngigdipcaaDoor.P
