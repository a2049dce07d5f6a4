/- Written for this claim by a program of this session (drive.py, over the print of the kit): Lean functions with the answers of Go functions, and the proofs that the Go code comes to these answers, under no condition but the readings of the arguments that each theorem names. -/
import Derived.Test.YtbklmlbmbnnjkaaDoorPx0
import Derived.Test.YtbklmlbmbnnjkaaDoorPx2
import Derived.Test.YtbklmlbmbnnjkaaDoorPx3
import Derived.Test.YtbklmlbmbnnjkaaDoorPx4
import Derived.Test.YtbklmlbmbnnjkaaDoorPx6
namespace Go.Proofs.YtbklmlbmbnnjkaaDoor.P
open Go.RowKit Go.Proofs.YtbklmlbmbnnjkaaDoorW.PrintWords Go.Proofs.YtbklmlbmbnnjkaaDoorW.PrintLast Go.Proofs.YtbklmlbmbnnjkaaDoorW.PrintMore
attribute [local go_sem] max2_int min2_int max_two min_two max_three min_three max_four min_four   -- for this text's walks alone
set_option linter.unusedVariables false
set_option linter.unusedSimpArgs false

/-! ### mask_Encode: function 16 -/
def mask_Encode.f (k : Nat) (a0 : Int) : Option (Int × Int × Int × Int) := (mask_Is.f k a0).bind fun t132 => (if t132 = true then ((mask_tell.f k a0).bind fun bt133 => (some (bt133.1, bt133.2.1, bt133.2.2, 0))) else (some (0, 0, 0, 3)))
theorem mask_Encode.mono : ∀ a0 k, LeO (mask_Encode.f k a0) (mask_Encode.f (k + 1) a0) := by
  intro a0 k
  unfold mask_Encode.f
  repeat' first
      | (with_reducible exact mask_Is.mono _ _)
      | (with_reducible exact mask_tell.mono _ _)
      | (with_reducible exact LeO.refl _)
      | (with_reducible exact LeO.none _)
      | (with_reducible refine LeO.ite ?_ ?_)
      | (with_reducible refine LeO.bind ?_ (fun _ => ?_))
      | exact mask_Is.mono _ _
      | exact mask_tell.mono _ _
      | exact LeO.none _
      | refine LeO.ite ?_ ?_
      | refine LeO.bind ?_ (fun _ => ?_)
set_option maxHeartbeats 8000000 in
set_option maxRecDepth 100000 in
theorem mask_Encode.calls (k : Nat) (a0 : Int) (r1 : Int) (r2 : Int) (r3 : Int) (r4 : Int) (w : World) (h : mask_Encode.f k a0 = some (r1, r2, r3, r4)) (hTab : TabW w := by first | exact hTab | exact TabW.drew hTab | exact TabW.drewN hTab _ | exact TabW.below hTab (by repeat (first | (with_reducible first | exact HB.out | apply below_alloc | apply pw_below_drewN | apply below_drew1) | exact HB.out | exact Below.refl _ _))) :
    Calls Tryd.prog 16 #[.int .u64 a0] w fun e w' => e = .returned (.tuple #[.int .i64 r1, .int .i64 r2, .int .i64 r3, .int .i64 r4]) ∧ Below w.heap.size w w' := by
  have hu55 := Tryd.underlying55
  have HB := Aside0.mk (Below.refl w.heap.size w)
  have H : ((mask_Is.f k a0).bind fun t132 => (if t132 = true then ((mask_tell.f k a0).bind fun bt133 => (some (bt133.1, bt133.2.1, bt133.2.2, 0))) else (some (0, 0, 0, 3)))) = some (r1, r2, r3, r4) := h
  clear h
  replace H := Option.bind_eq_some_iff.mp H
  obtain ⟨t132, A20, H⟩ := H
  replace H : (if t132 = true then ((mask_tell.f k a0).bind fun bt133 => (some (bt133.1, bt133.2.1, bt133.2.2, 0))) else (some (0, 0, 0, 3))) = some (r1, r2, r3, r4) := H
  have A2 := Aside0.mk A20
  clear A20
  by_cases c3 : t132 = true
  · subst c3
    have H1 : ((mask_tell.f k a0).bind fun bt133 => (some (bt133.1, bt133.2.1, bt133.2.2, 0))) = some (r1, r2, r3, r4) := by rw [if_pos rfl] at H; exact H
    clear H
    have H := H1
    clear H1
    replace H := Option.bind_eq_some_iff.mp H
    obtain ⟨⟨t133, t134, t135⟩, A40, H⟩ := H
    replace H : (some (t133, t134, t135, 0)) = some (r1, r2, r3, r4) := H
    have A4 := Aside0.mk A40
    clear A40
    simp only [Option.some.injEq, Prod.mk.injEq] at H
    obtain ⟨rfl, rfl, rfl, rfl⟩ := H
    go_enter Tryd.func16, Tryd.ntmps16
    go_wp2_with (first | (go_at_call 19; (with_reducible refine (mask_Is.calls k a0 true _ A2.out).mono ?_); rintro e w5 ⟨rfl, hb⟩; have n0_ := Aside0.mk (below_step (by repeat (first | (with_reducible first | exact HB.out | apply below_alloc | apply pw_below_drewN | apply below_drew1) | exact HB.out)) hb); clear HB; have HB := n0_; clear n0_; (try clear hb); (try clear hb2); (try clear hk); (try clear hi)) | (go_at_call 49; (with_reducible refine (mask_tell.calls k a0 t133 t134 t135 _ A4.out).mono ?_); rintro e w6 ⟨rfl, hb⟩; have n0_ := Aside0.mk (below_step (by repeat (first | (with_reducible first | exact HB.out | apply below_alloc | apply pw_below_drewN | apply below_drew1) | exact HB.out)) hb); clear HB; have HB := n0_; clear n0_; (try clear hb); (try clear hb2); (try clear hk); (try clear hi)) | ((with_reducible refine gate_dst (N := 6) rfl ?_); refine box_event ?hg (N := 6) ?hd (cs := #[.int .i64 0, .int .i64 0, .int .i64 0]) (t := 55) ?hr ?_; (case hd => rfl); (case hg => rfl); (case hr => first | (go_simp; done) | (go_simp; rfl)); intro gb136 hg w7 hbox hb; have n0_ := Aside0.mk (below_step (by repeat (first | (with_reducible first | exact HB.out | apply below_alloc | apply pw_below_drewN | apply below_drew1) | exact HB.out)) hb); have n1_ := Aside0.mk (hbox); have n2_ := Aside0.mk ((by rw [hg]; exact (below_size (by repeat (first | (with_reducible first | exact HB.out | apply below_alloc | apply pw_below_drewN | apply below_drew1) | exact HB.out))) : w.heap.size ≤ gb136)); have n3_ := Aside0.mk ((by rw [hg]; exact (below_size (by repeat (first | (with_reducible first | exact HB.out | apply below_alloc | apply pw_below_drewN | apply below_drew1) | exact HB.out))) : w.heap.size ≤ gb136)); clear HB; have HB := n0_; have BK136 := n1_; have GW136 := n2_; have GE136 := n3_; clear n0_ n1_ n2_ n3_; clear hb hbox hg; have hcz8_0 : w7.cell? ⟨gb136, 0, none⟩ = some (.int .i64 0) := (blk_cell BK136.out 0).trans rfl; have hcz8_1 : w7.cell? ⟨gb136, 1, none⟩ = some (.int .i64 0) := (blk_cell BK136.out 1).trans rfl; have hcz8_2 : w7.cell? ⟨gb136, 2, none⟩ = some (.int .i64 0) := (blk_cell BK136.out 2).trans rfl; have hfz8_0 := blk_frozen BK136.out 0; have hfz8_1 := blk_frozen BK136.out 1; have hfz8_2 := blk_frozen BK136.out 2))
    repeat (go_quiet (first | (go_at_call 19; (with_reducible refine (mask_Is.calls k a0 true _ A2.out).mono ?_); rintro e w5 ⟨rfl, hb⟩; have n0_ := Aside0.mk (below_step (by repeat (first | (with_reducible first | exact HB.out | apply below_alloc | apply pw_below_drewN | apply below_drew1) | exact HB.out)) hb); clear HB; have HB := n0_; clear n0_; (try clear hb); (try clear hb2); (try clear hk); (try clear hi)) | (go_at_call 49; (with_reducible refine (mask_tell.calls k a0 t133 t134 t135 _ A4.out).mono ?_); rintro e w6 ⟨rfl, hb⟩; have n0_ := Aside0.mk (below_step (by repeat (first | (with_reducible first | exact HB.out | apply below_alloc | apply pw_below_drewN | apply below_drew1) | exact HB.out)) hb); clear HB; have HB := n0_; clear n0_; (try clear hb); (try clear hb2); (try clear hk); (try clear hi)) | ((with_reducible refine gate_dst (N := 6) rfl ?_); refine box_event ?hg (N := 6) ?hd (cs := #[.int .i64 0, .int .i64 0, .int .i64 0]) (t := 55) ?hr ?_; (case hd => rfl); (case hg => rfl); (case hr => first | (go_simp; done) | (go_simp; rfl)); intro gb136 hg w7 hbox hb; have n0_ := Aside0.mk (below_step (by repeat (first | (with_reducible first | exact HB.out | apply below_alloc | apply pw_below_drewN | apply below_drew1) | exact HB.out)) hb); have n1_ := Aside0.mk (hbox); have n2_ := Aside0.mk ((by rw [hg]; exact (below_size (by repeat (first | (with_reducible first | exact HB.out | apply below_alloc | apply pw_below_drewN | apply below_drew1) | exact HB.out))) : w.heap.size ≤ gb136)); have n3_ := Aside0.mk ((by rw [hg]; exact (below_size (by repeat (first | (with_reducible first | exact HB.out | apply below_alloc | apply pw_below_drewN | apply below_drew1) | exact HB.out))) : w.heap.size ≤ gb136)); clear HB; have HB := n0_; have BK136 := n1_; have GW136 := n2_; have GE136 := n3_; clear n0_ n1_ n2_ n3_; clear hb hbox hg; have hcz8_0 : w7.cell? ⟨gb136, 0, none⟩ = some (.int .i64 0) := (blk_cell BK136.out 0).trans rfl; have hcz8_1 : w7.cell? ⟨gb136, 1, none⟩ = some (.int .i64 0) := (blk_cell BK136.out 1).trans rfl; have hcz8_2 : w7.cell? ⟨gb136, 2, none⟩ = some (.int .i64 0) := (blk_cell BK136.out 2).trans rfl; have hfz8_0 := blk_frozen BK136.out 0; have hfz8_1 := blk_frozen BK136.out 1; have hfz8_2 := blk_frozen BK136.out 2)); try go_wp2_with (first | (go_at_call 19; (with_reducible refine (mask_Is.calls k a0 true _ A2.out).mono ?_); rintro e w5 ⟨rfl, hb⟩; have n0_ := Aside0.mk (below_step (by repeat (first | (with_reducible first | exact HB.out | apply below_alloc | apply pw_below_drewN | apply below_drew1) | exact HB.out)) hb); clear HB; have HB := n0_; clear n0_; (try clear hb); (try clear hb2); (try clear hk); (try clear hi)) | (go_at_call 49; (with_reducible refine (mask_tell.calls k a0 t133 t134 t135 _ A4.out).mono ?_); rintro e w6 ⟨rfl, hb⟩; have n0_ := Aside0.mk (below_step (by repeat (first | (with_reducible first | exact HB.out | apply below_alloc | apply pw_below_drewN | apply below_drew1) | exact HB.out)) hb); clear HB; have HB := n0_; clear n0_; (try clear hb); (try clear hb2); (try clear hk); (try clear hi)) | ((with_reducible refine gate_dst (N := 6) rfl ?_); refine box_event ?hg (N := 6) ?hd (cs := #[.int .i64 0, .int .i64 0, .int .i64 0]) (t := 55) ?hr ?_; (case hd => rfl); (case hg => rfl); (case hr => first | (go_simp; done) | (go_simp; rfl)); intro gb136 hg w7 hbox hb; have n0_ := Aside0.mk (below_step (by repeat (first | (with_reducible first | exact HB.out | apply below_alloc | apply pw_below_drewN | apply below_drew1) | exact HB.out)) hb); have n1_ := Aside0.mk (hbox); have n2_ := Aside0.mk ((by rw [hg]; exact (below_size (by repeat (first | (with_reducible first | exact HB.out | apply below_alloc | apply pw_below_drewN | apply below_drew1) | exact HB.out))) : w.heap.size ≤ gb136)); have n3_ := Aside0.mk ((by rw [hg]; exact (below_size (by repeat (first | (with_reducible first | exact HB.out | apply below_alloc | apply pw_below_drewN | apply below_drew1) | exact HB.out))) : w.heap.size ≤ gb136)); clear HB; have HB := n0_; have BK136 := n1_; have GW136 := n2_; have GE136 := n3_; clear n0_ n1_ n2_ n3_; clear hb hbox hg; have hcz8_0 : w7.cell? ⟨gb136, 0, none⟩ = some (.int .i64 0) := (blk_cell BK136.out 0).trans rfl; have hcz8_1 : w7.cell? ⟨gb136, 1, none⟩ = some (.int .i64 0) := (blk_cell BK136.out 1).trans rfl; have hcz8_2 : w7.cell? ⟨gb136, 2, none⟩ = some (.int .i64 0) := (blk_cell BK136.out 2).trans rfl; have hfz8_0 := blk_frozen BK136.out 0; have hfz8_1 := blk_frozen BK136.out 1; have hfz8_2 := blk_frozen BK136.out 2)))
    refine bodyPost_ret (results_list (rs := [.tmp 2, .tmp 3, .tmp 4, .tmp 5]) rfl (by simp) (.tmp (.tmp (.tmp (.tmp .nil))))) rfl ?_
    exact ⟨by first | rfl | (simp [errW_none, errW_some] <;> rfl) | (simp [*, errW_none, errW_some] <;> rfl), by repeat (first | (with_reducible first | exact HB.out | apply below_alloc | apply pw_below_drewN | apply below_drew1 | refine below_set ?_ GE136.out) | exact HB.out)⟩
  · replace c3 := Bool.eq_false_iff.mpr c3
    subst c3
    have H1 : (some (0, 0, 0, 3)) = some (r1, r2, r3, r4) := by rw [if_neg (show ¬ (false = true) by decide)] at H; exact H
    clear H
    have H := H1
    clear H1
    simp only [Option.some.injEq, Prod.mk.injEq] at H
    obtain ⟨rfl, rfl, rfl, rfl⟩ := H
    go_enter Tryd.func16, Tryd.ntmps16
    go_wp2_with (first | (go_at_call 19; (with_reducible refine (mask_Is.calls k a0 false _ A2.out).mono ?_); rintro e w9 ⟨rfl, hb⟩; have n0_ := Aside0.mk (below_step (by repeat (first | (with_reducible first | exact HB.out | apply below_alloc | apply pw_below_drewN | apply below_drew1) | exact HB.out)) hb); clear HB; have HB := n0_; clear n0_; (try clear hb); (try clear hb2); (try clear hk); (try clear hi)))
    repeat (go_quiet (first | (go_at_call 19; (with_reducible refine (mask_Is.calls k a0 false _ A2.out).mono ?_); rintro e w9 ⟨rfl, hb⟩; have n0_ := Aside0.mk (below_step (by repeat (first | (with_reducible first | exact HB.out | apply below_alloc | apply pw_below_drewN | apply below_drew1) | exact HB.out)) hb); clear HB; have HB := n0_; clear n0_; (try clear hb); (try clear hb2); (try clear hk); (try clear hi))); try go_wp2_with (first | (go_at_call 19; (with_reducible refine (mask_Is.calls k a0 false _ A2.out).mono ?_); rintro e w9 ⟨rfl, hb⟩; have n0_ := Aside0.mk (below_step (by repeat (first | (with_reducible first | exact HB.out | apply below_alloc | apply pw_below_drewN | apply below_drew1) | exact HB.out)) hb); clear HB; have HB := n0_; clear n0_; (try clear hb); (try clear hb2); (try clear hk); (try clear hi))))
    refine bodyPost_ret (results_list (rs := [.tmp 2, .tmp 3, .tmp 4, .tmp 5]) rfl (by simp) (.tmp (.tmp (.tmp (.tmp .nil))))) rfl ?_
    exact ⟨by first | rfl | (simp [errW_none, errW_some] <;> rfl) | (simp [*, errW_none, errW_some] <;> rfl), by repeat (first | (with_reducible first | exact HB.out | apply below_alloc | apply pw_below_drewN | apply below_drew1) | exact HB.out)⟩

/-! ### cleatref01_Low: function 50 -/
def cleatref01_Low.f (k : Nat) (a0 : Int) (a1 : Int) : Option (Int) := if a1 ≤ 0 then (some 0) else (if a1 ≥ 64 then (some a0) else ((cleatref01_Power.f k a1).bind fun t137 => (if t137 = 0 then (none) else (some (Int.tmod a0 t137)))))
theorem cleatref01_Low.mono : ∀ a0 a1 k, LeO (cleatref01_Low.f k a0 a1) (cleatref01_Low.f (k + 1) a0 a1) := by
  intro a0 a1 k
  unfold cleatref01_Low.f
  repeat' first
      | (with_reducible exact cleatref01_Power.mono _ _)
      | (with_reducible exact LeO.refl _)
      | (with_reducible exact LeO.none _)
      | (with_reducible refine LeO.ite ?_ ?_)
      | (with_reducible refine LeO.bind ?_ (fun _ => ?_))
      | exact cleatref01_Power.mono _ _
      | exact LeO.none _
      | refine LeO.ite ?_ ?_
      | refine LeO.bind ?_ (fun _ => ?_)
set_option maxHeartbeats 8000000 in
set_option maxRecDepth 100000 in
theorem cleatref01_Low.calls (k : Nat) (a0 : Int) (a1 : Int) (r : Int) (w : World) (h : cleatref01_Low.f k a0 a1 = some r) :
    Calls Tryd.prog 50 #[.int .u64 a0, .int .i64 a1] w fun e w' => e = .returned (.int .u64 r) ∧ Drawn0 w w' := by
  have H : (if a1 ≤ 0 then (some 0) else (if a1 ≥ 64 then (some a0) else ((cleatref01_Power.f k a1).bind fun t137 => (if t137 = 0 then (none) else (some (Int.tmod a0 t137)))))) = some r := h
  clear h
  by_cases c3 : a1 ≤ 0
  · rw [if_pos c3] at H
    have c3b0 : decide (a1 ≤ 0) = true := decide_eq_true c3
    clear c3
    obtain rfl := Option.some.inj H
    go_enter Tryd.func50, Tryd.ntmps50
    go_wp2
    go_ret
    exact ⟨by first | rfl | (simp; done) | (simp [*]; done), by repeat (first | exact Drawn0.refl _ | apply Drawn0.step)⟩
  · rw [if_neg c3] at H
    have c3b0 : decide (a1 ≤ 0) = false := decide_eq_false c3
    clear c3
    by_cases c4 : a1 ≥ 64
    · rw [if_pos c4] at H
      have c4b0 : decide (64 ≤ a1) = true := decide_eq_true c4
      clear c4
      obtain rfl := Option.some.inj H
      go_enter Tryd.func50, Tryd.ntmps50
      go_wp2
      go_ret
      exact ⟨by first | rfl | (simp; done) | (simp [*]; done), by repeat (first | exact Drawn0.refl _ | apply Drawn0.step)⟩
    · rw [if_neg c4] at H
      have c4b0 : decide (64 ≤ a1) = false := decide_eq_false c4
      clear c4
      replace H := Option.bind_eq_some_iff.mp H
      obtain ⟨t137, A50, H⟩ := H
      replace H : (if t137 = 0 then (none) else (some (Int.tmod a0 t137))) = some r := H
      have A5 := Aside0.mk A50
      clear A50
      by_cases c6 : t137 = 0
      · rw [if_pos c6] at H
        exact absurd H (by simp)
      · rw [if_neg c6] at H
        have c6b0 : (t137 == 0) = false := beq_eq_false_iff_ne.mpr c6
        have c6b1 : (t137 != 0) = true := bne_iff_ne.mpr c6
        obtain rfl := Option.some.inj H
        go_enter Tryd.func50, Tryd.ntmps50
        go_wp2_with (first | ((with_reducible refine gate_callee (f := 70) rfl ?_); refine goesL_ (some 12) rfl rfl Tryd.func70 (by kernel_rfl) rfl #[.int .i64 a1] rfl (by (try simp only [List.map_toArray, List.map_cons, List.map_nil]); first | done | rfl | (simp only [List.length_drop, List.length_take]; rfl)) ?_; (with_reducible refine (cleatref01_Power.calls k a1 t137 _ A5.out).mono ?_); rintro e w' ⟨rfl, ⟨nd, rfl⟩⟩; refine ⟨_, rfl, ?_⟩))
        go_ret
        exact ⟨by first | rfl | (simp; done) | (simp [*]; done), by repeat (first | exact Drawn0.refl _ | apply Drawn0.step)⟩

/-! ### cleatref02_Size: function 22 -/
def cleatref02_Size.l0 : Nat → Int → Int → Option (Int)
  | 0, _, _ => none
  | k + 1, x0, x3 => if x3 < 64 then ((cleatref01_Low.f k x0 x3).bind fun t138 => ((cleatref02_again.f k t138 x3).bind fun t139 => (if t139 = x0 then (some x3) else (cleatref02_Size.l0 k x0 (wrap64 (2 * x3)))))) else (some 64)
def cleatref02_Size.f (k : Nat) (a0 : Int) : Option (Int) := cleatref02_Size.l0 k a0 2
theorem cleatref02_Size.mono_l : ∀ k, (∀ y0 y1, LeO (cleatref02_Size.l0 k y0 y1) (cleatref02_Size.l0 (k + 1) y0 y1))
  | 0 => fun _ _ r h => by simp [cleatref02_Size.l0] at h
  | k + 1 => by
    have ih0 := cleatref02_Size.mono_l k
    · intro y0 y1
      unfold cleatref02_Size.l0
      repeat' first
      | (with_reducible exact ih0 _ _)
      | (with_reducible exact cleatref01_Low.mono _ _ _)
      | (with_reducible exact cleatref02_again.mono _ _ _)
      | (with_reducible exact LeO.refl _)
      | (with_reducible exact LeO.none _)
      | (with_reducible refine LeO.ite ?_ ?_)
      | (with_reducible refine LeO.bind ?_ (fun _ => ?_))
      | exact ih0 _ _
      | exact cleatref01_Low.mono _ _ _
      | exact cleatref02_again.mono _ _ _
      | exact LeO.none _
      | refine LeO.ite ?_ ?_
      | refine LeO.bind ?_ (fun _ => ?_)
theorem cleatref02_Size.mono : ∀ a0 k, LeO (cleatref02_Size.f k a0) (cleatref02_Size.f (k + 1) a0) := by
  intro a0 k
  have ih0 := cleatref02_Size.mono_l k
  unfold cleatref02_Size.f
  repeat' first
      | (with_reducible exact ih0 _ _)
      | (with_reducible exact cleatref01_Low.mono _ _ _)
      | (with_reducible exact cleatref02_again.mono _ _ _)
      | (with_reducible exact LeO.refl _)
      | (with_reducible exact LeO.none _)
      | (with_reducible refine LeO.ite ?_ ?_)
      | (with_reducible refine LeO.bind ?_ (fun _ => ?_))
      | exact ih0 _ _
      | exact cleatref01_Low.mono _ _ _
      | exact cleatref02_again.mono _ _ _
      | exact LeO.none _
      | refine LeO.ite ?_ ?_
      | refine LeO.bind ?_ (fun _ => ?_)
set_option maxHeartbeats 8000000 in
set_option maxRecDepth 100000 in
theorem cleatref02_Size.calls (k : Nat) (a0 : Int) (r : Int) (w : World) (h : cleatref02_Size.f k a0 = some r) :
    Calls Tryd.prog 22 #[.int .u64 a0] w fun e w' => e = .returned (.int .i64 r) ∧ Drawn0 w w' := by
  have H : (cleatref02_Size.l0 k a0 2) = some r := h
  clear h
  have H' := Aside0.mk H
  clear H
  go_enter Tryd.func22, Tryd.ntmps22
  go_wp2
  go_loopg [3] k (fun kq v3 w' => ∃ (x3_1 : Int), v3 = .int .i64 x3_1 ∧ Aside0 (cleatref02_Size.l0 kq a0 x3_1 = some r) ∧ Aside0 (kq ≤ k) ∧ Drawn0 w w')
  case atStart => exact ⟨(2), (by first | rfl | (simp; done) | (simp [*]; done)), H', ⟨Nat.le_refl _⟩, by repeat (first | exact Drawn0.refl _ | apply Drawn0.step)⟩
  case round =>
    clear H'
    obtain ⟨x3_1, rfl, HA, HK1, ⟨m1, rfl⟩⟩ := hrel
    cases gk with
    | zero => exact absurd HA.out (by simp [cleatref02_Size.l0])
    | succ k1 =>
      have H := HA.out
      clear HA
      simp only [cleatref02_Size.l0] at H
      by_cases c2 : x3_1 < 64
      · rw [if_pos c2] at H
        have c2b0 : decide (x3_1 < 64) = true := decide_eq_true c2
        clear c2
        replace H := Option.bind_eq_some_iff.mp H
        obtain ⟨t138, A30, H⟩ := H
        replace H : ((cleatref02_again.f k1 t138 x3_1).bind fun t139 => (if t139 = a0 then (some x3_1) else (cleatref02_Size.l0 k1 a0 (wrap64 (2 * x3_1))))) = some r := H
        have A3 := Aside0.mk A30
        clear A30
        replace H := Option.bind_eq_some_iff.mp H
        obtain ⟨t139, A40, H⟩ := H
        replace H : (if t139 = a0 then (some x3_1) else (cleatref02_Size.l0 k1 a0 (wrap64 (2 * x3_1)))) = some r := H
        have A4 := Aside0.mk A40
        clear A40
        by_cases c5 : t139 = a0
        · rw [if_pos c5] at H
          have c5b0 : (t139 == a0) = true := beq_iff_eq.mpr c5
          have c5b1 : (t139 != a0) = false := bne_eq_false_iff_eq.mpr c5
          clear c5
          obtain rfl := Option.some.inj H
          go_wp2_with (first | ((with_reducible refine gate_callee (f := 50) rfl ?_); refine goesL_ (some 10) rfl rfl Tryd.func50 (by kernel_rfl) rfl #[.int .u64 a0, .int .i64 x3_1] rfl (by (try simp only [List.map_toArray, List.map_cons, List.map_nil]); first | done | rfl | (simp only [List.length_drop, List.length_take]; rfl)) ?_; (with_reducible refine (cleatref01_Low.calls k1 a0 x3_1 t138 _ A3.out).mono ?_); rintro e w' ⟨rfl, ⟨nd, rfl⟩⟩; refine ⟨_, rfl, ?_⟩) | ((with_reducible refine gate_callee (f := 47) rfl ?_); refine goesL_ (some 12) rfl rfl Tryd.func47 (by kernel_rfl) rfl #[.int .u64 t138, .int .i64 x3_1] rfl (by (try simp only [List.map_toArray, List.map_cons, List.map_nil]); first | done | rfl | (simp only [List.length_drop, List.length_take]; rfl)) ?_; (with_reducible refine (cleatref02_again.calls k1 t138 x3_1 t139 _ A4.out).mono ?_); rintro e w' ⟨rfl, ⟨nd, rfl⟩⟩; refine ⟨_, rfl, ?_⟩))
          go_ret
          exact ⟨by first | rfl | (simp; done) | (simp [*]; done), by repeat (first | exact Drawn0.refl _ | apply Drawn0.step)⟩
        · rw [if_neg c5] at H
          have c5b0 : (t139 == a0) = false := beq_eq_false_iff_ne.mpr c5
          have c5b1 : (t139 != a0) = true := bne_iff_ne.mpr c5
          have H' := Aside0.mk H
          clear H
          go_wp2_with (first | ((with_reducible refine gate_callee (f := 50) rfl ?_); refine goesL_ (some 10) rfl rfl Tryd.func50 (by kernel_rfl) rfl #[.int .u64 a0, .int .i64 x3_1] rfl (by (try simp only [List.map_toArray, List.map_cons, List.map_nil]); first | done | rfl | (simp only [List.length_drop, List.length_take]; rfl)) ?_; (with_reducible refine (cleatref01_Low.calls k1 a0 x3_1 t138 _ A3.out).mono ?_); rintro e w' ⟨rfl, ⟨nd, rfl⟩⟩; refine ⟨_, rfl, ?_⟩) | ((with_reducible refine gate_callee (f := 47) rfl ?_); refine goesL_ (some 12) rfl rfl Tryd.func47 (by kernel_rfl) rfl #[.int .u64 t138, .int .i64 x3_1] rfl (by (try simp only [List.map_toArray, List.map_cons, List.map_nil]); first | done | rfl | (simp only [List.length_drop, List.length_take]; rfl)) ?_; (with_reducible refine (cleatref02_again.calls k1 t138 x3_1 t139 _ A4.out).mono ?_); rintro e w' ⟨rfl, ⟨nd, rfl⟩⟩; refine ⟨_, rfl, ?_⟩))
          go_roundg k1
          case measure => have := HK1.out; omega
          case rel => exact ⟨(wrap64 (2 * x3_1)), (by first | rfl | (simp; done) | (simp [*]; done)), H', ⟨by have := HK1.out; omega⟩, by repeat (first | exact Drawn0.refl _ | apply Drawn0.step)⟩
      · rw [if_neg c2] at H
        have c2b0 : decide (x3_1 < 64) = false := decide_eq_false c2
        clear c2
        obtain rfl := Option.some.inj H
        go_wp2
        go_ret
        exact ⟨by first | rfl | (simp; done) | (simp [*]; done), by repeat (first | exact Drawn0.refl _ | apply Drawn0.step)⟩

/-! ### cleatref02_Ones: function 24 -/
def cleatref02_Ones.l0 : Nat → Int → Int → Int → Option (Int)
  | 0, _, _, _ => none
  | k + 1, x0, x3, x4 => if x4 < 64 then ((cleatref01_Bit.f k x0 x4).bind fun t140 => (if t140 = true then (cleatref02_Ones.l0 k x0 (wrap64 (x3 + 1)) (wrap64 (x4 + 1))) else (cleatref02_Ones.l0 k x0 x3 (wrap64 (x4 + 1))))) else (some x3)
def cleatref02_Ones.f (k : Nat) (a0 : Int) : Option (Int) := cleatref02_Ones.l0 k a0 0 0
theorem cleatref02_Ones.mono_l : ∀ k, (∀ y0 y1 y2, LeO (cleatref02_Ones.l0 k y0 y1 y2) (cleatref02_Ones.l0 (k + 1) y0 y1 y2))
  | 0 => fun _ _ _ r h => by simp [cleatref02_Ones.l0] at h
  | k + 1 => by
    have ih0 := cleatref02_Ones.mono_l k
    · intro y0 y1 y2
      unfold cleatref02_Ones.l0
      repeat' first
      | (with_reducible exact ih0 _ _ _)
      | (with_reducible exact cleatref01_Bit.mono _ _ _)
      | (with_reducible exact LeO.refl _)
      | (with_reducible exact LeO.none _)
      | (with_reducible refine LeO.ite ?_ ?_)
      | (with_reducible refine LeO.bind ?_ (fun _ => ?_))
      | exact ih0 _ _ _
      | exact cleatref01_Bit.mono _ _ _
      | exact LeO.none _
      | refine LeO.ite ?_ ?_
      | refine LeO.bind ?_ (fun _ => ?_)
theorem cleatref02_Ones.mono : ∀ a0 k, LeO (cleatref02_Ones.f k a0) (cleatref02_Ones.f (k + 1) a0) := by
  intro a0 k
  have ih0 := cleatref02_Ones.mono_l k
  unfold cleatref02_Ones.f
  repeat' first
      | (with_reducible exact ih0 _ _ _)
      | (with_reducible exact cleatref01_Bit.mono _ _ _)
      | (with_reducible exact LeO.refl _)
      | (with_reducible exact LeO.none _)
      | (with_reducible refine LeO.ite ?_ ?_)
      | (with_reducible refine LeO.bind ?_ (fun _ => ?_))
      | exact ih0 _ _ _
      | exact cleatref01_Bit.mono _ _ _
      | exact LeO.none _
      | refine LeO.ite ?_ ?_
      | refine LeO.bind ?_ (fun _ => ?_)
set_option maxHeartbeats 8000000 in
set_option maxRecDepth 100000 in
theorem cleatref02_Ones.calls (k : Nat) (a0 : Int) (r : Int) (w : World) (h : cleatref02_Ones.f k a0 = some r) :
    Calls Tryd.prog 24 #[.int .u64 a0] w fun e w' => e = .returned (.int .i64 r) ∧ Drawn0 w w' := by
  have H : (cleatref02_Ones.l0 k a0 0 0) = some r := h
  clear h
  have H' := Aside0.mk H
  clear H
  go_enter Tryd.func24, Tryd.ntmps24
  go_wp2
  go_loopg [3, 4] k (fun kq v3 v4 w' => ∃ (x3_1 : Int) (x4_1 : Int), v3 = .int .i64 x3_1 ∧ v4 = .int .i64 x4_1 ∧ Aside0 (cleatref02_Ones.l0 kq a0 x3_1 x4_1 = some r) ∧ Aside0 (kq ≤ k) ∧ Drawn0 w w')
  case atStart => exact ⟨(0), (0), (by first | rfl | (simp; done) | (simp [*]; done)), (by first | rfl | (simp; done) | (simp [*]; done)), H', ⟨Nat.le_refl _⟩, by repeat (first | exact Drawn0.refl _ | apply Drawn0.step)⟩
  case round =>
    clear H'
    obtain ⟨x3_1, x4_1, rfl, rfl, HA, HK1, ⟨m1, rfl⟩⟩ := hrel
    cases gk with
    | zero => exact absurd HA.out (by simp [cleatref02_Ones.l0])
    | succ k1 =>
      have H := HA.out
      clear HA
      simp only [cleatref02_Ones.l0] at H
      by_cases c2 : x4_1 < 64
      · rw [if_pos c2] at H
        have c2b0 : decide (x4_1 < 64) = true := decide_eq_true c2
        clear c2
        replace H := Option.bind_eq_some_iff.mp H
        obtain ⟨t140, A30, H⟩ := H
        replace H : (if t140 = true then (cleatref02_Ones.l0 k1 a0 (wrap64 (x3_1 + 1)) (wrap64 (x4_1 + 1))) else (cleatref02_Ones.l0 k1 a0 x3_1 (wrap64 (x4_1 + 1)))) = some r := H
        have A3 := Aside0.mk A30
        clear A30
        by_cases c4 : t140 = true
        · subst c4
          have H1 : (cleatref02_Ones.l0 k1 a0 (wrap64 (x3_1 + 1)) (wrap64 (x4_1 + 1))) = some r := by rw [if_pos rfl] at H; exact H
          clear H
          have H := H1
          clear H1
          have H' := Aside0.mk H
          clear H
          go_wp2_with (first | ((with_reducible refine gate_callee (f := 53) rfl ?_); refine goesL_ (some 11) rfl rfl Tryd.func53 (by kernel_rfl) rfl #[.int .u64 a0, .int .i64 x4_1] rfl (by (try simp only [List.map_toArray, List.map_cons, List.map_nil]); first | done | rfl | (simp only [List.length_drop, List.length_take]; rfl)) ?_; (with_reducible refine (cleatref01_Bit.calls k1 a0 x4_1 true _ A3.out).mono ?_); rintro e w' ⟨rfl, ⟨nd, rfl⟩⟩; refine ⟨_, rfl, ?_⟩))
          go_roundg k1
          case measure => have := HK1.out; omega
          case rel => exact ⟨(wrap64 (x3_1 + 1)), (wrap64 (x4_1 + 1)), (by first | rfl | (simp; done) | (simp [*]; done)), (by first | rfl | (simp; done) | (simp [*]; done)), H', ⟨by have := HK1.out; omega⟩, by repeat (first | exact Drawn0.refl _ | apply Drawn0.step)⟩
        · replace c4 := Bool.eq_false_iff.mpr c4
          subst c4
          have H1 : (cleatref02_Ones.l0 k1 a0 x3_1 (wrap64 (x4_1 + 1))) = some r := by rw [if_neg (show ¬ (false = true) by decide)] at H; exact H
          clear H
          have H := H1
          clear H1
          have H' := Aside0.mk H
          clear H
          go_wp2_with (first | ((with_reducible refine gate_callee (f := 53) rfl ?_); refine goesL_ (some 11) rfl rfl Tryd.func53 (by kernel_rfl) rfl #[.int .u64 a0, .int .i64 x4_1] rfl (by (try simp only [List.map_toArray, List.map_cons, List.map_nil]); first | done | rfl | (simp only [List.length_drop, List.length_take]; rfl)) ?_; (with_reducible refine (cleatref01_Bit.calls k1 a0 x4_1 false _ A3.out).mono ?_); rintro e w' ⟨rfl, ⟨nd, rfl⟩⟩; refine ⟨_, rfl, ?_⟩))
          go_roundg k1
          case measure => have := HK1.out; omega
          case rel => exact ⟨(x3_1), (wrap64 (x4_1 + 1)), (by first | rfl | (simp; done) | (simp [*]; done)), (by first | rfl | (simp; done) | (simp [*]; done)), H', ⟨by have := HK1.out; omega⟩, by repeat (first | exact Drawn0.refl _ | apply Drawn0.step)⟩
      · rw [if_neg c2] at H
        have c2b0 : decide (x4_1 < 64) = false := decide_eq_false c2
        clear c2
        obtain rfl := Option.some.inj H
        go_wp2
        go_ret
        exact ⟨by first | rfl | (simp; done) | (simp [*]; done), by repeat (first | exact Drawn0.refl _ | apply Drawn0.step)⟩

/-! ### cleatref02_Encode: function 17 -/
mutual
def cleatref02_Encode.l0 : Nat → Int → Int → Int → Int → Option (Int × Int × Int × Int)
  | 0, _, _, _, _ => none
  | k + 1, x0, x6, x7, x8 => if x8 < x6 then (if x7 > 0 then (cleatref02_Encode.j1 k x0 x6 x7 x8 (decide (x7 < x6))) else (cleatref02_Encode.j1 k x0 x6 x7 x8 false)) else (cleatref02_Encode.j1 k x0 x6 x7 x8 false)
def cleatref02_Encode.j1 : Nat → Int → Int → Int → Int → Bool → Option (Int × Int × Int × Int)
  | 0, _, _, _, _, _ => none
  | k + 1, x0, x6, x7, x8, x26 => if x26 = true then ((cleatref02_row.f k x7 x8 x6).bind fun t144 => ((cleatref01_Low.f k x0 x6).bind fun t145 => (if t144 = t145 then (if x6 = 64 then (some (1, x8, wrap64 (x7 - 1), 0)) else (some (0, x8, wrap64 ((wrap64 ((wrap64 (x7 - 1)) + 64)) - (wrap64 (2 * x6))), 0))) else (cleatref02_Encode.l0 k x0 x6 x7 (wrap64 (x8 + 1)))))) else (some (0, 0, 0, 3))
end
def cleatref02_Encode.f (k : Nat) (a0 : Int) : Option (Int × Int × Int × Int) := (cleatref02_Size.f k a0).bind fun t141 => ((cleatref01_Low.f k a0 t141).bind fun t142 => ((cleatref02_Ones.f k t142).bind fun t143 => (cleatref02_Encode.l0 k a0 t141 t143 0)))
theorem cleatref02_Encode.mono_l : ∀ k, (∀ y0 y1 y2 y3, LeO (cleatref02_Encode.l0 k y0 y1 y2 y3) (cleatref02_Encode.l0 (k + 1) y0 y1 y2 y3)) ∧ (∀ y0 y1 y2 y3 y4, LeO (cleatref02_Encode.j1 k y0 y1 y2 y3 y4) (cleatref02_Encode.j1 (k + 1) y0 y1 y2 y3 y4))
  | 0 => ⟨fun _ _ _ _ r h => by simp [cleatref02_Encode.l0] at h, fun _ _ _ _ _ r h => by simp [cleatref02_Encode.j1] at h⟩
  | k + 1 => by
    obtain ⟨ih0, ih1⟩ := cleatref02_Encode.mono_l k
    refine ⟨?_, ?_⟩
    · intro y0 y1 y2 y3
      unfold cleatref02_Encode.l0
      repeat' first
      | (with_reducible exact ih0 _ _ _ _)
      | (with_reducible exact ih1 _ _ _ _ _)
      | (with_reducible exact cleatref01_Low.mono _ _ _)
      | (with_reducible exact cleatref02_Ones.mono _ _)
      | (with_reducible exact cleatref02_Size.mono _ _)
      | (with_reducible exact cleatref02_row.mono _ _ _ _)
      | (with_reducible exact LeO.refl _)
      | (with_reducible exact LeO.none _)
      | (with_reducible refine LeO.ite ?_ ?_)
      | (with_reducible refine LeO.bind ?_ (fun _ => ?_))
      | exact ih0 _ _ _ _
      | exact ih1 _ _ _ _ _
      | exact cleatref01_Low.mono _ _ _
      | exact cleatref02_Ones.mono _ _
      | exact cleatref02_Size.mono _ _
      | exact cleatref02_row.mono _ _ _ _
      | exact LeO.none _
      | refine LeO.ite ?_ ?_
      | refine LeO.bind ?_ (fun _ => ?_)
    · intro y0 y1 y2 y3 y4
      unfold cleatref02_Encode.j1
      repeat' first
      | (with_reducible exact ih0 _ _ _ _)
      | (with_reducible exact ih1 _ _ _ _ _)
      | (with_reducible exact cleatref01_Low.mono _ _ _)
      | (with_reducible exact cleatref02_Ones.mono _ _)
      | (with_reducible exact cleatref02_Size.mono _ _)
      | (with_reducible exact cleatref02_row.mono _ _ _ _)
      | (with_reducible exact LeO.refl _)
      | (with_reducible exact LeO.none _)
      | (with_reducible refine LeO.ite ?_ ?_)
      | (with_reducible refine LeO.bind ?_ (fun _ => ?_))
      | exact ih0 _ _ _ _
      | exact ih1 _ _ _ _ _
      | exact cleatref01_Low.mono _ _ _
      | exact cleatref02_Ones.mono _ _
      | exact cleatref02_Size.mono _ _
      | exact cleatref02_row.mono _ _ _ _
      | exact LeO.none _
      | refine LeO.ite ?_ ?_
      | refine LeO.bind ?_ (fun _ => ?_)
theorem cleatref02_Encode.mono : ∀ a0 k, LeO (cleatref02_Encode.f k a0) (cleatref02_Encode.f (k + 1) a0) := by
  intro a0 k
  obtain ⟨ih0, ih1⟩ := cleatref02_Encode.mono_l k
  unfold cleatref02_Encode.f
  repeat' first
      | (with_reducible exact ih0 _ _ _ _)
      | (with_reducible exact ih1 _ _ _ _ _)
      | (with_reducible exact cleatref01_Low.mono _ _ _)
      | (with_reducible exact cleatref02_Ones.mono _ _)
      | (with_reducible exact cleatref02_Size.mono _ _)
      | (with_reducible exact cleatref02_row.mono _ _ _ _)
      | (with_reducible exact LeO.refl _)
      | (with_reducible exact LeO.none _)
      | (with_reducible refine LeO.ite ?_ ?_)
      | (with_reducible refine LeO.bind ?_ (fun _ => ?_))
      | exact ih0 _ _ _ _
      | exact ih1 _ _ _ _ _
      | exact cleatref01_Low.mono _ _ _
      | exact cleatref02_Ones.mono _ _
      | exact cleatref02_Size.mono _ _
      | exact cleatref02_row.mono _ _ _ _
      | exact LeO.none _
      | refine LeO.ite ?_ ?_
      | refine LeO.bind ?_ (fun _ => ?_)
set_option maxHeartbeats 8000000 in
set_option maxRecDepth 100000 in
theorem cleatref02_Encode.calls (k : Nat) (a0 : Int) (r1 : Int) (r2 : Int) (r3 : Int) (r4 : Int) (w : World) (h : cleatref02_Encode.f k a0 = some (r1, r2, r3, r4)) :
    Calls Tryd.prog 17 #[.int .u64 a0] w fun e w' => e = .returned (.tuple #[.int .i64 r1, .int .i64 r2, .int .i64 r3, .int .i64 r4]) ∧ Drawn0 w w' := by
  have H : ((cleatref02_Size.f k a0).bind fun t141 => ((cleatref01_Low.f k a0 t141).bind fun t142 => ((cleatref02_Ones.f k t142).bind fun t143 => (cleatref02_Encode.l0 k a0 t141 t143 0)))) = some (r1, r2, r3, r4) := h
  clear h
  replace H := Option.bind_eq_some_iff.mp H
  obtain ⟨t141, A20, H⟩ := H
  replace H : ((cleatref01_Low.f k a0 t141).bind fun t142 => ((cleatref02_Ones.f k t142).bind fun t143 => (cleatref02_Encode.l0 k a0 t141 t143 0))) = some (r1, r2, r3, r4) := H
  have A2 := Aside0.mk A20
  clear A20
  replace H := Option.bind_eq_some_iff.mp H
  obtain ⟨t142, A30, H⟩ := H
  replace H : ((cleatref02_Ones.f k t142).bind fun t143 => (cleatref02_Encode.l0 k a0 t141 t143 0)) = some (r1, r2, r3, r4) := H
  have A3 := Aside0.mk A30
  clear A30
  replace H := Option.bind_eq_some_iff.mp H
  obtain ⟨t143, A40, H⟩ := H
  replace H : (cleatref02_Encode.l0 k a0 t141 t143 0) = some (r1, r2, r3, r4) := H
  have A4 := Aside0.mk A40
  clear A40
  have H' := Aside0.mk H
  clear H
  go_enter Tryd.func17, Tryd.ntmps17
  go_wp2_with (first | ((with_reducible refine gate_callee (f := 22) rfl ?_); refine goesL_ (some 10) rfl rfl Tryd.func22 (by kernel_rfl) rfl #[.int .u64 a0] rfl (by (try simp only [List.map_toArray, List.map_cons, List.map_nil]); first | done | rfl | (simp only [List.length_drop, List.length_take]; rfl)) ?_; (with_reducible refine (cleatref02_Size.calls k a0 t141 _ A2.out).mono ?_); rintro e w' ⟨rfl, ⟨nd, rfl⟩⟩; refine ⟨_, rfl, ?_⟩) | ((with_reducible refine gate_callee (f := 50) rfl ?_); refine goesL_ (some 13) rfl rfl Tryd.func50 (by kernel_rfl) rfl #[.int .u64 a0, .int .i64 t141] rfl (by (try simp only [List.map_toArray, List.map_cons, List.map_nil]); first | done | rfl | (simp only [List.length_drop, List.length_take]; rfl)) ?_; (with_reducible refine (cleatref01_Low.calls k a0 t141 t142 _ A3.out).mono ?_); rintro e w' ⟨rfl, ⟨nd, rfl⟩⟩; refine ⟨_, rfl, ?_⟩) | ((with_reducible refine gate_callee (f := 24) rfl ?_); refine goesL_ (some 14) rfl rfl Tryd.func24 (by kernel_rfl) rfl #[.int .u64 t142] rfl (by (try simp only [List.map_toArray, List.map_cons, List.map_nil]); first | done | rfl | (simp only [List.length_drop, List.length_take]; rfl)) ?_; (with_reducible refine (cleatref02_Ones.calls k t142 t143 _ A4.out).mono ?_); rintro e w' ⟨rfl, ⟨nd, rfl⟩⟩; refine ⟨_, rfl, ?_⟩))
  go_loopg [8] k (fun kq v8 w' => ∃ (x8_1 : Int), v8 = .int .i64 x8_1 ∧ Aside0 (cleatref02_Encode.l0 kq a0 t141 t143 x8_1 = some (r1, r2, r3, r4)) ∧ Aside0 (kq ≤ k) ∧ Drawn0 w w')
  case atStart => exact ⟨(0), (by first | rfl | (simp; done) | (simp [*]; done)), H', ⟨Nat.le_refl _⟩, by repeat (first | exact Drawn0.refl _ | apply Drawn0.step)⟩
  case round =>
    clear H'
    try clear c1
    try clear c2
    try clear p2
    obtain ⟨x8_1, rfl, HA, HK1, ⟨m1, rfl⟩⟩ := hrel
    cases gk with
    | zero => exact absurd HA.out (by simp [cleatref02_Encode.l0])
    | succ k1 =>
      have H := HA.out
      clear HA
      simp only [cleatref02_Encode.l0] at H
      have HC5 := Aside0.mk H
      clear H
      go_upto_region 4 with (fail)
      go_cut [26] (fun v26 wc => ∃ (kq : Nat) (x26_4 : Bool), v26 = .bool x26_4 ∧ Aside0 (cleatref02_Encode.j1 kq a0 t141 t143 x8_1 x26_4 = some (r1, r2, r3, r4)) ∧ Aside0 (kq ≤ k1) ∧ Drawn0 w wc)
      case first =>
        have H := HC5.out
        clear HC5
        by_cases c6 : x8_1 < t141
        · rw [if_pos c6] at H
          have c6b0 : decide (x8_1 < t141) = true := decide_eq_true c6
          clear c6
          (first | rw [c6b0] | (simp only [i64_w, i32_w]; rw [c6b0]) | skip)
          by_cases c7 : t143 > 0
          · rw [if_pos c7] at H
            have c7b0 : decide (0 < t143) = true := decide_eq_true c7
            clear c7
            have H' := Aside0.mk H
            clear H
            go_wp2
            go_meet
            case rel => exact ⟨_, (decide (t143 < t141)), (by first | rfl | (simp; done) | (simp [*]; done)), H', ⟨by have := HK1.out; first | omega | exact Nat.le_refl _⟩, by repeat (first | exact Drawn0.refl _ | apply Drawn0.step)⟩
          · rw [if_neg c7] at H
            have c7b0 : decide (0 < t143) = false := decide_eq_false c7
            clear c7
            have H' := Aside0.mk H
            clear H
            go_wp2
            go_meet
            case rel => exact ⟨_, (false), (by first | rfl | (simp; done) | (simp [*]; done)), H', ⟨by have := HK1.out; first | omega | exact Nat.le_refl _⟩, by repeat (first | exact Drawn0.refl _ | apply Drawn0.step)⟩
        · rw [if_neg c6] at H
          have c6b0 : decide (x8_1 < t141) = false := decide_eq_false c6
          clear c6
          (first | rw [c6b0] | (simp only [i64_w, i32_w]; rw [c6b0]) | skip)
          have H' := Aside0.mk H
          clear H
          go_wp2
          go_meet
          case rel => exact ⟨_, (false), (by first | rfl | (simp; done) | (simp [*]; done)), H', ⟨by have := HK1.out; first | omega | exact Nat.le_refl _⟩, by repeat (first | exact Drawn0.refl _ | apply Drawn0.step)⟩
      case rest =>
        clear HC5
        try clear c1
        try clear c2
        try clear p2
        try clear c5
        try clear c6
        try clear c6b0
        try clear c7
        try clear c7b0
        try clear p2
        obtain ⟨kq, x26_4, rfl, HA, HJ4, ⟨mc4, rfl⟩⟩ := hcut
        cases kq with
        | zero => exact absurd HA.out (by simp [cleatref02_Encode.j1])
        | succ kj4 =>
          have H := HA.out
          clear HA
          simp only [cleatref02_Encode.j1] at H
          by_cases c8 : x26_4 = true
          · subst c8
            have H1 : ((cleatref02_row.f kj4 t143 x8_1 t141).bind fun t144 => ((cleatref01_Low.f kj4 a0 t141).bind fun t145 => (if t144 = t145 then (if t141 = 64 then (some (1, x8_1, wrap64 (t143 - 1), 0)) else (some (0, x8_1, wrap64 ((wrap64 ((wrap64 (t143 - 1)) + 64)) - (wrap64 (2 * t141))), 0))) else (cleatref02_Encode.l0 kj4 a0 t141 t143 (wrap64 (x8_1 + 1)))))) = some (r1, r2, r3, r4) := by rw [if_pos rfl] at H; exact H
            clear H
            have H := H1
            clear H1
            replace H := Option.bind_eq_some_iff.mp H
            obtain ⟨t144, A90, H⟩ := H
            replace H : ((cleatref01_Low.f kj4 a0 t141).bind fun t145 => (if t144 = t145 then (if t141 = 64 then (some (1, x8_1, wrap64 (t143 - 1), 0)) else (some (0, x8_1, wrap64 ((wrap64 ((wrap64 (t143 - 1)) + 64)) - (wrap64 (2 * t141))), 0))) else (cleatref02_Encode.l0 kj4 a0 t141 t143 (wrap64 (x8_1 + 1))))) = some (r1, r2, r3, r4) := H
            have A9 := Aside0.mk A90
            clear A90
            replace H := Option.bind_eq_some_iff.mp H
            obtain ⟨t145, A100, H⟩ := H
            replace H : (if t144 = t145 then (if t141 = 64 then (some (1, x8_1, wrap64 (t143 - 1), 0)) else (some (0, x8_1, wrap64 ((wrap64 ((wrap64 (t143 - 1)) + 64)) - (wrap64 (2 * t141))), 0))) else (cleatref02_Encode.l0 kj4 a0 t141 t143 (wrap64 (x8_1 + 1)))) = some (r1, r2, r3, r4) := H
            have A10 := Aside0.mk A100
            clear A100
            by_cases c11 : t144 = t145
            · rw [if_pos c11] at H
              have c11b0 : (t144 == t145) = true := beq_iff_eq.mpr c11
              have c11b1 : (t144 != t145) = false := bne_eq_false_iff_eq.mpr c11
              clear c11
              by_cases c12 : t141 = 64
              · rw [if_pos c12] at H
                have c12b0 : (t141 == 64) = true := beq_iff_eq.mpr c12
                have c12b1 : (t141 != 64) = false := bne_eq_false_iff_eq.mpr c12
                clear c12
                simp only [Option.some.injEq, Prod.mk.injEq] at H
                obtain ⟨rfl, rfl, rfl, rfl⟩ := H
                go_wp2_with (first | ((with_reducible refine gate_callee (f := 48) rfl ?_); refine goesL_ (some 32) rfl rfl Tryd.func48 (by kernel_rfl) rfl #[.int .i64 t143, .int .i64 x8_1, .int .i64 t141] rfl (by (try simp only [List.map_toArray, List.map_cons, List.map_nil]); first | done | rfl | (simp only [List.length_drop, List.length_take]; rfl)) ?_; (with_reducible refine (cleatref02_row.calls kj4 t143 x8_1 t141 t144 _ A9.out).mono ?_); rintro e w' ⟨rfl, ⟨nd, rfl⟩⟩; refine ⟨_, rfl, ?_⟩) | ((with_reducible refine gate_callee (f := 50) rfl ?_); refine goesL_ (some 35) rfl rfl Tryd.func50 (by kernel_rfl) rfl #[.int .u64 a0, .int .i64 t141] rfl (by (try simp only [List.map_toArray, List.map_cons, List.map_nil]); first | done | rfl | (simp only [List.length_drop, List.length_take]; rfl)) ?_; (with_reducible refine (cleatref01_Low.calls kj4 a0 t141 t145 _ A10.out).mono ?_); rintro e w' ⟨rfl, ⟨nd, rfl⟩⟩; refine ⟨_, rfl, ?_⟩))
                refine bodyPost_ret (results_list (rs := [.tmp 2, .tmp 3, .tmp 4, .tmp 5]) rfl (by simp) (.tmp (.tmp (.tmp (.tmp .nil))))) rfl ?_
                exact ⟨by first | rfl | (simp; done) | (simp [*]; done), by repeat (first | exact Drawn0.refl _ | apply Drawn0.step)⟩
              · rw [if_neg c12] at H
                have c12b0 : (t141 == 64) = false := beq_eq_false_iff_ne.mpr c12
                have c12b1 : (t141 != 64) = true := bne_iff_ne.mpr c12
                simp only [Option.some.injEq, Prod.mk.injEq] at H
                obtain ⟨rfl, rfl, rfl, rfl⟩ := H
                go_wp2_with (first | ((with_reducible refine gate_callee (f := 48) rfl ?_); refine goesL_ (some 32) rfl rfl Tryd.func48 (by kernel_rfl) rfl #[.int .i64 t143, .int .i64 x8_1, .int .i64 t141] rfl (by (try simp only [List.map_toArray, List.map_cons, List.map_nil]); first | done | rfl | (simp only [List.length_drop, List.length_take]; rfl)) ?_; (with_reducible refine (cleatref02_row.calls kj4 t143 x8_1 t141 t144 _ A9.out).mono ?_); rintro e w' ⟨rfl, ⟨nd, rfl⟩⟩; refine ⟨_, rfl, ?_⟩) | ((with_reducible refine gate_callee (f := 50) rfl ?_); refine goesL_ (some 35) rfl rfl Tryd.func50 (by kernel_rfl) rfl #[.int .u64 a0, .int .i64 t141] rfl (by (try simp only [List.map_toArray, List.map_cons, List.map_nil]); first | done | rfl | (simp only [List.length_drop, List.length_take]; rfl)) ?_; (with_reducible refine (cleatref01_Low.calls kj4 a0 t141 t145 _ A10.out).mono ?_); rintro e w' ⟨rfl, ⟨nd, rfl⟩⟩; refine ⟨_, rfl, ?_⟩))
                refine bodyPost_ret (results_list (rs := [.tmp 2, .tmp 3, .tmp 4, .tmp 5]) rfl (by simp) (.tmp (.tmp (.tmp (.tmp .nil))))) rfl ?_
                exact ⟨by first | rfl | (simp; done) | (simp [*]; done), by repeat (first | exact Drawn0.refl _ | apply Drawn0.step)⟩
            · rw [if_neg c11] at H
              have c11b0 : (t144 == t145) = false := beq_eq_false_iff_ne.mpr c11
              have c11b1 : (t144 != t145) = true := bne_iff_ne.mpr c11
              have H' := Aside0.mk H
              clear H
              go_wp2_with (first | ((with_reducible refine gate_callee (f := 48) rfl ?_); refine goesL_ (some 32) rfl rfl Tryd.func48 (by kernel_rfl) rfl #[.int .i64 t143, .int .i64 x8_1, .int .i64 t141] rfl (by (try simp only [List.map_toArray, List.map_cons, List.map_nil]); first | done | rfl | (simp only [List.length_drop, List.length_take]; rfl)) ?_; (with_reducible refine (cleatref02_row.calls kj4 t143 x8_1 t141 t144 _ A9.out).mono ?_); rintro e w' ⟨rfl, ⟨nd, rfl⟩⟩; refine ⟨_, rfl, ?_⟩) | ((with_reducible refine gate_callee (f := 50) rfl ?_); refine goesL_ (some 35) rfl rfl Tryd.func50 (by kernel_rfl) rfl #[.int .u64 a0, .int .i64 t141] rfl (by (try simp only [List.map_toArray, List.map_cons, List.map_nil]); first | done | rfl | (simp only [List.length_drop, List.length_take]; rfl)) ?_; (with_reducible refine (cleatref01_Low.calls kj4 a0 t141 t145 _ A10.out).mono ?_); rintro e w' ⟨rfl, ⟨nd, rfl⟩⟩; refine ⟨_, rfl, ?_⟩))
              go_roundg kj4
              case measure => have := HK1.out; have := HJ4.out; omega
              case rel => exact ⟨(wrap64 (x8_1 + 1)), (by first | rfl | (simp; done) | (simp [*]; done)), H', ⟨by have := HK1.out; have := HJ4.out; omega⟩, by repeat (first | exact Drawn0.refl _ | apply Drawn0.step)⟩
          · replace c8 := Bool.eq_false_iff.mpr c8
            subst c8
            have H1 : (some (0, 0, 0, 3)) = some (r1, r2, r3, r4) := by rw [if_neg (show ¬ (false = true) by decide)] at H; exact H
            clear H
            have H := H1
            clear H1
            simp only [Option.some.injEq, Prod.mk.injEq] at H
            obtain ⟨rfl, rfl, rfl, rfl⟩ := H
            go_wp2
            refine bodyPost_ret (results_list (rs := [.tmp 2, .tmp 3, .tmp 4, .tmp 5]) rfl (by simp) (.tmp (.tmp (.tmp (.tmp .nil))))) rfl ?_
            exact ⟨by first | rfl | (simp; done) | (simp [*]; done), by repeat (first | exact Drawn0.refl _ | apply Drawn0.step)⟩

/-! ### cleatlaw02_masked: function 18 -/
def cleatlaw02_masked.f (k : Nat)  : Option (Bool) := (mask_Decode.f k 1 0 7).bind fun bt146 => ((mask_Decode.f k 0 0 60).bind fun bt148 => ((mask_Encode.f k 6).bind fun bt150 => ((mask_Decode.f k 0 0 63).bind fun bt154 => ((mask_Encode.f k 0).bind fun bt156 => (if bt146.2 = 0 then (if bt146.1 = 255 then (if bt148.2 = bt146.2 then (if bt148.1 = 6148914691236517205 then (if bt150.2.2.2 = bt146.2 then (if bt150.1 = 1 then (if bt150.2.1 = 63 then (if bt150.2.2.1 = 1 then (if bt154.2 = 3 then (if bt156.2.2.2 = bt154.2 then ((mask_Is.f k 6).bind fun t160 => (if t160 = true then ((mask_Size.f k bt148.1).bind fun t161 => (if t161 = 2 then ((mask_Ones.f bt148.1).bind fun t162 => (some (t162 == 32))) else (none))) else (none))) else (none)) else (none)) else (none)) else (none)) else (none)) else (none)) else (none)) else (none)) else (none)) else (none))))))
theorem cleatlaw02_masked.mono : ∀ k, LeO (cleatlaw02_masked.f k ) (cleatlaw02_masked.f (k + 1) ) := by
  intro  k
  unfold cleatlaw02_masked.f
  repeat' first
      | (with_reducible exact mask_Decode.mono _ _ _ _)
      | (with_reducible exact mask_Encode.mono _ _)
      | (with_reducible exact mask_Is.mono _ _)
      | (with_reducible exact mask_Size.mono _ _)
      | (with_reducible exact LeO.refl _)
      | (with_reducible exact LeO.none _)
      | (with_reducible refine LeO.ite ?_ ?_)
      | (with_reducible refine LeO.bind ?_ (fun _ => ?_))
      | exact mask_Decode.mono _ _ _ _
      | exact mask_Encode.mono _ _
      | exact mask_Is.mono _ _
      | exact mask_Size.mono _ _
      | exact LeO.none _
      | refine LeO.ite ?_ ?_
      | refine LeO.bind ?_ (fun _ => ?_)
set_option maxHeartbeats 8000000 in
set_option maxRecDepth 100000 in
theorem cleatlaw02_masked.calls (k : Nat)  (r : Bool) (w : World) (h : cleatlaw02_masked.f k  = some r) (hTab : TabW w := by first | exact hTab | exact TabW.drew hTab | exact TabW.drewN hTab _ | exact TabW.below hTab (by repeat (first | (with_reducible first | exact HB.out | apply below_alloc | apply pw_below_drewN | apply below_drew1) | exact HB.out | exact Below.refl _ _))) :
    Calls Tryd.prog 18 #[] w fun e w' => e = .returned (.bool r) ∧ Below w.heap.size w w' := by
  have HB := Aside0.mk (Below.refl w.heap.size w)
  have H : ((mask_Decode.f k 1 0 7).bind fun bt146 => ((mask_Decode.f k 0 0 60).bind fun bt148 => ((mask_Encode.f k 6).bind fun bt150 => ((mask_Decode.f k 0 0 63).bind fun bt154 => ((mask_Encode.f k 0).bind fun bt156 => (if bt146.2 = 0 then (if bt146.1 = 255 then (if bt148.2 = bt146.2 then (if bt148.1 = 6148914691236517205 then (if bt150.2.2.2 = bt146.2 then (if bt150.1 = 1 then (if bt150.2.1 = 63 then (if bt150.2.2.1 = 1 then (if bt154.2 = 3 then (if bt156.2.2.2 = bt154.2 then ((mask_Is.f k 6).bind fun t160 => (if t160 = true then ((mask_Size.f k bt148.1).bind fun t161 => (if t161 = 2 then ((mask_Ones.f bt148.1).bind fun t162 => (some (t162 == 32))) else (none))) else (none))) else (none)) else (none)) else (none)) else (none)) else (none)) else (none)) else (none)) else (none)) else (none)) else (none))))))) = some r := h
  clear h
  replace H := Option.bind_eq_some_iff.mp H
  obtain ⟨⟨t146, t147⟩, A10, H⟩ := H
  replace H : ((mask_Decode.f k 0 0 60).bind fun bt148 => ((mask_Encode.f k 6).bind fun bt150 => ((mask_Decode.f k 0 0 63).bind fun bt154 => ((mask_Encode.f k 0).bind fun bt156 => (if t147 = 0 then (if t146 = 255 then (if bt148.2 = t147 then (if bt148.1 = 6148914691236517205 then (if bt150.2.2.2 = t147 then (if bt150.1 = 1 then (if bt150.2.1 = 63 then (if bt150.2.2.1 = 1 then (if bt154.2 = 3 then (if bt156.2.2.2 = bt154.2 then ((mask_Is.f k 6).bind fun t160 => (if t160 = true then ((mask_Size.f k bt148.1).bind fun t161 => (if t161 = 2 then ((mask_Ones.f bt148.1).bind fun t162 => (some (t162 == 32))) else (none))) else (none))) else (none)) else (none)) else (none)) else (none)) else (none)) else (none)) else (none)) else (none)) else (none)) else (none)))))) = some r := H
  have A1 := Aside0.mk A10
  clear A10
  replace H := Option.bind_eq_some_iff.mp H
  obtain ⟨⟨t148, t149⟩, A20, H⟩ := H
  replace H : ((mask_Encode.f k 6).bind fun bt150 => ((mask_Decode.f k 0 0 63).bind fun bt154 => ((mask_Encode.f k 0).bind fun bt156 => (if t147 = 0 then (if t146 = 255 then (if t149 = t147 then (if t148 = 6148914691236517205 then (if bt150.2.2.2 = t147 then (if bt150.1 = 1 then (if bt150.2.1 = 63 then (if bt150.2.2.1 = 1 then (if bt154.2 = 3 then (if bt156.2.2.2 = bt154.2 then ((mask_Is.f k 6).bind fun t160 => (if t160 = true then ((mask_Size.f k t148).bind fun t161 => (if t161 = 2 then ((mask_Ones.f t148).bind fun t162 => (some (t162 == 32))) else (none))) else (none))) else (none)) else (none)) else (none)) else (none)) else (none)) else (none)) else (none)) else (none)) else (none)) else (none))))) = some r := H
  have A2 := Aside0.mk A20
  clear A20
  replace H := Option.bind_eq_some_iff.mp H
  obtain ⟨⟨t150, t151, t152, t153⟩, A30, H⟩ := H
  replace H : ((mask_Decode.f k 0 0 63).bind fun bt154 => ((mask_Encode.f k 0).bind fun bt156 => (if t147 = 0 then (if t146 = 255 then (if t149 = t147 then (if t148 = 6148914691236517205 then (if t153 = t147 then (if t150 = 1 then (if t151 = 63 then (if t152 = 1 then (if bt154.2 = 3 then (if bt156.2.2.2 = bt154.2 then ((mask_Is.f k 6).bind fun t160 => (if t160 = true then ((mask_Size.f k t148).bind fun t161 => (if t161 = 2 then ((mask_Ones.f t148).bind fun t162 => (some (t162 == 32))) else (none))) else (none))) else (none)) else (none)) else (none)) else (none)) else (none)) else (none)) else (none)) else (none)) else (none)) else (none)))) = some r := H
  have A3 := Aside0.mk A30
  clear A30
  replace H := Option.bind_eq_some_iff.mp H
  obtain ⟨⟨t154, t155⟩, A40, H⟩ := H
  replace H : ((mask_Encode.f k 0).bind fun bt156 => (if t147 = 0 then (if t146 = 255 then (if t149 = t147 then (if t148 = 6148914691236517205 then (if t153 = t147 then (if t150 = 1 then (if t151 = 63 then (if t152 = 1 then (if t155 = 3 then (if bt156.2.2.2 = t155 then ((mask_Is.f k 6).bind fun t160 => (if t160 = true then ((mask_Size.f k t148).bind fun t161 => (if t161 = 2 then ((mask_Ones.f t148).bind fun t162 => (some (t162 == 32))) else (none))) else (none))) else (none)) else (none)) else (none)) else (none)) else (none)) else (none)) else (none)) else (none)) else (none)) else (none))) = some r := H
  have A4 := Aside0.mk A40
  clear A40
  replace H := Option.bind_eq_some_iff.mp H
  obtain ⟨⟨t156, t157, t158, t159⟩, A50, H⟩ := H
  replace H : (if t147 = 0 then (if t146 = 255 then (if t149 = t147 then (if t148 = 6148914691236517205 then (if t153 = t147 then (if t150 = 1 then (if t151 = 63 then (if t152 = 1 then (if t155 = 3 then (if t159 = t155 then ((mask_Is.f k 6).bind fun t160 => (if t160 = true then ((mask_Size.f k t148).bind fun t161 => (if t161 = 2 then ((mask_Ones.f t148).bind fun t162 => (some (t162 == 32))) else (none))) else (none))) else (none)) else (none)) else (none)) else (none)) else (none)) else (none)) else (none)) else (none)) else (none)) else (none)) = some r := H
  have A5 := Aside0.mk A50
  clear A50
  by_cases c6 : t147 = 0
  · rw [if_pos c6] at H
    have c6b0 : (t147 == 0) = true := beq_iff_eq.mpr c6
    have c6b1 : (t147 != 0) = false := bne_eq_false_iff_eq.mpr c6
    clear c6
    by_cases c7 : t146 = 255
    · rw [if_pos c7] at H
      have c7b0 : (t146 == 255) = true := beq_iff_eq.mpr c7
      have c7b1 : (t146 != 255) = false := bne_eq_false_iff_eq.mpr c7
      clear c7
      by_cases c8 : t149 = t147
      · rw [if_pos c8] at H
        have c8b0 : (t149 == t147) = true := beq_iff_eq.mpr c8
        have c8b1 : (t149 != t147) = false := bne_eq_false_iff_eq.mpr c8
        clear c8
        by_cases c9 : t148 = 6148914691236517205
        · rw [if_pos c9] at H
          have c9b0 : (t148 == 6148914691236517205) = true := beq_iff_eq.mpr c9
          have c9b1 : (t148 != 6148914691236517205) = false := bne_eq_false_iff_eq.mpr c9
          clear c9
          by_cases c10 : t153 = t147
          · rw [if_pos c10] at H
            have c10b0 : (t153 == t147) = true := beq_iff_eq.mpr c10
            have c10b1 : (t153 != t147) = false := bne_eq_false_iff_eq.mpr c10
            clear c10
            by_cases c11 : t150 = 1
            · rw [if_pos c11] at H
              have c11b0 : (t150 == 1) = true := beq_iff_eq.mpr c11
              have c11b1 : (t150 != 1) = false := bne_eq_false_iff_eq.mpr c11
              clear c11
              by_cases c12 : t151 = 63
              · rw [if_pos c12] at H
                have c12b0 : (t151 == 63) = true := beq_iff_eq.mpr c12
                have c12b1 : (t151 != 63) = false := bne_eq_false_iff_eq.mpr c12
                clear c12
                by_cases c13 : t152 = 1
                · rw [if_pos c13] at H
                  have c13b0 : (t152 == 1) = true := beq_iff_eq.mpr c13
                  have c13b1 : (t152 != 1) = false := bne_eq_false_iff_eq.mpr c13
                  clear c13
                  by_cases c14 : t155 = 3
                  · rw [if_pos c14] at H
                    have c14b0 : (t155 == 3) = true := beq_iff_eq.mpr c14
                    have c14b1 : (t155 != 3) = false := bne_eq_false_iff_eq.mpr c14
                    clear c14
                    by_cases c15 : t159 = t155
                    · rw [if_pos c15] at H
                      have c15b0 : (t159 == t155) = true := beq_iff_eq.mpr c15
                      have c15b1 : (t159 != t155) = false := bne_eq_false_iff_eq.mpr c15
                      clear c15
                      replace H := Option.bind_eq_some_iff.mp H
                      obtain ⟨t160, A160, H⟩ := H
                      replace H : (if t160 = true then ((mask_Size.f k t148).bind fun t161 => (if t161 = 2 then ((mask_Ones.f t148).bind fun t162 => (some (t162 == 32))) else (none))) else (none)) = some r := H
                      have A16 := Aside0.mk A160
                      clear A160
                      by_cases c17 : t160 = true
                      · subst c17
                        have H1 : ((mask_Size.f k t148).bind fun t161 => (if t161 = 2 then ((mask_Ones.f t148).bind fun t162 => (some (t162 == 32))) else (none))) = some r := by rw [if_pos rfl] at H; exact H
                        clear H
                        have H := H1
                        clear H1
                        replace H := Option.bind_eq_some_iff.mp H
                        obtain ⟨t161, A180, H⟩ := H
                        replace H : (if t161 = 2 then ((mask_Ones.f t148).bind fun t162 => (some (t162 == 32))) else (none)) = some r := H
                        have A18 := Aside0.mk A180
                        clear A180
                        by_cases c19 : t161 = 2
                        · rw [if_pos c19] at H
                          have c19b0 : (t161 == 2) = true := beq_iff_eq.mpr c19
                          have c19b1 : (t161 != 2) = false := bne_eq_false_iff_eq.mpr c19
                          clear c19
                          replace H := Option.bind_eq_some_iff.mp H
                          obtain ⟨t162, A200, H⟩ := H
                          replace H : (some (t162 == 32)) = some r := H
                          have A20 := Aside0.mk A200
                          clear A200
                          obtain rfl := Option.some.inj H
                          go_enter Tryd.func18, Tryd.ntmps18
                          go_wp2_with (first | ((with_reducible refine gate_callee (f := 14) rfl ?_); refine goesL_ (some 16) rfl rfl Tryd.func14 (by kernel_rfl) rfl #[.int .i64 1, .int .i64 0, .int .i64 7] rfl (by (try simp only [List.map_toArray, List.map_cons, List.map_nil]); first | done | rfl | (simp only [List.length_drop, List.length_take]; rfl)) ?_; (with_reducible refine (mask_Decode.calls k 1 0 7 t146 t147 _ A1.out).mono ?_); rintro e w21 ⟨rfl, hb⟩; refine ⟨_, rfl, ?_⟩; have n0_ := Aside0.mk (below_step (by repeat (first | (with_reducible first | exact HB.out | apply below_alloc | apply pw_below_drewN | apply below_drew1) | exact HB.out)) hb); clear HB; have HB := n0_; clear n0_; (try clear hb); (try clear hb2); (try clear hk); (try clear hi)) | ((with_reducible refine gate_callee (f := 14) rfl ?_); refine goesL_ (some 20) rfl rfl Tryd.func14 (by kernel_rfl) rfl #[.int .i64 0, .int .i64 0, .int .i64 60] rfl (by (try simp only [List.map_toArray, List.map_cons, List.map_nil]); first | done | rfl | (simp only [List.length_drop, List.length_take]; rfl)) ?_; (with_reducible refine (mask_Decode.calls k 0 0 60 t148 t149 _ A2.out).mono ?_); rintro e w22 ⟨rfl, hb⟩; refine ⟨_, rfl, ?_⟩; have n0_ := Aside0.mk (below_step (by repeat (first | (with_reducible first | exact HB.out | apply below_alloc | apply pw_below_drewN | apply below_drew1) | exact HB.out)) hb); clear HB; have HB := n0_; clear n0_; (try clear hb); (try clear hb2); (try clear hk); (try clear hi)) | ((with_reducible refine gate_callee (f := 16) rfl ?_); refine goesL_ (some 24) rfl rfl Tryd.func16 (by kernel_rfl) rfl #[.int .u64 6] rfl (by (try simp only [List.map_toArray, List.map_cons, List.map_nil]); first | done | rfl | (simp only [List.length_drop, List.length_take]; rfl)) ?_; (with_reducible refine (mask_Encode.calls k 6 t150 t151 t152 t153 _ A3.out).mono ?_); rintro e w23 ⟨rfl, hb⟩; refine ⟨_, rfl, ?_⟩; have n0_ := Aside0.mk (below_step (by repeat (first | (with_reducible first | exact HB.out | apply below_alloc | apply pw_below_drewN | apply below_drew1) | exact HB.out)) hb); clear HB; have HB := n0_; clear n0_; (try clear hb); (try clear hb2); (try clear hk); (try clear hi)) | ((with_reducible refine gate_callee (f := 14) rfl ?_); refine goesL_ (some 30) rfl rfl Tryd.func14 (by kernel_rfl) rfl #[.int .i64 0, .int .i64 0, .int .i64 63] rfl (by (try simp only [List.map_toArray, List.map_cons, List.map_nil]); first | done | rfl | (simp only [List.length_drop, List.length_take]; rfl)) ?_; (with_reducible refine (mask_Decode.calls k 0 0 63 t154 t155 _ A4.out).mono ?_); rintro e w24 ⟨rfl, hb⟩; refine ⟨_, rfl, ?_⟩; have n0_ := Aside0.mk (below_step (by repeat (first | (with_reducible first | exact HB.out | apply below_alloc | apply pw_below_drewN | apply below_drew1) | exact HB.out)) hb); clear HB; have HB := n0_; clear n0_; (try clear hb); (try clear hb2); (try clear hk); (try clear hi)) | ((with_reducible refine gate_callee (f := 16) rfl ?_); refine goesL_ (some 34) rfl rfl Tryd.func16 (by kernel_rfl) rfl #[.int .u64 0] rfl (by (try simp only [List.map_toArray, List.map_cons, List.map_nil]); first | done | rfl | (simp only [List.length_drop, List.length_take]; rfl)) ?_; (with_reducible refine (mask_Encode.calls k 0 t156 t157 t158 t159 _ A5.out).mono ?_); rintro e w25 ⟨rfl, hb⟩; refine ⟨_, rfl, ?_⟩; have n0_ := Aside0.mk (below_step (by repeat (first | (with_reducible first | exact HB.out | apply below_alloc | apply pw_below_drewN | apply below_drew1) | exact HB.out)) hb); clear HB; have HB := n0_; clear n0_; (try clear hb); (try clear hb2); (try clear hk); (try clear hi)) | (go_at_call 19; (with_reducible refine (mask_Is.calls k 6 true _ A16.out).mono ?_); rintro e w26 ⟨rfl, hb⟩; have n0_ := Aside0.mk (below_step (by repeat (first | (with_reducible first | exact HB.out | apply below_alloc | apply pw_below_drewN | apply below_drew1) | exact HB.out)) hb); clear HB; have HB := n0_; clear n0_; (try clear hb); (try clear hb2); (try clear hk); (try clear hi)) | (go_at_call 21; (with_reducible refine (mask_Size.calls k t148 t161 _ A18.out).mono ?_); rintro e w27 ⟨rfl, hb⟩; have n0_ := Aside0.mk (below_step (by repeat (first | (with_reducible first | exact HB.out | apply below_alloc | apply pw_below_drewN | apply below_drew1) | exact HB.out)) hb); clear HB; have HB := n0_; clear n0_; (try clear hb); (try clear hb2); (try clear hk); (try clear hi)) | (go_at_call 23; (with_reducible refine (mask_Ones.calls t148 t162 _ A20.out).mono ?_); rintro e w' ⟨rfl, ⟨nd, rfl⟩⟩))
                          go_ret
                          exact ⟨by first | rfl | (simp [errW_none, errW_some] <;> rfl) | (simp [*, errW_none, errW_some] <;> rfl), by repeat (first | (with_reducible first | exact HB.out | apply below_alloc | apply pw_below_drewN | apply below_drew1) | exact HB.out)⟩
                        · rw [if_neg c19] at H
                          exact absurd H (by simp)
                      · replace c17 := Bool.eq_false_iff.mpr c17
                        subst c17
                        have H1 : (none) = some r := by rw [if_neg (show ¬ (false = true) by decide)] at H; exact H
                        clear H
                        have H := H1
                        clear H1
                        exact absurd H (by simp)
                    · rw [if_neg c15] at H
                      exact absurd H (by simp)
                  · rw [if_neg c14] at H
                    exact absurd H (by simp)
                · rw [if_neg c13] at H
                  exact absurd H (by simp)
              · rw [if_neg c12] at H
                exact absurd H (by simp)
            · rw [if_neg c11] at H
              exact absurd H (by simp)
          · rw [if_neg c10] at H
            exact absurd H (by simp)
        · rw [if_neg c9] at H
          exact absurd H (by simp)
      · rw [if_neg c8] at H
        exact absurd H (by simp)
    · rw [if_neg c7] at H
      exact absurd H (by simp)
  · rw [if_neg c6] at H
    exact absurd H (by simp)

/-! ### cleatref02_Is: function 20 -/
def cleatref02_Is.f (k : Nat) (a0 : Int) : Option (Bool) := (cleatref02_Encode.f k a0).bind fun bt163 => (some (bt163.2.2.2 == 0))
theorem cleatref02_Is.mono : ∀ a0 k, LeO (cleatref02_Is.f k a0) (cleatref02_Is.f (k + 1) a0) := by
  intro a0 k
  unfold cleatref02_Is.f
  repeat' first
      | (with_reducible exact cleatref02_Encode.mono _ _)
      | (with_reducible exact LeO.refl _)
      | (with_reducible exact LeO.none _)
      | (with_reducible refine LeO.ite ?_ ?_)
      | (with_reducible refine LeO.bind ?_ (fun _ => ?_))
      | exact cleatref02_Encode.mono _ _
      | exact LeO.none _
      | refine LeO.ite ?_ ?_
      | refine LeO.bind ?_ (fun _ => ?_)
set_option maxHeartbeats 8000000 in
set_option maxRecDepth 100000 in
theorem cleatref02_Is.calls (k : Nat) (a0 : Int) (r : Bool) (w : World) (h : cleatref02_Is.f k a0 = some r) :
    Calls Tryd.prog 20 #[.int .u64 a0] w fun e w' => e = .returned (.bool r) ∧ Drawn0 w w' := by
  have H : ((cleatref02_Encode.f k a0).bind fun bt163 => (some (bt163.2.2.2 == 0))) = some r := h
  clear h
  replace H := Option.bind_eq_some_iff.mp H
  obtain ⟨⟨t163, t164, t165, t166⟩, A20, H⟩ := H
  replace H : (some (t166 == 0)) = some r := H
  have A2 := Aside0.mk A20
  clear A20
  obtain rfl := Option.some.inj H
  go_enter Tryd.func20, Tryd.ntmps20
  go_wp2_with (first | ((with_reducible refine gate_callee (f := 17) rfl ?_); refine goesL_ (some 9) rfl rfl Tryd.func17 (by kernel_rfl) rfl #[.int .u64 a0] rfl (by (try simp only [List.map_toArray, List.map_cons, List.map_nil]); first | done | rfl | (simp only [List.length_drop, List.length_take]; rfl)) ?_; (with_reducible refine (cleatref02_Encode.calls k a0 t163 t164 t165 t166 _ A2.out).mono ?_); rintro e w' ⟨rfl, ⟨nd, rfl⟩⟩; refine ⟨_, rfl, ?_⟩))
  go_ret
  exact ⟨by first | rfl | (simp; done) | (simp [*]; done), by repeat (first | exact Drawn0.refl _ | apply Drawn0.step)⟩

end Go.Proofs.YtbklmlbmbnnjkaaDoor.P
