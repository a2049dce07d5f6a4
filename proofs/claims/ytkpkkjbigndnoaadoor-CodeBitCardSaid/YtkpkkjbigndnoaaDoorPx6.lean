/- Written for this claim by a program of this session (drive.py, over the print of the kit): Lean functions with the answers of Go functions, and the proofs that the Go code comes to these answers, under no condition but the readings of the arguments that each theorem names. -/
import Derived.Test.YtkpkkjbigndnoaaDoorPx0
import Derived.Test.YtkpkkjbigndnoaaDoorPx3
import Derived.Test.YtkpkkjbigndnoaaDoorPx4
import Derived.Test.YtkpkkjbigndnoaaDoorPx5
namespace Go.Proofs.YtkpkkjbigndnoaaDoor.P
open Go.RowKit Go.Proofs.YtkpkkjbigndnoaaDoorW.PrintWords Go.Proofs.YtkpkkjbigndnoaaDoorW.PrintLast Go.Proofs.YtkpkkjbigndnoaaDoorW.PrintMore
attribute [local go_sem] max2_int min2_int max_two min_two max_three min_three max_four min_four   -- for this text's walks alone
set_option linter.unusedVariables false
set_option linter.unusedSimpArgs false

/-! ### mask_Encode: function 70 -/
def mask_Encode.f (k : Nat) (a0 : Int) : Option (Int × Int × Int × Int) := (mask_Is.f k a0).bind fun t120 => (if t120 = true then ((mask_tell.f k a0).bind fun bt121 => (some (bt121.1, bt121.2.1, bt121.2.2, 0))) else (some (0, 0, 0, 3)))
theorem mask_Encode.mono : ∀ a0 k, LeO (mask_Encode.f k a0) (mask_Encode.f (k + 1) a0) := by
 intro a0 k
 unfold mask_Encode.f
 repeat' first
   | (with_reducible exact mask_Is.mono _ _)
   | (with_reducible exact mask_tell.mono _ _)
   | (with_reducible exact LeO.refl _)
   | (with_reducible exact LeO.none _)
   | (with_reducible refine LeO.ite ?_ ?_)
   | (with_reducible refine LeO.bind ?_ (fun _ => ?_))
   | exact mask_Is.mono _ _
   | exact mask_tell.mono _ _
   | exact LeO.none _
   | refine LeO.ite ?_ ?_
   | refine LeO.bind ?_ (fun _ => ?_)
set_option maxHeartbeats 8000000 in
set_option maxRecDepth 100000 in
theorem mask_Encode.calls (k : Nat) (a0 : Int) (r1 : Int) (r2 : Int) (r3 : Int) (r4 : Int) (w : World) (h : mask_Encode.f k a0 = some (r1, r2, r3, r4)) (hTab : TabW w := by first | exact hTab | exact TabW.drew hTab | exact TabW.drewN hTab _ | exact TabW.below hTab (by repeat (first | (with_reducible first | exact HB.out | apply below_alloc | apply pw_below_drewN | apply below_drew1) | refine Below.setCell ?_ (Aside0.out (by assumption)) _ | exact HB.out | exact Below.refl _ _))) :
    Calls Tryd.prog 70 #[.int .u64 a0] w fun e w' => e = .returned (.tuple #[.int .i64 r1, .int .i64 r2, .int .i64 r3, .int .i64 r4]) ∧ Below w.heap.size w w' := by
 have hu99 := Tryd.underlying99
 have HB := Aside0.mk (Below.refl w.heap.size w)
 have H : ((mask_Is.f k a0).bind fun t120 => (if t120 = true then ((mask_tell.f k a0).bind fun bt121 => (some (bt121.1, bt121.2.1, bt121.2.2, 0))) else (some (0, 0, 0, 3)))) = some (r1, r2, r3, r4) := h
 clear h
 replace H := Option.bind_eq_some_iff.mp H
 obtain ⟨t120, A20, H⟩ := H
 replace H : (if t120 = true then ((mask_tell.f k a0).bind fun bt121 => (some (bt121.1, bt121.2.1, bt121.2.2, 0))) else (some (0, 0, 0, 3))) = some (r1, r2, r3, r4) := H
 have A2 := Aside0.mk A20
 clear A20
 by_cases c3 : t120 = true
 ·
  subst c3
  have H1 : ((mask_tell.f k a0).bind fun bt121 => (some (bt121.1, bt121.2.1, bt121.2.2, 0))) = some (r1, r2, r3, r4) := by rw [if_pos rfl] at H; exact H
  clear H
  have H := H1
  clear H1
  replace H := Option.bind_eq_some_iff.mp H
  obtain ⟨⟨t121, t122, t123⟩, A40, H⟩ := H
  replace H : (some (t121, t122, t123, 0)) = some (r1, r2, r3, r4) := H
  have A4 := Aside0.mk A40
  clear A40
  simp only [Option.some.injEq, Prod.mk.injEq] at H
  obtain ⟨rfl, rfl, rfl, rfl⟩ := H
  go_enter Tryd.func70, Tryd.ntmps70
  go_wp2_with (first | (go_at_call 32; (with_reducible refine (mask_Is.calls k a0 true _ A2.out).mono ?_); rintro e w5 ⟨rfl, hb⟩; have n0_ := Aside0.mk (below_step (by repeat (first | (with_reducible first | exact HB.out | apply below_alloc | apply pw_below_drewN | apply below_drew1) | exact HB.out)) hb); clear HB; have HB := n0_; clear n0_; (try clear hb); (try clear hb2); (try clear hk); (try clear hi)) | (go_at_call 56; (with_reducible refine (mask_tell.calls k a0 t121 t122 t123 _ A4.out).mono ?_); rintro e w6 ⟨rfl, hb⟩; have n0_ := Aside0.mk (below_step (by repeat (first | (with_reducible first | exact HB.out | apply below_alloc | apply pw_below_drewN | apply below_drew1) | exact HB.out)) hb); clear HB; have HB := n0_; clear n0_; (try clear hb); (try clear hb2); (try clear hk); (try clear hi)) | ((with_reducible refine gate_dst (N := 6) rfl ?_); refine box_event ?hg (N := 6) ?hd (cs := #[.int .i64 0, .int .i64 0, .int .i64 0]) (t := 99) ?hr ?_; (case hd => rfl); (case hg => rfl); (case hr => first | (go_simp; done) | (go_simp; rfl)); intro gb124 hg w7 hbox hb; have n0_ := Aside0.mk (below_step (by repeat (first | (with_reducible first | exact HB.out | apply below_alloc | apply pw_below_drewN | apply below_drew1) | exact HB.out)) hb); have n1_ := Aside0.mk (hbox); have n2_ := Aside0.mk ((by rw [hg]; exact (below_size (by repeat (first | (with_reducible first | exact HB.out | apply below_alloc | apply pw_below_drewN | apply below_drew1) | exact HB.out))) : w.heap.size ≤ gb124)); have n3_ := Aside0.mk ((by rw [hg]; exact (below_size (by repeat (first | (with_reducible first | exact HB.out | apply below_alloc | apply pw_below_drewN | apply below_drew1) | exact HB.out))) : w.heap.size ≤ gb124)); clear HB; have HB := n0_; have BK124 := n1_; have GW124 := n2_; have GE124 := n3_; clear n0_ n1_ n2_ n3_; clear hb hbox hg; obtain ⟨hcz8_0, hcz8_1, hcz8_2⟩ := cells3_ BK124.out; have hfz8_0 := fun j => blk_frozen BK124.out j))
  repeat (go_quiet (first | (go_at_call 32; (with_reducible refine (mask_Is.calls k a0 true _ A2.out).mono ?_); rintro e w5 ⟨rfl, hb⟩; have n0_ := Aside0.mk (below_step (by repeat (first | (with_reducible first | exact HB.out | apply below_alloc | apply pw_below_drewN | apply below_drew1) | exact HB.out)) hb); clear HB; have HB := n0_; clear n0_; (try clear hb); (try clear hb2); (try clear hk); (try clear hi)) | (go_at_call 56; (with_reducible refine (mask_tell.calls k a0 t121 t122 t123 _ A4.out).mono ?_); rintro e w6 ⟨rfl, hb⟩; have n0_ := Aside0.mk (below_step (by repeat (first | (with_reducible first | exact HB.out | apply below_alloc | apply pw_below_drewN | apply below_drew1) | exact HB.out)) hb); clear HB; have HB := n0_; clear n0_; (try clear hb); (try clear hb2); (try clear hk); (try clear hi)) | ((with_reducible refine gate_dst (N := 6) rfl ?_); refine box_event ?hg (N := 6) ?hd (cs := #[.int .i64 0, .int .i64 0, .int .i64 0]) (t := 99) ?hr ?_; (case hd => rfl); (case hg => rfl); (case hr => first | (go_simp; done) | (go_simp; rfl)); intro gb124 hg w7 hbox hb; have n0_ := Aside0.mk (below_step (by repeat (first | (with_reducible first | exact HB.out | apply below_alloc | apply pw_below_drewN | apply below_drew1) | exact HB.out)) hb); have n1_ := Aside0.mk (hbox); have n2_ := Aside0.mk ((by rw [hg]; exact (below_size (by repeat (first | (with_reducible first | exact HB.out | apply below_alloc | apply pw_below_drewN | apply below_drew1) | exact HB.out))) : w.heap.size ≤ gb124)); have n3_ := Aside0.mk ((by rw [hg]; exact (below_size (by repeat (first | (with_reducible first | exact HB.out | apply below_alloc | apply pw_below_drewN | apply below_drew1) | exact HB.out))) : w.heap.size ≤ gb124)); clear HB; have HB := n0_; have BK124 := n1_; have GW124 := n2_; have GE124 := n3_; clear n0_ n1_ n2_ n3_; clear hb hbox hg; obtain ⟨hcz8_0, hcz8_1, hcz8_2⟩ := cells3_ BK124.out; have hfz8_0 := fun j => blk_frozen BK124.out j)); try go_wp2_with (first | (go_at_call 32; (with_reducible refine (mask_Is.calls k a0 true _ A2.out).mono ?_); rintro e w5 ⟨rfl, hb⟩; have n0_ := Aside0.mk (below_step (by repeat (first | (with_reducible first | exact HB.out | apply below_alloc | apply pw_below_drewN | apply below_drew1) | exact HB.out)) hb); clear HB; have HB := n0_; clear n0_; (try clear hb); (try clear hb2); (try clear hk); (try clear hi)) | (go_at_call 56; (with_reducible refine (mask_tell.calls k a0 t121 t122 t123 _ A4.out).mono ?_); rintro e w6 ⟨rfl, hb⟩; have n0_ := Aside0.mk (below_step (by repeat (first | (with_reducible first | exact HB.out | apply below_alloc | apply pw_below_drewN | apply below_drew1) | exact HB.out)) hb); clear HB; have HB := n0_; clear n0_; (try clear hb); (try clear hb2); (try clear hk); (try clear hi)) | ((with_reducible refine gate_dst (N := 6) rfl ?_); refine box_event ?hg (N := 6) ?hd (cs := #[.int .i64 0, .int .i64 0, .int .i64 0]) (t := 99) ?hr ?_; (case hd => rfl); (case hg => rfl); (case hr => first | (go_simp; done) | (go_simp; rfl)); intro gb124 hg w7 hbox hb; have n0_ := Aside0.mk (below_step (by repeat (first | (with_reducible first | exact HB.out | apply below_alloc | apply pw_below_drewN | apply below_drew1) | exact HB.out)) hb); have n1_ := Aside0.mk (hbox); have n2_ := Aside0.mk ((by rw [hg]; exact (below_size (by repeat (first | (with_reducible first | exact HB.out | apply below_alloc | apply pw_below_drewN | apply below_drew1) | exact HB.out))) : w.heap.size ≤ gb124)); have n3_ := Aside0.mk ((by rw [hg]; exact (below_size (by repeat (first | (with_reducible first | exact HB.out | apply below_alloc | apply pw_below_drewN | apply below_drew1) | exact HB.out))) : w.heap.size ≤ gb124)); clear HB; have HB := n0_; have BK124 := n1_; have GW124 := n2_; have GE124 := n3_; clear n0_ n1_ n2_ n3_; clear hb hbox hg; obtain ⟨hcz8_0, hcz8_1, hcz8_2⟩ := cells3_ BK124.out; have hfz8_0 := fun j => blk_frozen BK124.out j)))
  refine bodyPost_ret (results_list (rs := [.tmp 2, .tmp 3, .tmp 4, .tmp 5]) rfl (by simp) (.tmp (.tmp (.tmp (.tmp .nil))))) rfl ?_
  exact ⟨by first | rfl | (simp [errW_none, errW_some] <;> rfl) | (simp [*, errW_none, errW_some] <;> rfl), by repeat (first | (with_reducible first | exact HB.out | apply below_alloc | apply pw_below_drewN | apply below_drew1 | refine below_set ?_ GE124.out) | exact HB.out)⟩
 ·
  replace c3 := Bool.eq_false_iff.mpr c3
  subst c3
  have H1 : (some (0, 0, 0, 3)) = some (r1, r2, r3, r4) := by rw [if_neg (show ¬ (false = true) by decide)] at H; exact H
  clear H
  have H := H1
  clear H1
  simp only [Option.some.injEq, Prod.mk.injEq] at H
  obtain ⟨rfl, rfl, rfl, rfl⟩ := H
  go_enter Tryd.func70, Tryd.ntmps70
  go_wp2_with (first | (go_at_call 32; (with_reducible refine (mask_Is.calls k a0 false _ A2.out).mono ?_); rintro e w9 ⟨rfl, hb⟩; have n0_ := Aside0.mk (below_step (by repeat (first | (with_reducible first | exact HB.out | apply below_alloc | apply pw_below_drewN | apply below_drew1) | exact HB.out)) hb); clear HB; have HB := n0_; clear n0_; (try clear hb); (try clear hb2); (try clear hk); (try clear hi)))
  repeat (go_quiet (first | (go_at_call 32; (with_reducible refine (mask_Is.calls k a0 false _ A2.out).mono ?_); rintro e w9 ⟨rfl, hb⟩; have n0_ := Aside0.mk (below_step (by repeat (first | (with_reducible first | exact HB.out | apply below_alloc | apply pw_below_drewN | apply below_drew1) | exact HB.out)) hb); clear HB; have HB := n0_; clear n0_; (try clear hb); (try clear hb2); (try clear hk); (try clear hi))); try go_wp2_with (first | (go_at_call 32; (with_reducible refine (mask_Is.calls k a0 false _ A2.out).mono ?_); rintro e w9 ⟨rfl, hb⟩; have n0_ := Aside0.mk (below_step (by repeat (first | (with_reducible first | exact HB.out | apply below_alloc | apply pw_below_drewN | apply below_drew1) | exact HB.out)) hb); clear HB; have HB := n0_; clear n0_; (try clear hb); (try clear hb2); (try clear hk); (try clear hi))))
  refine bodyPost_ret (results_list (rs := [.tmp 2, .tmp 3, .tmp 4, .tmp 5]) rfl (by simp) (.tmp (.tmp (.tmp (.tmp .nil))))) rfl ?_
  exact ⟨by first | rfl | (simp [errW_none, errW_some] <;> rfl) | (simp [*, errW_none, errW_some] <;> rfl), by repeat (first | (with_reducible first | exact HB.out | apply below_alloc | apply pw_below_drewN | apply below_drew1) | exact HB.out)⟩

/-! ### mask_Decode: function 73 -/
/-- May a size be it, for the third number? -/
def mask_askD.f (s size : Int) : Option Bool := if size < 64 then (mask_front.f size).bind fun f => some (decide (s ≥ f)) else some false
set_option maxHeartbeats 8000000 in
theorem mask_askD.calls (s size : Int) (r : Bool) (B : Nat) (w : World) (hc : w.cell? ⟨B, 0, none⟩ = some (.int .i64 s)) (h : mask_askD.f s size = some r) :
    Calls Tryd.prog 96 #[.int .i64 size, .pointer (some ⟨B, 0, none⟩)] w fun e w' => e = .returned (.bool r) ∧ Below w.heap.size w w' := by
  unfold mask_askD.f at h
  by_cases h64 : size < 64
  · rw [if_pos h64] at h
    obtain ⟨a, h1, h⟩ := Option.bind_eq_some_iff.mp h
    obtain rfl := Option.some.inj h
    have H1 := Aside0.mk h1
    clear h h1
    have d : decide (size < 64) = true := decide_eq_true h64
    go_enter Tryd.func96, Tryd.ntmps96
    go_wp2
    go_quiet ((go_at_call 94; refine quiet_drawn (mask_front.calls _ _ _ H1.out)))
    all_goals go_wp2
    all_goals go_ret
    exact ⟨rfl, by repeat (first | exact Below.refl _ _ | apply below_drew | apply pw_below_drewN | apply below_alloc)⟩
  · rw [if_neg h64] at h
    obtain rfl := Option.some.inj h
    clear h
    have d : decide (size < 64) = false := decide_eq_false h64
    go_enter Tryd.func96, Tryd.ntmps96
    go_wp2
    go_quiet (fail)
    all_goals go_wp2
    all_goals go_ret
    exact ⟨rfl, by repeat (first | exact Below.refl _ _ | apply below_drew | apply pw_below_drewN | apply below_alloc)⟩
set_option maxHeartbeats 8000000 in
theorem mask_Decode.sizes (v : Int) (r : Int) (B : Nat) (w : World) (hc0 : w.cell? ⟨B, 0, none⟩ = some (.int .i64 v)) (h : mask_sizes.f (mask_askD.f v) = some r) :
    Calls Tryd.prog 95 #[.func (.func 96) #[] #[.pointer (some ⟨B, 0, none⟩)]] w fun e w' => e = .returned (.int .i64 r) ∧ Below w.heap.size w w' := by
  have hb0 := Below.refl w.heap.size w
  unfold mask_sizes.f at h
  go_enter Tryd.func95, Tryd.ntmps95
  go_wp2
  refine wp_loop_rounds 8 ?_
  obtain ⟨b0, h0, h⟩ := Option.bind_eq_some_iff.mp h
  have H0 := Aside0.mk h0
  clear h0
  rw [rounds_succ]
  cases b0
  rotate_left
  · rw [if_pos rfl] at h
    obtain rfl := Option.some.inj h
    clear h
    go_wp2_with (first | (go_at_call 96; refine (mask_askD.calls v _ _ B _ hc0 H0.out).mono ?_; rintro e w1 ⟨rfl, hn1⟩; have hb1 := below_then hb0 hb0.size hn1; have hc1 := pw_cell_below hn1 hc0))
    go_ret
    exact ⟨rfl, hb1⟩
  rw [if_neg (by decide)] at h
  have H := Aside0.mk h
  clear h
  go_wp2_with (first | (go_at_call 96; refine (mask_askD.calls v _ _ B _ hc0 H0.out).mono ?_; rintro e w1 ⟨rfl, hn1⟩; have hb1 := below_then hb0 hb0.size hn1; have hc1 := pw_cell_below hn1 hc0))
  replace h := H.out
  clear H
  obtain ⟨b1, h1, h⟩ := Option.bind_eq_some_iff.mp h
  have H1 := Aside0.mk h1
  clear h1
  rw [rounds_succ]
  cases b1
  rotate_left
  · rw [if_pos rfl] at h
    obtain rfl := Option.some.inj h
    clear h
    go_wp2_with (first | (go_at_call 96; refine (mask_askD.calls v _ _ B _ hc1 H1.out).mono ?_; rintro e w2 ⟨rfl, hn2⟩; have hb2 := below_then hb1 hb1.size hn2; have hc2 := pw_cell_below hn2 hc1))
    go_ret
    exact ⟨rfl, hb2⟩
  rw [if_neg (by decide)] at h
  have H := Aside0.mk h
  clear h
  go_wp2_with (first | (go_at_call 96; refine (mask_askD.calls v _ _ B _ hc1 H1.out).mono ?_; rintro e w2 ⟨rfl, hn2⟩; have hb2 := below_then hb1 hb1.size hn2; have hc2 := pw_cell_below hn2 hc1))
  replace h := H.out
  clear H
  obtain ⟨b2, h2, h⟩ := Option.bind_eq_some_iff.mp h
  have H2 := Aside0.mk h2
  clear h2
  rw [rounds_succ]
  cases b2
  rotate_left
  · rw [if_pos rfl] at h
    obtain rfl := Option.some.inj h
    clear h
    go_wp2_with (first | (go_at_call 96; refine (mask_askD.calls v _ _ B _ hc2 H2.out).mono ?_; rintro e w3 ⟨rfl, hn3⟩; have hb3 := below_then hb2 hb2.size hn3; have hc3 := pw_cell_below hn3 hc2))
    go_ret
    exact ⟨rfl, hb3⟩
  rw [if_neg (by decide)] at h
  have H := Aside0.mk h
  clear h
  go_wp2_with (first | (go_at_call 96; refine (mask_askD.calls v _ _ B _ hc2 H2.out).mono ?_; rintro e w3 ⟨rfl, hn3⟩; have hb3 := below_then hb2 hb2.size hn3; have hc3 := pw_cell_below hn3 hc2))
  replace h := H.out
  clear H
  obtain ⟨b3, h3, h⟩ := Option.bind_eq_some_iff.mp h
  have H3 := Aside0.mk h3
  clear h3
  rw [rounds_succ]
  cases b3
  rotate_left
  · rw [if_pos rfl] at h
    obtain rfl := Option.some.inj h
    clear h
    go_wp2_with (first | (go_at_call 96; refine (mask_askD.calls v _ _ B _ hc3 H3.out).mono ?_; rintro e w4 ⟨rfl, hn4⟩; have hb4 := below_then hb3 hb3.size hn4; have hc4 := pw_cell_below hn4 hc3))
    go_ret
    exact ⟨rfl, hb4⟩
  rw [if_neg (by decide)] at h
  have H := Aside0.mk h
  clear h
  go_wp2_with (first | (go_at_call 96; refine (mask_askD.calls v _ _ B _ hc3 H3.out).mono ?_; rintro e w4 ⟨rfl, hn4⟩; have hb4 := below_then hb3 hb3.size hn4; have hc4 := pw_cell_below hn4 hc3))
  replace h := H.out
  clear H
  obtain ⟨b4, h4, h⟩ := Option.bind_eq_some_iff.mp h
  have H4 := Aside0.mk h4
  clear h4
  rw [rounds_succ]
  cases b4
  rotate_left
  · rw [if_pos rfl] at h
    obtain rfl := Option.some.inj h
    clear h
    go_wp2_with (first | (go_at_call 96; refine (mask_askD.calls v _ _ B _ hc4 H4.out).mono ?_; rintro e w5 ⟨rfl, hn5⟩; have hb5 := below_then hb4 hb4.size hn5; have hc5 := pw_cell_below hn5 hc4))
    go_ret
    exact ⟨rfl, hb5⟩
  rw [if_neg (by decide)] at h
  have H := Aside0.mk h
  clear h
  go_wp2_with (first | (go_at_call 96; refine (mask_askD.calls v _ _ B _ hc4 H4.out).mono ?_; rintro e w5 ⟨rfl, hn5⟩; have hb5 := below_then hb4 hb4.size hn5; have hc5 := pw_cell_below hn5 hc4))
  replace h := H.out
  clear H
  obtain ⟨b5, h5, h⟩ := Option.bind_eq_some_iff.mp h
  have H5 := Aside0.mk h5
  clear h5
  rw [rounds_succ]
  cases b5
  rotate_left
  · rw [if_pos rfl] at h
    obtain rfl := Option.some.inj h
    clear h
    go_wp2_with (first | (go_at_call 96; refine (mask_askD.calls v _ _ B _ hc5 H5.out).mono ?_; rintro e w6 ⟨rfl, hn6⟩; have hb6 := below_then hb5 hb5.size hn6; have hc6 := pw_cell_below hn6 hc5))
    go_ret
    exact ⟨rfl, hb6⟩
  rw [if_neg (by decide)] at h
  have H := Aside0.mk h
  clear h
  go_wp2_with (first | (go_at_call 96; refine (mask_askD.calls v _ _ B _ hc5 H5.out).mono ?_; rintro e w6 ⟨rfl, hn6⟩; have hb6 := below_then hb5 hb5.size hn6; have hc6 := pw_cell_below hn6 hc5))
  replace h := H.out
  clear H
  obtain rfl := Option.some.inj h
  rw [rounds_succ]
  go_wp2
  go_ret
  exact ⟨rfl, hb6⟩
def mask_Decode.size (a0 a2 : Int) : Option Int := if a0 = 0 then mask_sizes.f (mask_askD.f a2) else some 64
def mask_Decode.f (k : Nat) (a0 a1 a2 : Int) : Option (Int × Int) :=
  if 0 ≤ mn (mn a0 a1) a2 ∧ a0 ≤ 1 ∧ mx a1 a2 < 64 then (mask_Decode.size a0 a2).bind fun z => (mask_front.f z).bind fun fr =>
    if 1 ≤ wrap64 (wrap64 (a2 - fr) + 1) ∧ wrap64 (wrap64 (a2 - fr) + 1) < z ∧ a1 < z then
      (bits_Low.f 18446744073709551615 (wrap64 (wrap64 (a2 - fr) + 1))).bind fun u => (bits_Rotate.f k u a1 z).bind fun p => (mask_again.f k p.1 z).bind fun v => some (v, p.2)
    else some (0, 3)
  else some (0, 1)
theorem mask_Decode.mono : ∀ a0 a1 a2 k, LeO (mask_Decode.f k a0 a1 a2) (mask_Decode.f (k + 1) a0 a1 a2) := by
  intro a0 a1 a2 k
  unfold mask_Decode.f
  repeat' first
    | with_reducible exact LeO.refl _
    | with_reducible exact bits_Rotate.mono _ _ _ _
    | with_reducible exact mask_again.mono _ _ _
    | with_reducible refine LeO.ite ?_ ?_
    | with_reducible refine LeO.bind ?_ (fun _ => ?_)
set_option maxHeartbeats 8000000 in
theorem mask_Decode.calls (k : Nat) (a0 a1 a2 : Int) (r1 r2 : Int) (w : World) (h : mask_Decode.f k a0 a1 a2 = some (r1, r2)) :
    Calls Tryd.prog 73 #[.int .i64 a0, .int .i64 a1, .int .i64 a2] w fun e w' => e = .returned (.tuple #[.int .u64 r1, .int .i64 r2]) ∧ Below w.heap.size w w' := by
  unfold mask_Decode.f at h
  obtain ⟨m1, hm1⟩ : ∃ m1, mn a0 a1 = m1 := ⟨_, rfl⟩
  obtain ⟨m2, hm2⟩ : ∃ m2, mn m1 a2 = m2 := ⟨_, rfl⟩
  obtain ⟨m3, hm3⟩ : ∃ m3, mx a1 a2 = m3 := ⟨_, rfl⟩
  rw [hm1, hm2, hm3] at h
  have hm1_ : (if a1 < a0 then a1 else a0) = m1 := hm1
  have hm2_ : (if a2 < m1 then a2 else m1) = m2 := hm2
  have hm3_ : (if a1 < a2 then a2 else a1) = m3 := hm3
  clear hm1 hm2 hm3
  have hA := fun o => below_alloc (Below.refl w.heap.size w) o
  have hA1 := hA (.cells #[.int .i64 a2] 3)
  have hN : (w.alloc (.cells #[.int .i64 a2] 3)).cell? ⟨w.heap.size, 0, none⟩ = some (.int .i64 a2) := by simp
  by_cases hin : 0 ≤ m2 ∧ a0 ≤ 1 ∧ m3 < 64
  · rw [if_pos hin] at h
    obtain ⟨hi1, hi2, hi3⟩ := hin
    obtain ⟨z, hz, h⟩ := Option.bind_eq_some_iff.mp h
    obtain ⟨fr, hfr, h⟩ := Option.bind_eq_some_iff.mp h
    have HZ := Aside0.mk hz
    have HF := Aside0.mk hfr
    have H := Aside0.mk h
    clear h hz hfr
    obtain ⟨o, ho⟩ : ∃ o, wrap64 (wrap64 (a2 - fr) + 1) = o := ⟨_, rfl⟩
    have H2 := H.out
    rw [ho] at H2
    clear H
    by_cases hz0 : a0 = 0
    · subst hz0
      by_cases hok : 1 ≤ o ∧ o < z ∧ a1 < z
      · rw [if_pos hok] at H2
        obtain ⟨ho1, ho2, ho3⟩ := hok
        obtain ⟨u, h1, H2⟩ := Option.bind_eq_some_iff.mp H2
        obtain ⟨p, h2, H2⟩ := Option.bind_eq_some_iff.mp H2
        obtain ⟨v, h3, H2⟩ := Option.bind_eq_some_iff.mp H2
        obtain ⟨p1, p2⟩ := p
        obtain ⟨rfl, rfl⟩ := Prod.mk.inj (Option.some.inj H2)
        have G1 := Aside0.mk h1
        have G2 := Aside0.mk h2
        have G3 := Aside0.mk h3
        clear H2 h1 h2 h3
        go_enter Tryd.func73, Tryd.ntmps73
        go_wp2_with (first | (go_at_call 95; refine (mask_Decode.sizes a2 z w.heap.size _ hN HZ.out).mono ?_; rintro e w1 ⟨rfl, hb1⟩; have hc1 := pw_cell_below hb1 hN))
        all_goals go_quiet ((go_at_call 94; refine quiet_drawn (mask_front.calls _ _ _ HF.out)))
        go_wp2_with (first | (go_at_call 89; refine (bits_Low.calls _ _ _ _ G1.out).mono ?_; rintro e w2 ⟨rfl, hb2⟩) | (go_at_call 93; refine (bits_Rotate.calls _ _ _ _ _ _ _ G2.out).mono ?_; rintro e w3 ⟨rfl, hb3⟩) | (go_at_call 97; refine (mask_again.calls _ _ _ _ _ G3.out).mono ?_; rintro e w4 ⟨rfl, ⟨n4, rfl⟩⟩))
        go_ret2
        have B1 := fun n => pw_below_drewN (below_then hA1 hA1.size hb1) n
        have B2 := below_then (B1 _) (B1 _).size hb2
        exact ⟨rfl, pw_below_drewN (below_then B2 B2.size hb3) _⟩
      · rw [if_neg hok] at H2
        obtain ⟨rfl, rfl⟩ := Prod.mk.inj (Option.some.inj H2)
        clear H2
        rcases Int.lt_or_le o 1 with c1 | c1
        · go_enter Tryd.func73, Tryd.ntmps73
          go_wp2_with (first | (go_at_call 95; refine (mask_Decode.sizes a2 z w.heap.size _ hN HZ.out).mono ?_; rintro e w1 ⟨rfl, hb1⟩; have hc1 := pw_cell_below hb1 hN))
          all_goals go_quiet ((go_at_call 94; refine quiet_drawn (mask_front.calls _ _ _ HF.out)))
          all_goals go_wp2
          all_goals go_ret2
          all_goals exact ⟨rfl, pw_below_drewN (below_then hA1 hA1.size hb1) _⟩
        · rcases Int.lt_or_le o z with c2 | c2
          · have c3 : z ≤ a1 := by omega
            go_enter Tryd.func73, Tryd.ntmps73
            go_wp2_with (first | (go_at_call 95; refine (mask_Decode.sizes a2 z w.heap.size _ hN HZ.out).mono ?_; rintro e w1 ⟨rfl, hb1⟩; have hc1 := pw_cell_below hb1 hN))
            all_goals go_quiet ((go_at_call 94; refine quiet_drawn (mask_front.calls _ _ _ HF.out)))
            all_goals go_wp2
            all_goals go_ret2
            all_goals exact ⟨rfl, pw_below_drewN (below_then hA1 hA1.size hb1) _⟩
          · go_enter Tryd.func73, Tryd.ntmps73
            go_wp2_with (first | (go_at_call 95; refine (mask_Decode.sizes a2 z w.heap.size _ hN HZ.out).mono ?_; rintro e w1 ⟨rfl, hb1⟩; have hc1 := pw_cell_below hb1 hN))
            all_goals go_quiet ((go_at_call 94; refine quiet_drawn (mask_front.calls _ _ _ HF.out)))
            all_goals go_wp2
            all_goals go_ret2
            all_goals exact ⟨rfl, pw_below_drewN (below_then hA1 hA1.size hb1) _⟩
    · have hzz : ¬ a0 = 0 := hz0
      obtain rfl : z = 64 := by have := HZ.out; unfold mask_Decode.size at this; rw [if_neg hz0] at this; exact (Option.some.inj this).symm
      by_cases hok : 1 ≤ o ∧ o < 64 ∧ a1 < 64
      · rw [if_pos hok] at H2
        obtain ⟨ho1, ho2, ho3⟩ := hok
        obtain ⟨u, h1, H2⟩ := Option.bind_eq_some_iff.mp H2
        obtain ⟨p, h2, H2⟩ := Option.bind_eq_some_iff.mp H2
        obtain ⟨v, h3, H2⟩ := Option.bind_eq_some_iff.mp H2
        obtain ⟨p1, p2⟩ := p
        obtain ⟨rfl, rfl⟩ := Prod.mk.inj (Option.some.inj H2)
        have G1 := Aside0.mk h1
        have G2 := Aside0.mk h2
        have G3 := Aside0.mk h3
        clear H2 h1 h2 h3
        go_enter Tryd.func73, Tryd.ntmps73
        go_wp2
        all_goals go_quiet ((go_at_call 94; refine quiet_drawn (mask_front.calls _ _ _ HF.out)))
        go_wp2_with (first | (go_at_call 89; refine (bits_Low.calls _ _ _ _ G1.out).mono ?_; rintro e w2 ⟨rfl, hb2⟩) | (go_at_call 93; refine (bits_Rotate.calls _ _ _ _ _ _ _ G2.out).mono ?_; rintro e w3 ⟨rfl, hb3⟩) | (go_at_call 97; refine (mask_again.calls _ _ _ _ _ G3.out).mono ?_; rintro e w4 ⟨rfl, ⟨n4, rfl⟩⟩))
        go_ret2
        have B1 := fun n => pw_below_drewN hA1 n
        have B2 := below_then (B1 _) (B1 _).size hb2
        exact ⟨rfl, pw_below_drewN (below_then B2 B2.size hb3) _⟩
      · rw [if_neg hok] at H2
        obtain ⟨rfl, rfl⟩ := Prod.mk.inj (Option.some.inj H2)
        clear H2
        rcases Int.lt_or_le o 1 with c1 | c1
        · go_enter Tryd.func73, Tryd.ntmps73
          go_wp2
          all_goals go_quiet ((go_at_call 94; refine quiet_drawn (mask_front.calls _ _ _ HF.out)))
          all_goals go_wp2
          all_goals go_ret2
          all_goals exact ⟨rfl, pw_below_drewN hA1 _⟩
        · rcases Int.lt_or_le o 64 with c2 | c2
          · have c3 : 64 ≤ a1 := by omega
            go_enter Tryd.func73, Tryd.ntmps73
            go_wp2
            all_goals go_quiet ((go_at_call 94; refine quiet_drawn (mask_front.calls _ _ _ HF.out)))
            all_goals go_wp2
            all_goals go_ret2
            all_goals exact ⟨rfl, pw_below_drewN hA1 _⟩
          · go_enter Tryd.func73, Tryd.ntmps73
            go_wp2
            all_goals go_quiet ((go_at_call 94; refine quiet_drawn (mask_front.calls _ _ _ HF.out)))
            all_goals go_wp2
            all_goals go_ret2
            all_goals exact ⟨rfl, pw_below_drewN hA1 _⟩
  · have hz : m2 < 0 ∨ 1 < a0 ∨ 64 ≤ m3 := by omega
    rw [if_neg hin] at h
    obtain ⟨rfl, rfl⟩ := Prod.mk.inj (Option.some.inj h)
    clear h hin
    rcases Int.lt_or_le m2 0 with c1 | c1
    · go_enter Tryd.func73, Tryd.ntmps73
      go_wp2
      go_ret2
      exact ⟨rfl, hA _⟩
    · rcases Int.lt_or_le 1 a0 with c2 | c2
      · go_enter Tryd.func73, Tryd.ntmps73
        go_wp2
        go_ret2
        exact ⟨rfl, hA _⟩
      · have c3 : 64 ≤ m3 := by omega
        go_enter Tryd.func73, Tryd.ntmps73
        go_wp2
        go_ret2
        exact ⟨rfl, hA _⟩

-- NOT PRINTED: function 38 (inst_ops)

/-! ### inst_Shape: function 18 -/
/-- The operations' names and shapes. -/
def inst_nameL : List ByteArray := [⟨#[]⟩, ⟨#[109, 111, 118, 122]⟩, ⟨#[109, 111, 118, 110]⟩, ⟨#[109, 111, 118, 107]⟩, ⟨#[97, 100, 100]⟩, ⟨#[115, 117, 98]⟩, ⟨#[97, 100, 100, 115]⟩, ⟨#[115, 117, 98, 115]⟩, ⟨#[97, 110, 100]⟩, ⟨#[111, 114, 114]⟩, ⟨#[101, 111, 114]⟩, ⟨#[97, 110, 100, 115]⟩, ⟨#[97, 100, 100]⟩, ⟨#[115, 117, 98]⟩, ⟨#[97, 100, 100, 115]⟩, ⟨#[115, 117, 98, 115]⟩, ⟨#[97, 110, 100]⟩, ⟨#[111, 114, 114]⟩, ⟨#[101, 111, 114]⟩, ⟨#[97, 110, 100, 115]⟩, ⟨#[109, 97, 100, 100]⟩, ⟨#[109, 115, 117, 98]⟩, ⟨#[108, 100, 114]⟩, ⟨#[115, 116, 114]⟩, ⟨#[108, 100, 114, 98]⟩, ⟨#[115, 116, 114, 98]⟩, ⟨#[108, 100, 114]⟩, ⟨#[97, 100, 114]⟩, ⟨#[97, 100, 114, 112]⟩, ⟨#[98]⟩, ⟨#[98, 108]⟩, ⟨#[98]⟩, ⟨#[99, 98, 122]⟩, ⟨#[99, 98, 110, 122]⟩, ⟨#[98, 114]⟩, ⟨#[98, 108, 114]⟩, ⟨#[114, 101, 116]⟩, ⟨#[115, 118, 99]⟩, ⟨#[110, 111, 112]⟩, ⟨#[99, 115, 101, 108]⟩]
def inst_shapeL : List Int := [0, 1, 1, 1, 2, 2, 2, 2, 3, 3, 3, 3, 4, 4, 4, 4, 5, 5, 5, 5, 6, 6, 7, 7, 8, 8, 9, 10, 10, 11, 11, 12, 9, 9, 13, 13, 13, 14, 15, 16]
def inst_name (i : Nat) : ByteArray := inst_nameL.getD i ⟨#[]⟩
def inst_shape (i : Nat) : Int := inst_shapeL.getD i 0
def inst_op (i : Nat) : Value := .agg #[.string (inst_name i), .int .i64 (inst_shape i)]
def inst_cells : Array Value := #[.string ⟨#[]⟩, .int .i64 0, .string ⟨#[109, 111, 118, 122]⟩, .int .i64 1, .string ⟨#[109, 111, 118, 110]⟩, .int .i64 1, .string ⟨#[109, 111, 118, 107]⟩, .int .i64 1, .string ⟨#[97, 100, 100]⟩, .int .i64 2, .string ⟨#[115, 117, 98]⟩, .int .i64 2, .string ⟨#[97, 100, 100, 115]⟩, .int .i64 2, .string ⟨#[115, 117, 98, 115]⟩, .int .i64 2, .string ⟨#[97, 110, 100]⟩, .int .i64 3, .string ⟨#[111, 114, 114]⟩, .int .i64 3, .string ⟨#[101, 111, 114]⟩, .int .i64 3, .string ⟨#[97, 110, 100, 115]⟩, .int .i64 3, .string ⟨#[97, 100, 100]⟩, .int .i64 4, .string ⟨#[115, 117, 98]⟩, .int .i64 4, .string ⟨#[97, 100, 100, 115]⟩, .int .i64 4, .string ⟨#[115, 117, 98, 115]⟩, .int .i64 4, .string ⟨#[97, 110, 100]⟩, .int .i64 5, .string ⟨#[111, 114, 114]⟩, .int .i64 5, .string ⟨#[101, 111, 114]⟩, .int .i64 5, .string ⟨#[97, 110, 100, 115]⟩, .int .i64 5, .string ⟨#[109, 97, 100, 100]⟩, .int .i64 6, .string ⟨#[109, 115, 117, 98]⟩, .int .i64 6, .string ⟨#[108, 100, 114]⟩, .int .i64 7, .string ⟨#[115, 116, 114]⟩, .int .i64 7, .string ⟨#[108, 100, 114, 98]⟩, .int .i64 8, .string ⟨#[115, 116, 114, 98]⟩, .int .i64 8, .string ⟨#[108, 100, 114]⟩, .int .i64 9, .string ⟨#[97, 100, 114]⟩, .int .i64 10, .string ⟨#[97, 100, 114, 112]⟩, .int .i64 10, .string ⟨#[98]⟩, .int .i64 11, .string ⟨#[98, 108]⟩, .int .i64 11, .string ⟨#[98]⟩, .int .i64 12, .string ⟨#[99, 98, 122]⟩, .int .i64 9, .string ⟨#[99, 98, 110, 122]⟩, .int .i64 9, .string ⟨#[98, 114]⟩, .int .i64 13, .string ⟨#[98, 108, 114]⟩, .int .i64 13, .string ⟨#[114, 101, 116]⟩, .int .i64 13, .string ⟨#[115, 118, 99]⟩, .int .i64 14, .string ⟨#[110, 111, 112]⟩, .int .i64 15, .string ⟨#[99, 115, 101, 108]⟩, .int .i64 16]
def inst_zeros : Array Value := #[.string ⟨#[]⟩, .int .i64 0, .string ⟨#[]⟩, .int .i64 0, .string ⟨#[]⟩, .int .i64 0, .string ⟨#[]⟩, .int .i64 0, .string ⟨#[]⟩, .int .i64 0, .string ⟨#[]⟩, .int .i64 0, .string ⟨#[]⟩, .int .i64 0, .string ⟨#[]⟩, .int .i64 0, .string ⟨#[]⟩, .int .i64 0, .string ⟨#[]⟩, .int .i64 0, .string ⟨#[]⟩, .int .i64 0, .string ⟨#[]⟩, .int .i64 0, .string ⟨#[]⟩, .int .i64 0, .string ⟨#[]⟩, .int .i64 0, .string ⟨#[]⟩, .int .i64 0, .string ⟨#[]⟩, .int .i64 0, .string ⟨#[]⟩, .int .i64 0, .string ⟨#[]⟩, .int .i64 0, .string ⟨#[]⟩, .int .i64 0, .string ⟨#[]⟩, .int .i64 0, .string ⟨#[]⟩, .int .i64 0, .string ⟨#[]⟩, .int .i64 0, .string ⟨#[]⟩, .int .i64 0, .string ⟨#[]⟩, .int .i64 0, .string ⟨#[]⟩, .int .i64 0, .string ⟨#[]⟩, .int .i64 0, .string ⟨#[]⟩, .int .i64 0, .string ⟨#[]⟩, .int .i64 0, .string ⟨#[]⟩, .int .i64 0, .string ⟨#[]⟩, .int .i64 0, .string ⟨#[]⟩, .int .i64 0, .string ⟨#[]⟩, .int .i64 0, .string ⟨#[]⟩, .int .i64 0, .string ⟨#[]⟩, .int .i64 0, .string ⟨#[]⟩, .int .i64 0, .string ⟨#[]⟩, .int .i64 0, .string ⟨#[]⟩, .int .i64 0, .string ⟨#[]⟩, .int .i64 0, .string ⟨#[]⟩, .int .i64 0, .string ⟨#[]⟩, .int .i64 0]
theorem inst_zero : (Tryd.prog.info? 81).map (fun i => (i.zero, i.size)) = some (some (.agg inst_zeros), 80) := by kernel_rfl
theorem inst_cells_one : inst_cells.all (·.oneCell') = true := by decide +kernel
theorem inst_build0 (W : World) : (Instr.build 80 #[]).run Tryd.prog W = .ok (inst_op 0) W := run_build W _ _ _ (by kernel_rfl)
theorem inst_build1 (W : World) : (Instr.build 80 #[(0, .string ⟨#[109, 111, 118, 122]⟩), (1, .int .i64 1)]).run Tryd.prog W = .ok (inst_op 1) W := run_build W _ _ _ (by kernel_rfl)
theorem inst_build2 (W : World) : (Instr.build 80 #[(0, .string ⟨#[109, 111, 118, 110]⟩), (1, .int .i64 1)]).run Tryd.prog W = .ok (inst_op 2) W := run_build W _ _ _ (by kernel_rfl)
theorem inst_build3 (W : World) : (Instr.build 80 #[(0, .string ⟨#[109, 111, 118, 107]⟩), (1, .int .i64 1)]).run Tryd.prog W = .ok (inst_op 3) W := run_build W _ _ _ (by kernel_rfl)
theorem inst_build4 (W : World) : (Instr.build 80 #[(0, .string ⟨#[97, 100, 100]⟩), (1, .int .i64 2)]).run Tryd.prog W = .ok (inst_op 4) W := run_build W _ _ _ (by kernel_rfl)
theorem inst_build5 (W : World) : (Instr.build 80 #[(0, .string ⟨#[115, 117, 98]⟩), (1, .int .i64 2)]).run Tryd.prog W = .ok (inst_op 5) W := run_build W _ _ _ (by kernel_rfl)
theorem inst_build6 (W : World) : (Instr.build 80 #[(0, .string ⟨#[97, 100, 100, 115]⟩), (1, .int .i64 2)]).run Tryd.prog W = .ok (inst_op 6) W := run_build W _ _ _ (by kernel_rfl)
theorem inst_build7 (W : World) : (Instr.build 80 #[(0, .string ⟨#[115, 117, 98, 115]⟩), (1, .int .i64 2)]).run Tryd.prog W = .ok (inst_op 7) W := run_build W _ _ _ (by kernel_rfl)
theorem inst_build8 (W : World) : (Instr.build 80 #[(0, .string ⟨#[97, 110, 100]⟩), (1, .int .i64 3)]).run Tryd.prog W = .ok (inst_op 8) W := run_build W _ _ _ (by kernel_rfl)
theorem inst_build9 (W : World) : (Instr.build 80 #[(0, .string ⟨#[111, 114, 114]⟩), (1, .int .i64 3)]).run Tryd.prog W = .ok (inst_op 9) W := run_build W _ _ _ (by kernel_rfl)
theorem inst_build10 (W : World) : (Instr.build 80 #[(0, .string ⟨#[101, 111, 114]⟩), (1, .int .i64 3)]).run Tryd.prog W = .ok (inst_op 10) W := run_build W _ _ _ (by kernel_rfl)
theorem inst_build11 (W : World) : (Instr.build 80 #[(0, .string ⟨#[97, 110, 100, 115]⟩), (1, .int .i64 3)]).run Tryd.prog W = .ok (inst_op 11) W := run_build W _ _ _ (by kernel_rfl)
theorem inst_build12 (W : World) : (Instr.build 80 #[(0, .string ⟨#[97, 100, 100]⟩), (1, .int .i64 4)]).run Tryd.prog W = .ok (inst_op 12) W := run_build W _ _ _ (by kernel_rfl)
theorem inst_build13 (W : World) : (Instr.build 80 #[(0, .string ⟨#[115, 117, 98]⟩), (1, .int .i64 4)]).run Tryd.prog W = .ok (inst_op 13) W := run_build W _ _ _ (by kernel_rfl)
theorem inst_build14 (W : World) : (Instr.build 80 #[(0, .string ⟨#[97, 100, 100, 115]⟩), (1, .int .i64 4)]).run Tryd.prog W = .ok (inst_op 14) W := run_build W _ _ _ (by kernel_rfl)
theorem inst_build15 (W : World) : (Instr.build 80 #[(0, .string ⟨#[115, 117, 98, 115]⟩), (1, .int .i64 4)]).run Tryd.prog W = .ok (inst_op 15) W := run_build W _ _ _ (by kernel_rfl)
theorem inst_build16 (W : World) : (Instr.build 80 #[(0, .string ⟨#[97, 110, 100]⟩), (1, .int .i64 5)]).run Tryd.prog W = .ok (inst_op 16) W := run_build W _ _ _ (by kernel_rfl)
theorem inst_build17 (W : World) : (Instr.build 80 #[(0, .string ⟨#[111, 114, 114]⟩), (1, .int .i64 5)]).run Tryd.prog W = .ok (inst_op 17) W := run_build W _ _ _ (by kernel_rfl)
theorem inst_build18 (W : World) : (Instr.build 80 #[(0, .string ⟨#[101, 111, 114]⟩), (1, .int .i64 5)]).run Tryd.prog W = .ok (inst_op 18) W := run_build W _ _ _ (by kernel_rfl)
theorem inst_build19 (W : World) : (Instr.build 80 #[(0, .string ⟨#[97, 110, 100, 115]⟩), (1, .int .i64 5)]).run Tryd.prog W = .ok (inst_op 19) W := run_build W _ _ _ (by kernel_rfl)
theorem inst_build20 (W : World) : (Instr.build 80 #[(0, .string ⟨#[109, 97, 100, 100]⟩), (1, .int .i64 6)]).run Tryd.prog W = .ok (inst_op 20) W := run_build W _ _ _ (by kernel_rfl)
theorem inst_build21 (W : World) : (Instr.build 80 #[(0, .string ⟨#[109, 115, 117, 98]⟩), (1, .int .i64 6)]).run Tryd.prog W = .ok (inst_op 21) W := run_build W _ _ _ (by kernel_rfl)
theorem inst_build22 (W : World) : (Instr.build 80 #[(0, .string ⟨#[108, 100, 114]⟩), (1, .int .i64 7)]).run Tryd.prog W = .ok (inst_op 22) W := run_build W _ _ _ (by kernel_rfl)
theorem inst_build23 (W : World) : (Instr.build 80 #[(0, .string ⟨#[115, 116, 114]⟩), (1, .int .i64 7)]).run Tryd.prog W = .ok (inst_op 23) W := run_build W _ _ _ (by kernel_rfl)
theorem inst_build24 (W : World) : (Instr.build 80 #[(0, .string ⟨#[108, 100, 114, 98]⟩), (1, .int .i64 8)]).run Tryd.prog W = .ok (inst_op 24) W := run_build W _ _ _ (by kernel_rfl)
theorem inst_build25 (W : World) : (Instr.build 80 #[(0, .string ⟨#[115, 116, 114, 98]⟩), (1, .int .i64 8)]).run Tryd.prog W = .ok (inst_op 25) W := run_build W _ _ _ (by kernel_rfl)
theorem inst_build26 (W : World) : (Instr.build 80 #[(0, .string ⟨#[108, 100, 114]⟩), (1, .int .i64 9)]).run Tryd.prog W = .ok (inst_op 26) W := run_build W _ _ _ (by kernel_rfl)
theorem inst_build27 (W : World) : (Instr.build 80 #[(0, .string ⟨#[97, 100, 114]⟩), (1, .int .i64 10)]).run Tryd.prog W = .ok (inst_op 27) W := run_build W _ _ _ (by kernel_rfl)
theorem inst_build28 (W : World) : (Instr.build 80 #[(0, .string ⟨#[97, 100, 114, 112]⟩), (1, .int .i64 10)]).run Tryd.prog W = .ok (inst_op 28) W := run_build W _ _ _ (by kernel_rfl)
theorem inst_build29 (W : World) : (Instr.build 80 #[(0, .string ⟨#[98]⟩), (1, .int .i64 11)]).run Tryd.prog W = .ok (inst_op 29) W := run_build W _ _ _ (by kernel_rfl)
theorem inst_build30 (W : World) : (Instr.build 80 #[(0, .string ⟨#[98, 108]⟩), (1, .int .i64 11)]).run Tryd.prog W = .ok (inst_op 30) W := run_build W _ _ _ (by kernel_rfl)
theorem inst_build31 (W : World) : (Instr.build 80 #[(0, .string ⟨#[98]⟩), (1, .int .i64 12)]).run Tryd.prog W = .ok (inst_op 31) W := run_build W _ _ _ (by kernel_rfl)
theorem inst_build32 (W : World) : (Instr.build 80 #[(0, .string ⟨#[99, 98, 122]⟩), (1, .int .i64 9)]).run Tryd.prog W = .ok (inst_op 32) W := run_build W _ _ _ (by kernel_rfl)
theorem inst_build33 (W : World) : (Instr.build 80 #[(0, .string ⟨#[99, 98, 110, 122]⟩), (1, .int .i64 9)]).run Tryd.prog W = .ok (inst_op 33) W := run_build W _ _ _ (by kernel_rfl)
theorem inst_build34 (W : World) : (Instr.build 80 #[(0, .string ⟨#[98, 114]⟩), (1, .int .i64 13)]).run Tryd.prog W = .ok (inst_op 34) W := run_build W _ _ _ (by kernel_rfl)
theorem inst_build35 (W : World) : (Instr.build 80 #[(0, .string ⟨#[98, 108, 114]⟩), (1, .int .i64 13)]).run Tryd.prog W = .ok (inst_op 35) W := run_build W _ _ _ (by kernel_rfl)
theorem inst_build36 (W : World) : (Instr.build 80 #[(0, .string ⟨#[114, 101, 116]⟩), (1, .int .i64 13)]).run Tryd.prog W = .ok (inst_op 36) W := run_build W _ _ _ (by kernel_rfl)
theorem inst_build37 (W : World) : (Instr.build 80 #[(0, .string ⟨#[115, 118, 99]⟩), (1, .int .i64 14)]).run Tryd.prog W = .ok (inst_op 37) W := run_build W _ _ _ (by kernel_rfl)
theorem inst_build38 (W : World) : (Instr.build 80 #[(0, .string ⟨#[110, 111, 112]⟩), (1, .int .i64 15)]).run Tryd.prog W = .ok (inst_op 38) W := run_build W _ _ _ (by kernel_rfl)
theorem inst_build39 (W : World) : (Instr.build 80 #[(0, .string ⟨#[99, 115, 101, 108]⟩), (1, .int .i64 16)]).run Tryd.prog W = .ok (inst_op 39) W := run_build W _ _ _ (by kernel_rfl)
theorem inst_buildAll (W : World) : (Instr.build 81 #[(0, inst_op 0), (1, inst_op 1), (2, inst_op 2), (3, inst_op 3), (4, inst_op 4), (5, inst_op 5), (6, inst_op 6), (7, inst_op 7), (8, inst_op 8), (9, inst_op 9), (10, inst_op 10), (11, inst_op 11), (12, inst_op 12), (13, inst_op 13), (14, inst_op 14), (15, inst_op 15), (16, inst_op 16), (17, inst_op 17), (18, inst_op 18), (19, inst_op 19), (20, inst_op 20), (21, inst_op 21), (22, inst_op 22), (23, inst_op 23), (24, inst_op 24), (25, inst_op 25), (26, inst_op 26), (27, inst_op 27), (28, inst_op 28), (29, inst_op 29), (30, inst_op 30), (31, inst_op 31), (32, inst_op 32), (33, inst_op 33), (34, inst_op 34), (35, inst_op 35), (36, inst_op 36), (37, inst_op 37), (38, inst_op 38), (39, inst_op 39)]).run Tryd.prog W = .ok (.agg inst_cells) W := run_build W _ _ _ (by kernel_rfl)
theorem inst_cells_size : inst_cells.size = 80 := rfl
theorem inst_zeros_size : inst_zeros.size = 80 := rfl
theorem results_cell_ {P : Program} {fn : Func} {p : Tmp} {ty : TypeId} {b : Nat} {c : Array Value} {d : TypeDesc} (h : fn.results = #[.cell p ty]) (tmps : Array Value) (w : World) (ha : tmps.getD p undef = .pointer (some ⟨b, 0, none⟩))
    (hb : w.heap[b]? = some (.cells c ty (0, 0))) (hu : P.underlying ty = some d) (hd : (match d with | .array _ _ => true | .struct _ => true | _ => false) = true) (hi : (P.info? ty).map (·.size) = some c.size) : (results fn tmps).run P w = .ok (.agg c) w := by
  have hl := run_loadVar_row w b ty ty c (0, 0) d hb hu (by cases d <;> simp_all) hi
  have ha' : tmps[p]?.getD undef = .pointer (some ⟨b, 0, none⟩) := by simpa using ha
  simp [results, h, ha', asAddr, hl]
theorem heap_last_ (w : World) (o : Obj) : (w.alloc o).heap[w.heap.size]? = some o := by
  show (w.heap.push o)[w.heap.size]? = some o
  simp
attribute [-go_sem] Instr.build Instr.fill in
set_option maxHeartbeats 12800000 in
set_option maxRecDepth 100000 in
theorem inst_ops.calls (w : World) : Calls Tryd.prog 38 #[] w fun e w' => e = .returned (.agg inst_cells) ∧ Below w.heap.size w w' := by
  obtain ⟨hz, hs⟩ := zero_of_info inst_zero
  have hst := run_storeCells_new (P := Tryd.prog) w 81 inst_zeros inst_cells hs rfl inst_cells_one
  have hld := run_loadCellsFrom_new (P := Tryd.prog) w 81 inst_cells 80 rfl
  have hsz := inst_cells_size
  have hb0 := inst_build0
  have hb1 := inst_build1
  have hb2 := inst_build2
  have hb3 := inst_build3
  have hb4 := inst_build4
  have hb5 := inst_build5
  have hb6 := inst_build6
  have hb7 := inst_build7
  have hb8 := inst_build8
  have hb9 := inst_build9
  have hb10 := inst_build10
  have hb11 := inst_build11
  have hb12 := inst_build12
  have hb13 := inst_build13
  have hb14 := inst_build14
  have hb15 := inst_build15
  have hb16 := inst_build16
  have hb17 := inst_build17
  have hb18 := inst_build18
  have hb19 := inst_build19
  have hb20 := inst_build20
  have hb21 := inst_build21
  have hb22 := inst_build22
  have hb23 := inst_build23
  have hb24 := inst_build24
  have hb25 := inst_build25
  have hb26 := inst_build26
  have hb27 := inst_build27
  have hb28 := inst_build28
  have hb29 := inst_build29
  have hb30 := inst_build30
  have hb31 := inst_build31
  have hb32 := inst_build32
  have hb33 := inst_build33
  have hb34 := inst_build34
  have hb35 := inst_build35
  have hb36 := inst_build36
  have hb37 := inst_build37
  have hb38 := inst_build38
  have hb39 := inst_build39
  have hba := inst_buildAll
  go_enter Tryd.func38, Tryd.ntmps38
  go_wp2
  clear hba hb0 hb1 hb2 hb3 hb4 hb5 hb6 hb7 hb8 hb9 hb10 hb11 hb12 hb13 hb14 hb15 hb16 hb17 hb18 hb19 hb20 hb21 hb22 hb23 hb24 hb25 hb26 hb27 hb28 hb29 hb30 hb31 hb32 hb33 hb34 hb35 hb36 hb37 hb38 hb39
  refine bodyPost_ret (v := .agg inst_cells) (results_cell_ rfl _ _ rfl (heap_last_ w _) Tryd.underlying81 rfl hs) rfl ⟨rfl, (Below.refl _ _).alloc (Nat.le_refl _) _⟩
theorem inst_field0 (i : Nat) (W : World) : (Instr.field 80 (inst_op i) 0).run Tryd.prog W = .ok (.string (inst_name i)) W := by kernel_rfl
theorem inst_field1 (i : Nat) (W : World) : (Instr.field 80 (inst_op i) 1).run Tryd.prog W = .ok (.int .i64 (inst_shape i)) W := by kernel_rfl
theorem inst_index : ∀ (i : Nat) (_ : i < 40) (W : World), (Instr.index 81 (.agg inst_cells) (.int .i64 (i : Int))).run Tryd.prog W = .ok (inst_op i) W
  | 0, _, _ => by kernel_rfl
  | 1, _, _ => by kernel_rfl
  | 2, _, _ => by kernel_rfl
  | 3, _, _ => by kernel_rfl
  | 4, _, _ => by kernel_rfl
  | 5, _, _ => by kernel_rfl
  | 6, _, _ => by kernel_rfl
  | 7, _, _ => by kernel_rfl
  | 8, _, _ => by kernel_rfl
  | 9, _, _ => by kernel_rfl
  | 10, _, _ => by kernel_rfl
  | 11, _, _ => by kernel_rfl
  | 12, _, _ => by kernel_rfl
  | 13, _, _ => by kernel_rfl
  | 14, _, _ => by kernel_rfl
  | 15, _, _ => by kernel_rfl
  | 16, _, _ => by kernel_rfl
  | 17, _, _ => by kernel_rfl
  | 18, _, _ => by kernel_rfl
  | 19, _, _ => by kernel_rfl
  | 20, _, _ => by kernel_rfl
  | 21, _, _ => by kernel_rfl
  | 22, _, _ => by kernel_rfl
  | 23, _, _ => by kernel_rfl
  | 24, _, _ => by kernel_rfl
  | 25, _, _ => by kernel_rfl
  | 26, _, _ => by kernel_rfl
  | 27, _, _ => by kernel_rfl
  | 28, _, _ => by kernel_rfl
  | 29, _, _ => by kernel_rfl
  | 30, _, _ => by kernel_rfl
  | 31, _, _ => by kernel_rfl
  | 32, _, _ => by kernel_rfl
  | 33, _, _ => by kernel_rfl
  | 34, _, _ => by kernel_rfl
  | 35, _, _ => by kernel_rfl
  | 36, _, _ => by kernel_rfl
  | 37, _, _ => by kernel_rfl
  | 38, _, _ => by kernel_rfl
  | 39, _, _ => by kernel_rfl
  | i + 40, h, _ => absurd h (by omega)
theorem inst_index_int (a : Int) (h0 : 0 ≤ a) (h1 : a < 40) (W : World) : (Instr.index 81 (.agg inst_cells) (.int .i64 a)).run Tryd.prog W = .ok (inst_op a.toNat) W := by
  obtain ⟨i, rfl⟩ := Int.eq_ofNat_of_zero_le h0
  exact inst_index i (by omega) W

def inst_Shape.f (a0 : Int) : Option Int := some (if a0 < 1 then 0 else if a0 > 39 then 0 else inst_shape a0.toNat)
theorem inst_Shape.calls (a0 : Int) (r : Int) (w : World) (h : inst_Shape.f a0 = some r) :
    Calls Tryd.prog 18 #[.int .i64 a0] w fun e w' => e = .returned (.int .i64 r) ∧ Below w.heap.size w w' := by
  unfold inst_Shape.f at h
  obtain rfl := Option.some.inj h
  clear h
  by_cases h1 : a0 < 1
  · rw [if_pos h1]
    go_enter Tryd.func18, Tryd.ntmps18
    go_wp2
    go_ret
    exact ⟨rfl, Below.refl _ _⟩
  · by_cases h2 : a0 > 39
    · rw [if_neg h1, if_pos h2]
      go_enter Tryd.func18, Tryd.ntmps18
      go_wp2
      go_ret
      exact ⟨rfl, Below.refl _ _⟩
    · rw [if_neg h1, if_neg h2]
      have hi := inst_index_int a0 (by omega) (by omega)
      have hf := inst_field1
      go_enter Tryd.func18, Tryd.ntmps18
      go_wp2_with (first | (go_at_call 38; refine (inst_ops.calls _).mono ?_; rintro e w1 ⟨rfl, hb1⟩; have HB1 := Aside0.mk hb1; clear hb1))
      go_ret
      exact ⟨rfl, HB1.out⟩

/-! ### inst_shapeOf: function 29 -/
/-- What a shape's fields may be. -/
def inst_shL : List (Bool × Bool × Bool × Bool × Int × Int × Int × Int × Int × Int × Int × Bool) := [(false, false, false, false, 0, 0, 0, 0, 0, 0, 0, false), (true, false, false, false, 0, 65535, 1, 48, 16, 0, 0, false), (true, true, false, false, 0, 4095, 1, 12, 12, 0, 0, true), (true, true, false, false, 0, 0, 0, 0, 0, 0, 0, false), (true, true, true, false, 0, 0, 0, 63, 1, 2, 0, false), (true, true, true, false, 0, 0, 0, 63, 1, 3, 0, false), (true, true, true, true, 0, 0, 0, 0, 0, 0, 0, false), (true, true, false, false, 0, 32760, 8, 0, 0, 0, 0, true), (true, true, false, false, 0, 4095, 1, 0, 0, 0, 0, true), (true, false, false, false, (-1048576), 1048572, 4, 0, 0, 0, 0, false), (true, false, false, false, (-1048576), 1048575, 1, 0, 0, 0, 0, false), (false, false, false, false, (-134217728), 134217724, 4, 0, 0, 0, 0, false), (false, false, false, false, (-1048576), 1048572, 4, 0, 0, 0, 13, false), (false, true, false, false, 0, 0, 0, 0, 0, 0, 0, false), (false, false, false, false, 0, 65535, 1, 0, 0, 0, 0, false), (false, false, false, false, 0, 0, 0, 0, 0, 0, 0, false), (true, true, true, false, 0, 0, 0, 0, 0, 0, 13, false)]
def inst_sh (i : Nat) : Bool × Bool × Bool × Bool × Int × Int × Int × Int × Int × Int × Int × Bool := inst_shL.getD i (false, false, false, false, 0, 0, 0, 0, 0, 0, 0, false)
def inst_shv (t : Bool × Bool × Bool × Bool × Int × Int × Int × Int × Int × Int × Int × Bool) : Array Value := #[.bool t.1, .bool t.2.1, .bool t.2.2.1, .bool t.2.2.2.1, .int .i64 t.2.2.2.2.1, .int .i64 t.2.2.2.2.2.1, .int .i64 t.2.2.2.2.2.2.1, .int .i64 t.2.2.2.2.2.2.2.1, .int .i64 t.2.2.2.2.2.2.2.2.1, .int .i64 t.2.2.2.2.2.2.2.2.2.1, .int .i64 t.2.2.2.2.2.2.2.2.2.2.1, .bool t.2.2.2.2.2.2.2.2.2.2.2]
def inst_shz : Array Value := #[.bool false, .bool false, .bool false, .bool false, .int .i64 0, .int .i64 0, .int .i64 0, .int .i64 0, .int .i64 0, .int .i64 0, .int .i64 0, .bool false]
def inst_shAll : Array Value := #[.bool false, .bool false, .bool false, .bool false, .int .i64 0, .int .i64 0, .int .i64 0, .int .i64 0, .int .i64 0, .int .i64 0, .int .i64 0, .bool false, .bool true, .bool false, .bool false, .bool false, .int .i64 0, .int .i64 65535, .int .i64 1, .int .i64 48, .int .i64 16, .int .i64 0, .int .i64 0, .bool false, .bool true, .bool true, .bool false, .bool false, .int .i64 0, .int .i64 4095, .int .i64 1, .int .i64 12, .int .i64 12, .int .i64 0, .int .i64 0, .bool true, .bool true, .bool true, .bool false, .bool false, .int .i64 0, .int .i64 0, .int .i64 0, .int .i64 0, .int .i64 0, .int .i64 0, .int .i64 0, .bool false, .bool true, .bool true, .bool true, .bool false, .int .i64 0, .int .i64 0, .int .i64 0, .int .i64 63, .int .i64 1, .int .i64 2, .int .i64 0, .bool false, .bool true, .bool true, .bool true, .bool false, .int .i64 0, .int .i64 0, .int .i64 0, .int .i64 63, .int .i64 1, .int .i64 3, .int .i64 0, .bool false, .bool true, .bool true, .bool true, .bool true, .int .i64 0, .int .i64 0, .int .i64 0, .int .i64 0, .int .i64 0, .int .i64 0, .int .i64 0, .bool false, .bool true, .bool true, .bool false, .bool false, .int .i64 0, .int .i64 32760, .int .i64 8, .int .i64 0, .int .i64 0, .int .i64 0, .int .i64 0, .bool true, .bool true, .bool true, .bool false, .bool false, .int .i64 0, .int .i64 4095, .int .i64 1, .int .i64 0, .int .i64 0, .int .i64 0, .int .i64 0, .bool true, .bool true, .bool false, .bool false, .bool false, .int .i64 (-1048576), .int .i64 1048572, .int .i64 4, .int .i64 0, .int .i64 0, .int .i64 0, .int .i64 0, .bool false, .bool true, .bool false, .bool false, .bool false, .int .i64 (-1048576), .int .i64 1048575, .int .i64 1, .int .i64 0, .int .i64 0, .int .i64 0, .int .i64 0, .bool false, .bool false, .bool false, .bool false, .bool false, .int .i64 (-134217728), .int .i64 134217724, .int .i64 4, .int .i64 0, .int .i64 0, .int .i64 0, .int .i64 0, .bool false, .bool false, .bool false, .bool false, .bool false, .int .i64 (-1048576), .int .i64 1048572, .int .i64 4, .int .i64 0, .int .i64 0, .int .i64 0, .int .i64 13, .bool false, .bool false, .bool true, .bool false, .bool false, .int .i64 0, .int .i64 0, .int .i64 0, .int .i64 0, .int .i64 0, .int .i64 0, .int .i64 0, .bool false, .bool false, .bool false, .bool false, .bool false, .int .i64 0, .int .i64 65535, .int .i64 1, .int .i64 0, .int .i64 0, .int .i64 0, .int .i64 0, .bool false, .bool false, .bool false, .bool false, .bool false, .int .i64 0, .int .i64 0, .int .i64 0, .int .i64 0, .int .i64 0, .int .i64 0, .int .i64 0, .bool false, .bool true, .bool true, .bool true, .bool false, .int .i64 0, .int .i64 0, .int .i64 0, .int .i64 0, .int .i64 0, .int .i64 0, .int .i64 13, .bool false]
theorem inst_shzero : (Tryd.prog.info? 66).map (fun i => (i.zero, i.size)) = some (some (.agg inst_shz), 12) := by kernel_rfl
theorem inst_sh1 (W : World) : (Instr.build 66 #[(0, .bool true), (5, .int .i64 65535), (6, .int .i64 1), (7, .int .i64 48), (8, .int .i64 16)]).run Tryd.prog W = .ok (.agg (inst_shv (inst_sh 1))) W := run_build W _ _ _ (by kernel_rfl)
theorem inst_sh2 (W : World) : (Instr.build 66 #[(0, .bool true), (1, .bool true), (5, .int .i64 4095), (6, .int .i64 1), (7, .int .i64 12), (8, .int .i64 12), (11, .bool true)]).run Tryd.prog W = .ok (.agg (inst_shv (inst_sh 2))) W := run_build W _ _ _ (by kernel_rfl)
theorem inst_sh3 (W : World) : (Instr.build 66 #[(0, .bool true), (1, .bool true)]).run Tryd.prog W = .ok (.agg (inst_shv (inst_sh 3))) W := run_build W _ _ _ (by kernel_rfl)
theorem inst_sh4 (W : World) : (Instr.build 66 #[(0, .bool true), (1, .bool true), (2, .bool true), (7, .int .i64 63), (8, .int .i64 1), (9, .int .i64 2)]).run Tryd.prog W = .ok (.agg (inst_shv (inst_sh 4))) W := run_build W _ _ _ (by kernel_rfl)
theorem inst_sh5 (W : World) : (Instr.build 66 #[(0, .bool true), (1, .bool true), (2, .bool true), (7, .int .i64 63), (8, .int .i64 1), (9, .int .i64 3)]).run Tryd.prog W = .ok (.agg (inst_shv (inst_sh 5))) W := run_build W _ _ _ (by kernel_rfl)
theorem inst_sh6 (W : World) : (Instr.build 66 #[(0, .bool true), (1, .bool true), (2, .bool true), (3, .bool true)]).run Tryd.prog W = .ok (.agg (inst_shv (inst_sh 6))) W := run_build W _ _ _ (by kernel_rfl)
theorem inst_sh7 (W : World) : (Instr.build 66 #[(0, .bool true), (1, .bool true), (5, .int .i64 32760), (6, .int .i64 8), (11, .bool true)]).run Tryd.prog W = .ok (.agg (inst_shv (inst_sh 7))) W := run_build W _ _ _ (by kernel_rfl)
theorem inst_sh8 (W : World) : (Instr.build 66 #[(0, .bool true), (1, .bool true), (5, .int .i64 4095), (6, .int .i64 1), (11, .bool true)]).run Tryd.prog W = .ok (.agg (inst_shv (inst_sh 8))) W := run_build W _ _ _ (by kernel_rfl)
theorem inst_sh9 (W : World) : (Instr.build 66 #[(0, .bool true), (4, .int .i64 (-1048576)), (5, .int .i64 1048572), (6, .int .i64 4)]).run Tryd.prog W = .ok (.agg (inst_shv (inst_sh 9))) W := run_build W _ _ _ (by kernel_rfl)
theorem inst_sh10 (W : World) : (Instr.build 66 #[(0, .bool true), (4, .int .i64 (-1048576)), (5, .int .i64 1048575), (6, .int .i64 1)]).run Tryd.prog W = .ok (.agg (inst_shv (inst_sh 10))) W := run_build W _ _ _ (by kernel_rfl)
theorem inst_sh11 (W : World) : (Instr.build 66 #[(4, .int .i64 (-134217728)), (5, .int .i64 134217724), (6, .int .i64 4)]).run Tryd.prog W = .ok (.agg (inst_shv (inst_sh 11))) W := run_build W _ _ _ (by kernel_rfl)
theorem inst_sh12 (W : World) : (Instr.build 66 #[(4, .int .i64 (-1048576)), (5, .int .i64 1048572), (6, .int .i64 4), (10, .int .i64 13)]).run Tryd.prog W = .ok (.agg (inst_shv (inst_sh 12))) W := run_build W _ _ _ (by kernel_rfl)
theorem inst_sh13 (W : World) : (Instr.build 66 #[(1, .bool true)]).run Tryd.prog W = .ok (.agg (inst_shv (inst_sh 13))) W := run_build W _ _ _ (by kernel_rfl)
theorem inst_sh14 (W : World) : (Instr.build 66 #[(5, .int .i64 65535), (6, .int .i64 1)]).run Tryd.prog W = .ok (.agg (inst_shv (inst_sh 14))) W := run_build W _ _ _ (by kernel_rfl)
theorem inst_sh16 (W : World) : (Instr.build 66 #[(0, .bool true), (1, .bool true), (2, .bool true), (10, .int .i64 13)]).run Tryd.prog W = .ok (.agg (inst_shv (inst_sh 16))) W := run_build W _ _ _ (by kernel_rfl)
theorem inst_shBuild (W : World) : (Instr.build 97 #[(1, .agg (inst_shv (inst_sh 1))), (2, .agg (inst_shv (inst_sh 2))), (3, .agg (inst_shv (inst_sh 3))), (4, .agg (inst_shv (inst_sh 4))), (5, .agg (inst_shv (inst_sh 5))), (6, .agg (inst_shv (inst_sh 6))), (7, .agg (inst_shv (inst_sh 7))), (8, .agg (inst_shv (inst_sh 8))), (9, .agg (inst_shv (inst_sh 9))), (10, .agg (inst_shv (inst_sh 10))), (11, .agg (inst_shv (inst_sh 11))), (12, .agg (inst_shv (inst_sh 12))), (13, .agg (inst_shv (inst_sh 13))), (14, .agg (inst_shv (inst_sh 14))), (16, .agg (inst_shv (inst_sh 16)))]).run Tryd.prog W = .ok (.agg inst_shAll) W := run_build W _ _ _ (by kernel_rfl)
theorem inst_shIndex : ∀ (i : Nat) (_ : i < 17) (W : World), (Instr.index 97 (.agg inst_shAll) (.int .i64 (i : Int))).run Tryd.prog W = .ok (.agg (inst_shv (inst_sh i))) W
  | 0, _, _ => by kernel_rfl
  | 1, _, _ => by kernel_rfl
  | 2, _, _ => by kernel_rfl
  | 3, _, _ => by kernel_rfl
  | 4, _, _ => by kernel_rfl
  | 5, _, _ => by kernel_rfl
  | 6, _, _ => by kernel_rfl
  | 7, _, _ => by kernel_rfl
  | 8, _, _ => by kernel_rfl
  | 9, _, _ => by kernel_rfl
  | 10, _, _ => by kernel_rfl
  | 11, _, _ => by kernel_rfl
  | 12, _, _ => by kernel_rfl
  | 13, _, _ => by kernel_rfl
  | 14, _, _ => by kernel_rfl
  | 15, _, _ => by kernel_rfl
  | 16, _, _ => by kernel_rfl
  | i + 17, h, _ => absurd h (by omega)
def inst_shapeOf.f (a0 : Int) : Option (Bool × Bool × Bool × Bool × Int × Int × Int × Int × Int × Int × Int × Bool) := if 0 ≤ a0 ∧ a0 < 17 then some (inst_sh a0.toNat) else none
theorem inst_sh_load (W : World) (t : Bool × Bool × Bool × Bool × Int × Int × Int × Int × Int × Int × Int × Bool) : (loadCellsFrom ⟨W.heap.size, 0, none⟩ 0 12 #[]).run Tryd.prog (W.alloc (.cells (inst_shv t) 66)) = .ok (inst_shv t) (W.alloc (.cells (inst_shv t) 66)) := run_loadCellsFrom_new W _ _ 12 rfl
attribute [-go_sem] Instr.build Instr.fill in
set_option maxHeartbeats 12800000 in
set_option maxRecDepth 100000 in
theorem inst_shapeOf.calls (a0 : Int) (r1 : Bool) (r2 : Bool) (r3 : Bool) (r4 : Bool) (r5 : Int) (r6 : Int) (r7 : Int) (r8 : Int) (r9 : Int) (r10 : Int) (r11 : Int) (r12 : Bool) (w : World) (h : inst_shapeOf.f a0 = some (r1, r2, r3, r4, r5, r6, r7, r8, r9, r10, r11, r12)) :
    Calls Tryd.prog 29 #[.int .i64 a0] w fun e w' => e = .returned (.agg #[.bool r1, .bool r2, .bool r3, .bool r4, .int .i64 r5, .int .i64 r6, .int .i64 r7, .int .i64 r8, .int .i64 r9, .int .i64 r10, .int .i64 r11, .bool r12]) ∧ Below w.heap.size w w' := by
  unfold inst_shapeOf.f at h
  split at h
  · rename_i hh
    obtain ⟨i, rfl⟩ := Int.eq_ofNat_of_zero_le hh.1
    have e := Option.some.inj h
    rw [Int.toNat_natCast] at e
    have ev : (.agg (inst_shv (inst_sh i)) : Value) = .agg #[.bool r1, .bool r2, .bool r3, .bool r4, .int .i64 r5, .int .i64 r6, .int .i64 r7, .int .i64 r8, .int .i64 r9, .int .i64 r10, .int .i64 r11, .bool r12] := by rw [e]; rfl
    rw [← ev]
    clear ev e h
    obtain ⟨hz, hs⟩ := zero_of_info inst_shzero
    have hst := run_storeCells_new (P := Tryd.prog) w 66 inst_shz (inst_shv (inst_sh i)) hs rfl (by simp [inst_shv, Value.oneCell'])
    have hld := inst_sh_load w (inst_sh i)
    have hsz : (inst_shv (inst_sh i)).size = 12 := rfl
    have hi := inst_shIndex i (by omega)
    have hb1 := inst_sh1
    have hb2 := inst_sh2
    have hb3 := inst_sh3
    have hb4 := inst_sh4
    have hb5 := inst_sh5
    have hb6 := inst_sh6
    have hb7 := inst_sh7
    have hb8 := inst_sh8
    have hb9 := inst_sh9
    have hb10 := inst_sh10
    have hb11 := inst_sh11
    have hb12 := inst_sh12
    have hb13 := inst_sh13
    have hb14 := inst_sh14
    have hb16 := inst_sh16
    have hba := inst_shBuild
    go_enter Tryd.func29, Tryd.ntmps29
    go_wp2
    clear hba hb1 hb2 hb3 hb4 hb5 hb6 hb7 hb8 hb9 hb10 hb11 hb12 hb13 hb14 hb16
    refine bodyPost_ret (v := .agg (inst_shv (inst_sh i))) (results_cell_ rfl _ _ rfl (heap_last_ w _) Tryd.underlying66 rfl hs) rfl ⟨rfl, (Below.refl _ _).alloc (Nat.le_refl _) _⟩
  · simp at h

/-! ### inst_register: function 30 -/
def inst_register.f (a0 : Bool) (a1 : Int) : Option (Bool) := if a1 = 0 then (some true) else (if a0 = true then (if a1 > 0 then (some (decide (a1 ≤ 31))) else (some false)) else (some false))
set_option maxHeartbeats 8000000 in
set_option maxRecDepth 100000 in
theorem inst_register.calls (a0 : Bool) (a1 : Int) (r : Bool) (w : World) (h : inst_register.f a0 a1 = some r) :
    Calls Tryd.prog 30 #[.bool a0, .int .i64 a1] w fun e w' => e = .returned (.bool r) ∧ Drawn0 w w' := by
 have H : (if a1 = 0 then (some true) else (if a0 = true then (if a1 > 0 then (some (decide (a1 ≤ 31))) else (some false)) else (some false))) = some r := h
 clear h
 by_cases c3 : a1 = 0
 ·
  rw [if_pos c3] at H
  have c3b0 : (a1 == 0) = true := beq_iff_eq.mpr c3
  have c3b1 : (a1 != 0) = false := bne_eq_false_iff_eq.mpr c3
  clear c3
  obtain rfl := Option.some.inj H
  go_enter Tryd.func30, Tryd.ntmps30
  go_wp2
  go_ret
  exact ⟨by first | rfl | (simp; done) | (simp [*]; done), by repeat (first | exact Drawn0.refl _ | apply Drawn0.step)⟩
 ·
  rw [if_neg c3] at H
  have c3b0 : (a1 == 0) = false := beq_eq_false_iff_ne.mpr c3
  have c3b1 : (a1 != 0) = true := bne_iff_ne.mpr c3
  by_cases c4 : a0 = true
  ·
   subst c4
   have H1 : (if a1 > 0 then (some (decide (a1 ≤ 31))) else (some false)) = some r := by rw [if_pos rfl] at H; exact H
   clear H
   have H := H1
   clear H1
   by_cases c5 : a1 > 0
   ·
    rw [if_pos c5] at H
    have c5b0 : decide (0 < a1) = true := decide_eq_true c5
    clear c5
    obtain rfl := Option.some.inj H
    go_enter Tryd.func30, Tryd.ntmps30
    go_wp2
    go_ret
    exact ⟨by first | rfl | (simp; done) | (simp [*]; done), by repeat (first | exact Drawn0.refl _ | apply Drawn0.step)⟩
   ·
    rw [if_neg c5] at H
    have c5b0 : decide (0 < a1) = false := decide_eq_false c5
    clear c5
    obtain rfl := Option.some.inj H
    go_enter Tryd.func30, Tryd.ntmps30
    go_wp2
    go_ret
    exact ⟨by first | rfl | (simp; done) | (simp [*]; done), by repeat (first | exact Drawn0.refl _ | apply Drawn0.step)⟩
  ·
   replace c4 := Bool.eq_false_iff.mpr c4
   subst c4
   have H1 : (some false) = some r := by rw [if_neg (show ¬ (false = true) by decide)] at H; exact H
   clear H
   have H := H1
   clear H1
   obtain rfl := Option.some.inj H
   go_enter Tryd.func30, Tryd.ntmps30
   go_wp2
   go_ret
   exact ⟨by first | rfl | (simp; done) | (simp [*]; done), by repeat (first | exact Drawn0.refl _ | apply Drawn0.step)⟩

/-! ### inst_step: function 31 -/
def inst_step.f (a0 : Int) (a1 : Int) (a2 : Int) (a3 : Int) : Option (Bool) := if a3 = 0 then (some (a0 == 0)) else (if a0 ≥ a1 then (if a0 ≤ a2 then (some ((Int.tmod a0 a3) == 0)) else (some false)) else (some false))
set_option maxHeartbeats 8000000 in
set_option maxRecDepth 100000 in
theorem inst_step.calls (a0 : Int) (a1 : Int) (a2 : Int) (a3 : Int) (r : Bool) (w : World) (h : inst_step.f a0 a1 a2 a3 = some r) :
    Calls Tryd.prog 31 #[.int .i64 a0, .int .i64 a1, .int .i64 a2, .int .i64 a3] w fun e w' => e = .returned (.bool r) ∧ Drawn0 w w' := by
 have H : (if a3 = 0 then (some (a0 == 0)) else (if a0 ≥ a1 then (if a0 ≤ a2 then (some ((Int.tmod a0 a3) == 0)) else (some false)) else (some false))) = some r := h
 clear h
 by_cases c5 : a3 = 0
 ·
  rw [if_pos c5] at H
  have c5b0 : (a3 == 0) = true := beq_iff_eq.mpr c5
  have c5b1 : (a3 != 0) = false := bne_eq_false_iff_eq.mpr c5
  clear c5
  obtain rfl := Option.some.inj H
  go_enter Tryd.func31, Tryd.ntmps31
  go_wp2
  go_ret
  exact ⟨by first | rfl | (simp; done) | (simp [*]; done), by repeat (first | exact Drawn0.refl _ | apply Drawn0.step)⟩
 ·
  rw [if_neg c5] at H
  have c5b0 : (a3 == 0) = false := beq_eq_false_iff_ne.mpr c5
  have c5b1 : (a3 != 0) = true := bne_iff_ne.mpr c5
  by_cases c6 : a0 ≥ a1
  ·
   rw [if_pos c6] at H
   have c6b0 : decide (a1 ≤ a0) = true := decide_eq_true c6
   clear c6
   by_cases c7 : a0 ≤ a2
   ·
    rw [if_pos c7] at H
    have c7b0 : decide (a0 ≤ a2) = true := decide_eq_true c7
    clear c7
    obtain rfl := Option.some.inj H
    go_enter Tryd.func31, Tryd.ntmps31
    go_wp2
    go_ret
    exact ⟨by first | rfl | (simp; done) | (simp [*]; done), by repeat (first | exact Drawn0.refl _ | apply Drawn0.step)⟩
   ·
    rw [if_neg c7] at H
    have c7b0 : decide (a0 ≤ a2) = false := decide_eq_false c7
    clear c7
    obtain rfl := Option.some.inj H
    go_enter Tryd.func31, Tryd.ntmps31
    go_wp2
    go_ret
    exact ⟨by first | rfl | (simp; done) | (simp [*]; done), by repeat (first | exact Drawn0.refl _ | apply Drawn0.step)⟩
  ·
   rw [if_neg c6] at H
   have c6b0 : decide (a1 ≤ a0) = false := decide_eq_false c6
   clear c6
   obtain rfl := Option.some.inj H
   go_enter Tryd.func31, Tryd.ntmps31
   go_wp2
   go_ret
   exact ⟨by first | rfl | (simp; done) | (simp [*]; done), by repeat (first | exact Drawn0.refl _ | apply Drawn0.step)⟩

end Go.Proofs.YtkpkkjbigndnoaaDoor.P
