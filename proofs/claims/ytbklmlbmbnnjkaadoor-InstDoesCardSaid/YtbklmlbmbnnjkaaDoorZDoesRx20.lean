/- Written for this claim by a program of this session: what the claim uses of lemmas and proved contracts of Go functions. -/
import Derived.Test.YtbklmlbmbnnjkaaDoorZDoesRx0
import Derived.Test.YtbklmlbmbnnjkaaDoorZDoesRx2
import Derived.Test.YtbklmlbmbnnjkaaDoorZDoesRx5
import Derived.Test.YtbklmlbmbnnjkaaDoorZDoesRx14
import Derived.Test.YtbklmlbmbnnjkaaDoorZDoesRx4
import Derived.Test.YtbklmlbmbnnjkaaDoorZDoesRx6
import Derived.Test.YtbklmlbmbnnjkaaDoorZDoesRx10
namespace Go.Proofs.YtbklmlbmbnnjkaaDoor.R
open Go.RowKit Go.Proofs.YtbklmlbmbnnjkaaDoorW.PrintWords Go.Proofs.YtbklmlbmbnnjkaaDoorW.PrintLast Go.Proofs.YtbklmlbmbnnjkaaDoorW.PrintMore
attribute [local go_sem] max2_int min2_int max_two min_two max_three min_three max_four min_four   -- for this text's walks alone
set_option linter.unusedVariables false
set_option linter.unusedSimpArgs false
/-- May a size be it, for the third number? -/
def mask_askD.f (s size : Int) : Option Bool := if size < 64 then (mask_front.f size).bind fun f => some (decide (s ≥ f)) else some false
set_option maxHeartbeats 8000000 in
theorem mask_askD.calls (s size : Int) (r : Bool) (B : Nat) (w : World) (hc : w.cell? ⟨B, 0, none⟩ = some (.int .i64 s)) (h : mask_askD.f s size = some r) :
    Calls Tryd.prog 44 #[.int .i64 size, .pointer (some ⟨B, 0, none⟩)] w fun e w' => e = .returned (.bool r) ∧ Below w.heap.size w w' := by
  unfold mask_askD.f at h
  by_cases h64 : size < 64
  · rw [if_pos h64] at h
    obtain ⟨a, h1, h⟩ := Option.bind_eq_some_iff.mp h
    obtain rfl := Option.some.inj h
    have H1 := Aside0.mk h1
    clear h h1
    have d : decide (size < 64) = true := decide_eq_true h64
    go_enter Tryd.func44, Tryd.ntmps44
    go_wp2
    go_quiet ((go_at_call 45; refine quiet_drawn (mask_front.calls _ _ _ H1.out)))
    all_goals go_wp2
    all_goals go_ret
    exact ⟨rfl, by repeat (first | exact Below.refl _ _ | apply below_drew | apply pw_below_drewN | apply below_alloc)⟩
  · rw [if_neg h64] at h
    obtain rfl := Option.some.inj h
    clear h
    have d : decide (size < 64) = false := decide_eq_false h64
    go_enter Tryd.func44, Tryd.ntmps44
    go_wp2
    go_quiet (fail)
    all_goals go_wp2
    all_goals go_ret
    exact ⟨rfl, by repeat (first | exact Below.refl _ _ | apply below_drew | apply pw_below_drewN | apply below_alloc)⟩
set_option maxHeartbeats 8000000 in
theorem mask_Decode.sizes (v : Int) (r : Int) (B : Nat) (w : World) (hc0 : w.cell? ⟨B, 0, none⟩ = some (.int .i64 v)) (h : mask_sizes.f (mask_askD.f v) = some r) :
    Calls Tryd.prog 43 #[.func (.func 44) #[] #[.pointer (some ⟨B, 0, none⟩)]] w fun e w' => e = .returned (.int .i64 r) ∧ Below w.heap.size w w' := by
  have hb0 := Below.refl w.heap.size w
  unfold mask_sizes.f at h
  go_enter Tryd.func43, Tryd.ntmps43
  go_wp2
  refine wp_loop_rounds 8 ?_
  obtain ⟨b0, h0, h⟩ := Option.bind_eq_some_iff.mp h
  have H0 := Aside0.mk h0
  clear h0
  rw [rounds_succ]
  cases b0
  rotate_left
  · rw [if_pos rfl] at h
    obtain rfl := Option.some.inj h
    clear h
    go_wp2_with (first | (go_at_call 44; refine (mask_askD.calls v _ _ B _ hc0 H0.out).mono ?_; rintro e w1 ⟨rfl, hn1⟩; have hb1 := below_then hb0 hb0.size hn1; have hc1 := pw_cell_below hn1 hc0))
    go_ret
    exact ⟨rfl, hb1⟩
  rw [if_neg (by decide)] at h
  have H := Aside0.mk h
  clear h
  go_wp2_with (first | (go_at_call 44; refine (mask_askD.calls v _ _ B _ hc0 H0.out).mono ?_; rintro e w1 ⟨rfl, hn1⟩; have hb1 := below_then hb0 hb0.size hn1; have hc1 := pw_cell_below hn1 hc0))
  replace h := H.out
  clear H
  obtain ⟨b1, h1, h⟩ := Option.bind_eq_some_iff.mp h
  have H1 := Aside0.mk h1
  clear h1
  rw [rounds_succ]
  cases b1
  rotate_left
  · rw [if_pos rfl] at h
    obtain rfl := Option.some.inj h
    clear h
    go_wp2_with (first | (go_at_call 44; refine (mask_askD.calls v _ _ B _ hc1 H1.out).mono ?_; rintro e w2 ⟨rfl, hn2⟩; have hb2 := below_then hb1 hb1.size hn2; have hc2 := pw_cell_below hn2 hc1))
    go_ret
    exact ⟨rfl, hb2⟩
  rw [if_neg (by decide)] at h
  have H := Aside0.mk h
  clear h
  go_wp2_with (first | (go_at_call 44; refine (mask_askD.calls v _ _ B _ hc1 H1.out).mono ?_; rintro e w2 ⟨rfl, hn2⟩; have hb2 := below_then hb1 hb1.size hn2; have hc2 := pw_cell_below hn2 hc1))
  replace h := H.out
  clear H
  obtain ⟨b2, h2, h⟩ := Option.bind_eq_some_iff.mp h
  have H2 := Aside0.mk h2
  clear h2
  rw [rounds_succ]
  cases b2
  rotate_left
  · rw [if_pos rfl] at h
    obtain rfl := Option.some.inj h
    clear h
    go_wp2_with (first | (go_at_call 44; refine (mask_askD.calls v _ _ B _ hc2 H2.out).mono ?_; rintro e w3 ⟨rfl, hn3⟩; have hb3 := below_then hb2 hb2.size hn3; have hc3 := pw_cell_below hn3 hc2))
    go_ret
    exact ⟨rfl, hb3⟩
  rw [if_neg (by decide)] at h
  have H := Aside0.mk h
  clear h
  go_wp2_with (first | (go_at_call 44; refine (mask_askD.calls v _ _ B _ hc2 H2.out).mono ?_; rintro e w3 ⟨rfl, hn3⟩; have hb3 := below_then hb2 hb2.size hn3; have hc3 := pw_cell_below hn3 hc2))
  replace h := H.out
  clear H
  obtain ⟨b3, h3, h⟩ := Option.bind_eq_some_iff.mp h
  have H3 := Aside0.mk h3
  clear h3
  rw [rounds_succ]
  cases b3
  rotate_left
  · rw [if_pos rfl] at h
    obtain rfl := Option.some.inj h
    clear h
    go_wp2_with (first | (go_at_call 44; refine (mask_askD.calls v _ _ B _ hc3 H3.out).mono ?_; rintro e w4 ⟨rfl, hn4⟩; have hb4 := below_then hb3 hb3.size hn4; have hc4 := pw_cell_below hn4 hc3))
    go_ret
    exact ⟨rfl, hb4⟩
  rw [if_neg (by decide)] at h
  have H := Aside0.mk h
  clear h
  go_wp2_with (first | (go_at_call 44; refine (mask_askD.calls v _ _ B _ hc3 H3.out).mono ?_; rintro e w4 ⟨rfl, hn4⟩; have hb4 := below_then hb3 hb3.size hn4; have hc4 := pw_cell_below hn4 hc3))
  replace h := H.out
  clear H
  obtain ⟨b4, h4, h⟩ := Option.bind_eq_some_iff.mp h
  have H4 := Aside0.mk h4
  clear h4
  rw [rounds_succ]
  cases b4
  rotate_left
  · rw [if_pos rfl] at h
    obtain rfl := Option.some.inj h
    clear h
    go_wp2_with (first | (go_at_call 44; refine (mask_askD.calls v _ _ B _ hc4 H4.out).mono ?_; rintro e w5 ⟨rfl, hn5⟩; have hb5 := below_then hb4 hb4.size hn5; have hc5 := pw_cell_below hn5 hc4))
    go_ret
    exact ⟨rfl, hb5⟩
  rw [if_neg (by decide)] at h
  have H := Aside0.mk h
  clear h
  go_wp2_with (first | (go_at_call 44; refine (mask_askD.calls v _ _ B _ hc4 H4.out).mono ?_; rintro e w5 ⟨rfl, hn5⟩; have hb5 := below_then hb4 hb4.size hn5; have hc5 := pw_cell_below hn5 hc4))
  replace h := H.out
  clear H
  obtain ⟨b5, h5, h⟩ := Option.bind_eq_some_iff.mp h
  have H5 := Aside0.mk h5
  clear h5
  rw [rounds_succ]
  cases b5
  rotate_left
  · rw [if_pos rfl] at h
    obtain rfl := Option.some.inj h
    clear h
    go_wp2_with (first | (go_at_call 44; refine (mask_askD.calls v _ _ B _ hc5 H5.out).mono ?_; rintro e w6 ⟨rfl, hn6⟩; have hb6 := below_then hb5 hb5.size hn6; have hc6 := pw_cell_below hn6 hc5))
    go_ret
    exact ⟨rfl, hb6⟩
  rw [if_neg (by decide)] at h
  have H := Aside0.mk h
  clear h
  go_wp2_with (first | (go_at_call 44; refine (mask_askD.calls v _ _ B _ hc5 H5.out).mono ?_; rintro e w6 ⟨rfl, hn6⟩; have hb6 := below_then hb5 hb5.size hn6; have hc6 := pw_cell_below hn6 hc5))
  replace h := H.out
  clear H
  obtain rfl := Option.some.inj h
  rw [rounds_succ]
  go_wp2
  go_ret
  exact ⟨rfl, hb6⟩
def mask_Decode.size (a0 a2 : Int) : Option Int := if a0 = 0 then mask_sizes.f (mask_askD.f a2) else some 64
end Go.Proofs.YtbklmlbmbnnjkaaDoor.R
