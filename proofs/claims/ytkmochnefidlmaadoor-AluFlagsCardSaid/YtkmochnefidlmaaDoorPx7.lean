/- Written for this claim by a program of this session (drive.py, over the print of the kit): Lean functions with the answers of Go functions, and the proofs that the Go code comes to these answers, under no condition but the readings of the arguments that each theorem names. -/
import Derived.Test.YtkmochnefidlmaaDoorPx0
import Derived.Test.YtkmochnefidlmaaDoorPx4
namespace Go.Proofs.YtkmochnefidlmaaDoor.P
open Go.RowKit Go.Proofs.YtkmochnefidlmaaDoorW.PrintWords Go.Proofs.YtkmochnefidlmaaDoorW.PrintLast Go.Proofs.YtkmochnefidlmaaDoorW.PrintMore
attribute [local go_sem] max2_int min2_int max_two min_two max_three min_three max_four min_four   -- for this text's walks alone
set_option linter.unusedVariables false
set_option linter.unusedSimpArgs false

/-! ### flag_Holds: function 41 -/
def flag_Holds.base (c : Int) (n z cc v : Bool) : Bool := if c = 0 then z else if c = 1 then cc else if c = 2 then n else if c = 3 then v else if c = 4 then cc && !z else if c = 5 then n == v else !z && n == v
def flag_Holds.f (a0 : Int) (a1_0 : Bool) (a1_1 : Bool) (a1_2 : Bool) (a1_3 : Bool) : Option (Bool × Int) :=
  if 0 ≤ a0 ∧ a0 < 14 then some (flag_Holds.base (a0 / 2) a1_0 a1_1 a1_2 a1_3 == decide (a0 % 2 = 0), 0) else some (false, 1)
set_option maxHeartbeats 4000000 in
theorem flag_Holds.ask1 (n z c v : Bool) (w : World) : Calls Tryd.prog 46 #[.agg #[.bool n, .bool z, .bool c, .bool v]] w fun e w' =>
    e = .returned (.bool z) ∧ ∃ k, (w.alloc (.cells #[.bool n, .bool z, .bool c, .bool v] 35)).drewN k = w' := by
  cases n <;> cases z <;> cases c <;> cases v <;>
    (go_enter Tryd.func46, Tryd.ntmps46; go_wp2; (try (go_quiet (fail))); (try go_wp2); go_ret; exact ⟨rfl, by first | exact ⟨0, rfl⟩ | exact ⟨_, rfl⟩⟩)
set_option maxHeartbeats 4000000 in
theorem flag_Holds.ask2 (n z c v : Bool) (w : World) : Calls Tryd.prog 47 #[.agg #[.bool n, .bool z, .bool c, .bool v]] w fun e w' =>
    e = .returned (.bool c) ∧ ∃ k, (w.alloc (.cells #[.bool n, .bool z, .bool c, .bool v] 35)).drewN k = w' := by
  cases n <;> cases z <;> cases c <;> cases v <;>
    (go_enter Tryd.func47, Tryd.ntmps47; go_wp2; (try (go_quiet (fail))); (try go_wp2); go_ret; exact ⟨rfl, by first | exact ⟨0, rfl⟩ | exact ⟨_, rfl⟩⟩)
set_option maxHeartbeats 4000000 in
theorem flag_Holds.ask3 (n z c v : Bool) (w : World) : Calls Tryd.prog 48 #[.agg #[.bool n, .bool z, .bool c, .bool v]] w fun e w' =>
    e = .returned (.bool n) ∧ ∃ k, (w.alloc (.cells #[.bool n, .bool z, .bool c, .bool v] 35)).drewN k = w' := by
  cases n <;> cases z <;> cases c <;> cases v <;>
    (go_enter Tryd.func48, Tryd.ntmps48; go_wp2; (try (go_quiet (fail))); (try go_wp2); go_ret; exact ⟨rfl, by first | exact ⟨0, rfl⟩ | exact ⟨_, rfl⟩⟩)
set_option maxHeartbeats 4000000 in
theorem flag_Holds.ask4 (n z c v : Bool) (w : World) : Calls Tryd.prog 49 #[.agg #[.bool n, .bool z, .bool c, .bool v]] w fun e w' =>
    e = .returned (.bool v) ∧ ∃ k, (w.alloc (.cells #[.bool n, .bool z, .bool c, .bool v] 35)).drewN k = w' := by
  cases n <;> cases z <;> cases c <;> cases v <;>
    (go_enter Tryd.func49, Tryd.ntmps49; go_wp2; (try (go_quiet (fail))); (try go_wp2); go_ret; exact ⟨rfl, by first | exact ⟨0, rfl⟩ | exact ⟨_, rfl⟩⟩)
set_option maxHeartbeats 4000000 in
theorem flag_Holds.ask5 (n z c v : Bool) (w : World) : Calls Tryd.prog 50 #[.agg #[.bool n, .bool z, .bool c, .bool v]] w fun e w' =>
    e = .returned (.bool (c && !z)) ∧ ∃ k, (w.alloc (.cells #[.bool n, .bool z, .bool c, .bool v] 35)).drewN k = w' := by
  cases n <;> cases z <;> cases c <;> cases v <;>
    (go_enter Tryd.func50, Tryd.ntmps50; go_wp2; (try (go_quiet (fail))); (try go_wp2); go_ret; exact ⟨rfl, by first | exact ⟨0, rfl⟩ | exact ⟨_, rfl⟩⟩)
set_option maxHeartbeats 4000000 in
theorem flag_Holds.ask6 (n z c v : Bool) (w : World) : Calls Tryd.prog 51 #[.agg #[.bool n, .bool z, .bool c, .bool v]] w fun e w' =>
    e = .returned (.bool (n == v)) ∧ ∃ k, (w.alloc (.cells #[.bool n, .bool z, .bool c, .bool v] 35)).drewN k = w' := by
  cases n <;> cases z <;> cases c <;> cases v <;>
    (go_enter Tryd.func51, Tryd.ntmps51; go_wp2; (try (go_quiet (fail))); (try go_wp2); go_ret; exact ⟨rfl, by first | exact ⟨0, rfl⟩ | exact ⟨_, rfl⟩⟩)
set_option maxHeartbeats 4000000 in
theorem flag_Holds.ask7 (n z c v : Bool) (w : World) : Calls Tryd.prog 52 #[.agg #[.bool n, .bool z, .bool c, .bool v]] w fun e w' =>
    e = .returned (.bool (!z && n == v)) ∧ ∃ k, (w.alloc (.cells #[.bool n, .bool z, .bool c, .bool v] 35)).drewN k = w' := by
  cases n <;> cases z <;> cases c <;> cases v <;>
    (go_enter Tryd.func52, Tryd.ntmps52; go_wp2; (try (go_quiet (fail))); (try go_wp2); go_ret; exact ⟨rfl, by first | exact ⟨0, rfl⟩ | exact ⟨_, rfl⟩⟩)
set_option maxHeartbeats 8000000 in
set_option maxRecDepth 100000 in
theorem flag_Holds.at0 (a1_0 : Bool) (a1_1 : Bool) (a1_2 : Bool) (a1_3 : Bool) (w : World) :
    Calls Tryd.prog 41 #[.int .i64 0, .agg #[.bool a1_0, .bool a1_1, .bool a1_2, .bool a1_3]] w fun e w' => e = .returned (.tuple #[.bool (a1_1 == true), .int .i64 0]) ∧ Below w.heap.size w w' := by
  go_enter Tryd.func41, Tryd.ntmps41
  go_wp2
  go_region_with (go_at_call 46; refine (flag_Holds.ask1 _ _ _ _ _).mono ?_; rintro e w1 ⟨rfl, k, rfl⟩)
  all_goals go_wp2
  all_goals go_ret2
  all_goals refine ⟨by simp [Act.put], ?_⟩
  all_goals repeat (first | exact Below.refl _ _ | apply below_drew | apply pw_below_drewN | apply below_alloc)
set_option maxHeartbeats 8000000 in
set_option maxRecDepth 100000 in
theorem flag_Holds.at1 (a1_0 : Bool) (a1_1 : Bool) (a1_2 : Bool) (a1_3 : Bool) (w : World) :
    Calls Tryd.prog 41 #[.int .i64 1, .agg #[.bool a1_0, .bool a1_1, .bool a1_2, .bool a1_3]] w fun e w' => e = .returned (.tuple #[.bool (a1_1 == false), .int .i64 0]) ∧ Below w.heap.size w w' := by
  go_enter Tryd.func41, Tryd.ntmps41
  go_wp2
  go_region_with (go_at_call 46; refine (flag_Holds.ask1 _ _ _ _ _).mono ?_; rintro e w1 ⟨rfl, k, rfl⟩)
  all_goals go_wp2
  all_goals go_ret2
  all_goals refine ⟨by simp [Act.put], ?_⟩
  all_goals repeat (first | exact Below.refl _ _ | apply below_drew | apply pw_below_drewN | apply below_alloc)
set_option maxHeartbeats 8000000 in
set_option maxRecDepth 100000 in
theorem flag_Holds.at2 (a1_0 : Bool) (a1_1 : Bool) (a1_2 : Bool) (a1_3 : Bool) (w : World) :
    Calls Tryd.prog 41 #[.int .i64 2, .agg #[.bool a1_0, .bool a1_1, .bool a1_2, .bool a1_3]] w fun e w' => e = .returned (.tuple #[.bool (a1_2 == true), .int .i64 0]) ∧ Below w.heap.size w w' := by
  go_enter Tryd.func41, Tryd.ntmps41
  go_wp2
  go_region_with (go_at_call 47; refine (flag_Holds.ask2 _ _ _ _ _).mono ?_; rintro e w1 ⟨rfl, k, rfl⟩)
  all_goals go_wp2
  all_goals go_ret2
  all_goals refine ⟨by simp [Act.put], ?_⟩
  all_goals repeat (first | exact Below.refl _ _ | apply below_drew | apply pw_below_drewN | apply below_alloc)
set_option maxHeartbeats 8000000 in
set_option maxRecDepth 100000 in
theorem flag_Holds.at3 (a1_0 : Bool) (a1_1 : Bool) (a1_2 : Bool) (a1_3 : Bool) (w : World) :
    Calls Tryd.prog 41 #[.int .i64 3, .agg #[.bool a1_0, .bool a1_1, .bool a1_2, .bool a1_3]] w fun e w' => e = .returned (.tuple #[.bool (a1_2 == false), .int .i64 0]) ∧ Below w.heap.size w w' := by
  go_enter Tryd.func41, Tryd.ntmps41
  go_wp2
  go_region_with (go_at_call 47; refine (flag_Holds.ask2 _ _ _ _ _).mono ?_; rintro e w1 ⟨rfl, k, rfl⟩)
  all_goals go_wp2
  all_goals go_ret2
  all_goals refine ⟨by simp [Act.put], ?_⟩
  all_goals repeat (first | exact Below.refl _ _ | apply below_drew | apply pw_below_drewN | apply below_alloc)
set_option maxHeartbeats 8000000 in
set_option maxRecDepth 100000 in
theorem flag_Holds.at4 (a1_0 : Bool) (a1_1 : Bool) (a1_2 : Bool) (a1_3 : Bool) (w : World) :
    Calls Tryd.prog 41 #[.int .i64 4, .agg #[.bool a1_0, .bool a1_1, .bool a1_2, .bool a1_3]] w fun e w' => e = .returned (.tuple #[.bool (a1_0 == true), .int .i64 0]) ∧ Below w.heap.size w w' := by
  go_enter Tryd.func41, Tryd.ntmps41
  go_wp2
  go_region_with (go_at_call 48; refine (flag_Holds.ask3 _ _ _ _ _).mono ?_; rintro e w1 ⟨rfl, k, rfl⟩)
  all_goals go_wp2
  all_goals go_ret2
  all_goals refine ⟨by simp [Act.put], ?_⟩
  all_goals repeat (first | exact Below.refl _ _ | apply below_drew | apply pw_below_drewN | apply below_alloc)
set_option maxHeartbeats 8000000 in
set_option maxRecDepth 100000 in
theorem flag_Holds.at5 (a1_0 : Bool) (a1_1 : Bool) (a1_2 : Bool) (a1_3 : Bool) (w : World) :
    Calls Tryd.prog 41 #[.int .i64 5, .agg #[.bool a1_0, .bool a1_1, .bool a1_2, .bool a1_3]] w fun e w' => e = .returned (.tuple #[.bool (a1_0 == false), .int .i64 0]) ∧ Below w.heap.size w w' := by
  go_enter Tryd.func41, Tryd.ntmps41
  go_wp2
  go_region_with (go_at_call 48; refine (flag_Holds.ask3 _ _ _ _ _).mono ?_; rintro e w1 ⟨rfl, k, rfl⟩)
  all_goals go_wp2
  all_goals go_ret2
  all_goals refine ⟨by simp [Act.put], ?_⟩
  all_goals repeat (first | exact Below.refl _ _ | apply below_drew | apply pw_below_drewN | apply below_alloc)
set_option maxHeartbeats 8000000 in
set_option maxRecDepth 100000 in
theorem flag_Holds.at6 (a1_0 : Bool) (a1_1 : Bool) (a1_2 : Bool) (a1_3 : Bool) (w : World) :
    Calls Tryd.prog 41 #[.int .i64 6, .agg #[.bool a1_0, .bool a1_1, .bool a1_2, .bool a1_3]] w fun e w' => e = .returned (.tuple #[.bool (a1_3 == true), .int .i64 0]) ∧ Below w.heap.size w w' := by
  go_enter Tryd.func41, Tryd.ntmps41
  go_wp2
  go_region_with (go_at_call 49; refine (flag_Holds.ask4 _ _ _ _ _).mono ?_; rintro e w1 ⟨rfl, k, rfl⟩)
  all_goals go_wp2
  all_goals go_ret2
  all_goals refine ⟨by simp [Act.put], ?_⟩
  all_goals repeat (first | exact Below.refl _ _ | apply below_drew | apply pw_below_drewN | apply below_alloc)
set_option maxHeartbeats 8000000 in
set_option maxRecDepth 100000 in
theorem flag_Holds.at7 (a1_0 : Bool) (a1_1 : Bool) (a1_2 : Bool) (a1_3 : Bool) (w : World) :
    Calls Tryd.prog 41 #[.int .i64 7, .agg #[.bool a1_0, .bool a1_1, .bool a1_2, .bool a1_3]] w fun e w' => e = .returned (.tuple #[.bool (a1_3 == false), .int .i64 0]) ∧ Below w.heap.size w w' := by
  go_enter Tryd.func41, Tryd.ntmps41
  go_wp2
  go_region_with (go_at_call 49; refine (flag_Holds.ask4 _ _ _ _ _).mono ?_; rintro e w1 ⟨rfl, k, rfl⟩)
  all_goals go_wp2
  all_goals go_ret2
  all_goals refine ⟨by simp [Act.put], ?_⟩
  all_goals repeat (first | exact Below.refl _ _ | apply below_drew | apply pw_below_drewN | apply below_alloc)
set_option maxHeartbeats 8000000 in
set_option maxRecDepth 100000 in
theorem flag_Holds.at8 (a1_0 : Bool) (a1_1 : Bool) (a1_2 : Bool) (a1_3 : Bool) (w : World) :
    Calls Tryd.prog 41 #[.int .i64 8, .agg #[.bool a1_0, .bool a1_1, .bool a1_2, .bool a1_3]] w fun e w' => e = .returned (.tuple #[.bool ((a1_2 && !a1_1) == true), .int .i64 0]) ∧ Below w.heap.size w w' := by
  go_enter Tryd.func41, Tryd.ntmps41
  go_wp2
  go_region_with (go_at_call 50; refine (flag_Holds.ask5 _ _ _ _ _).mono ?_; rintro e w1 ⟨rfl, k, rfl⟩)
  all_goals go_wp2
  all_goals go_ret2
  all_goals refine ⟨by simp [Act.put], ?_⟩
  all_goals repeat (first | exact Below.refl _ _ | apply below_drew | apply pw_below_drewN | apply below_alloc)
set_option maxHeartbeats 8000000 in
set_option maxRecDepth 100000 in
theorem flag_Holds.at9 (a1_0 : Bool) (a1_1 : Bool) (a1_2 : Bool) (a1_3 : Bool) (w : World) :
    Calls Tryd.prog 41 #[.int .i64 9, .agg #[.bool a1_0, .bool a1_1, .bool a1_2, .bool a1_3]] w fun e w' => e = .returned (.tuple #[.bool ((a1_2 && !a1_1) == false), .int .i64 0]) ∧ Below w.heap.size w w' := by
  go_enter Tryd.func41, Tryd.ntmps41
  go_wp2
  go_region_with (go_at_call 50; refine (flag_Holds.ask5 _ _ _ _ _).mono ?_; rintro e w1 ⟨rfl, k, rfl⟩)
  all_goals go_wp2
  all_goals go_ret2
  all_goals refine ⟨by simp [Act.put], ?_⟩
  all_goals repeat (first | exact Below.refl _ _ | apply below_drew | apply pw_below_drewN | apply below_alloc)
set_option maxHeartbeats 8000000 in
set_option maxRecDepth 100000 in
theorem flag_Holds.at10 (a1_0 : Bool) (a1_1 : Bool) (a1_2 : Bool) (a1_3 : Bool) (w : World) :
    Calls Tryd.prog 41 #[.int .i64 10, .agg #[.bool a1_0, .bool a1_1, .bool a1_2, .bool a1_3]] w fun e w' => e = .returned (.tuple #[.bool ((a1_0 == a1_3) == true), .int .i64 0]) ∧ Below w.heap.size w w' := by
  go_enter Tryd.func41, Tryd.ntmps41
  go_wp2
  go_region_with (go_at_call 51; refine (flag_Holds.ask6 _ _ _ _ _).mono ?_; rintro e w1 ⟨rfl, k, rfl⟩)
  all_goals go_wp2
  all_goals go_ret2
  all_goals refine ⟨by simp [Act.put], ?_⟩
  all_goals repeat (first | exact Below.refl _ _ | apply below_drew | apply pw_below_drewN | apply below_alloc)
set_option maxHeartbeats 8000000 in
set_option maxRecDepth 100000 in
theorem flag_Holds.at11 (a1_0 : Bool) (a1_1 : Bool) (a1_2 : Bool) (a1_3 : Bool) (w : World) :
    Calls Tryd.prog 41 #[.int .i64 11, .agg #[.bool a1_0, .bool a1_1, .bool a1_2, .bool a1_3]] w fun e w' => e = .returned (.tuple #[.bool ((a1_0 == a1_3) == false), .int .i64 0]) ∧ Below w.heap.size w w' := by
  go_enter Tryd.func41, Tryd.ntmps41
  go_wp2
  go_region_with (go_at_call 51; refine (flag_Holds.ask6 _ _ _ _ _).mono ?_; rintro e w1 ⟨rfl, k, rfl⟩)
  all_goals go_wp2
  all_goals go_ret2
  all_goals refine ⟨by simp [Act.put], ?_⟩
  all_goals repeat (first | exact Below.refl _ _ | apply below_drew | apply pw_below_drewN | apply below_alloc)
set_option maxHeartbeats 8000000 in
set_option maxRecDepth 100000 in
theorem flag_Holds.at12 (a1_0 : Bool) (a1_1 : Bool) (a1_2 : Bool) (a1_3 : Bool) (w : World) :
    Calls Tryd.prog 41 #[.int .i64 12, .agg #[.bool a1_0, .bool a1_1, .bool a1_2, .bool a1_3]] w fun e w' => e = .returned (.tuple #[.bool ((!a1_1 && a1_0 == a1_3) == true), .int .i64 0]) ∧ Below w.heap.size w w' := by
  go_enter Tryd.func41, Tryd.ntmps41
  go_wp2
  go_region_with (go_at_call 52; refine (flag_Holds.ask7 _ _ _ _ _).mono ?_; rintro e w1 ⟨rfl, k, rfl⟩)
  all_goals go_wp2
  all_goals go_ret2
  all_goals refine ⟨by simp [Act.put], ?_⟩
  all_goals repeat (first | exact Below.refl _ _ | apply below_drew | apply pw_below_drewN | apply below_alloc)
set_option maxHeartbeats 8000000 in
set_option maxRecDepth 100000 in
theorem flag_Holds.at13 (a1_0 : Bool) (a1_1 : Bool) (a1_2 : Bool) (a1_3 : Bool) (w : World) :
    Calls Tryd.prog 41 #[.int .i64 13, .agg #[.bool a1_0, .bool a1_1, .bool a1_2, .bool a1_3]] w fun e w' => e = .returned (.tuple #[.bool ((!a1_1 && a1_0 == a1_3) == false), .int .i64 0]) ∧ Below w.heap.size w w' := by
  go_enter Tryd.func41, Tryd.ntmps41
  go_wp2
  go_region_with (go_at_call 52; refine (flag_Holds.ask7 _ _ _ _ _).mono ?_; rintro e w1 ⟨rfl, k, rfl⟩)
  all_goals go_wp2
  all_goals go_ret2
  all_goals refine ⟨by simp [Act.put], ?_⟩
  all_goals repeat (first | exact Below.refl _ _ | apply below_drew | apply pw_below_drewN | apply below_alloc)
set_option maxHeartbeats 8000000 in
set_option maxRecDepth 100000 in
theorem flag_Holds.calls (a0 : Int) (a1_0 : Bool) (a1_1 : Bool) (a1_2 : Bool) (a1_3 : Bool) (r1 : Bool) (r2 : Int) (w : World) (h : flag_Holds.f a0 a1_0 a1_1 a1_2 a1_3 = some (r1, r2)) :
    Calls Tryd.prog 41 #[.int .i64 a0, .agg #[.bool a1_0, .bool a1_1, .bool a1_2, .bool a1_3]] w fun e w' => e = .returned (.tuple #[.bool r1, .int .i64 r2]) ∧ Below w.heap.size w w' := by
  by_cases hc : 0 ≤ a0 ∧ a0 < 14
  · rw [flag_Holds.f, if_pos hc] at h
    simp only [Option.some.injEq, Prod.mk.injEq] at h
    obtain ⟨rfl, rfl⟩ := h
    have : a0 = 0 ∨ a0 = 1 ∨ a0 = 2 ∨ a0 = 3 ∨ a0 = 4 ∨ a0 = 5 ∨ a0 = 6 ∨ a0 = 7 ∨ a0 = 8 ∨ a0 = 9 ∨ a0 = 10 ∨ a0 = 11 ∨ a0 = 12 ∨ a0 = 13 := by omega
    rcases this with rfl | rfl | rfl | rfl | rfl | rfl | rfl | rfl | rfl | rfl | rfl | rfl | rfl | rfl
    · exact flag_Holds.at0 _ _ _ _ _
    · exact flag_Holds.at1 _ _ _ _ _
    · exact flag_Holds.at2 _ _ _ _ _
    · exact flag_Holds.at3 _ _ _ _ _
    · exact flag_Holds.at4 _ _ _ _ _
    · exact flag_Holds.at5 _ _ _ _ _
    · exact flag_Holds.at6 _ _ _ _ _
    · exact flag_Holds.at7 _ _ _ _ _
    · exact flag_Holds.at8 _ _ _ _ _
    · exact flag_Holds.at9 _ _ _ _ _
    · exact flag_Holds.at10 _ _ _ _ _
    · exact flag_Holds.at11 _ _ _ _ _
    · exact flag_Holds.at12 _ _ _ _ _
    · exact flag_Holds.at13 _ _ _ _ _
  · rw [flag_Holds.f, if_neg hc] at h
    simp only [Option.some.injEq, Prod.mk.injEq] at h
    obtain ⟨rfl, rfl⟩ := h
    by_cases h0 : a0 < 0
    · go_enter Tryd.func41, Tryd.ntmps41
      go_wp2
      go_ret2
      exact ⟨rfl, by repeat (first | exact Below.refl _ _ | apply below_drew | apply pw_below_drewN | apply below_alloc)⟩
    · have h1 : 14 ≤ a0 := by omega
      clear hc
      go_enter Tryd.func41, Tryd.ntmps41
      go_wp2
      go_ret2
      exact ⟨rfl, by repeat (first | exact Below.refl _ _ | apply below_drew | apply pw_below_drewN | apply below_alloc)⟩

/-! ### alu_worker_csel: function 32 -/
def alu_worker_csel.f (a0_0 : Int) (a0_1 : Int) (a0_2 : Int) (a0_3 : Int) (a0_4 : Int) (a0_5 : Int) (a0_6 : Int) (a0_7 : Int) (a0_8 : Int) (a0_9 : Int) (a0_10 : Int) (a0_11 : Int) (a0_12 : Int) (a0_13 : Int) (a0_14 : Bool) (a0_15 : Bool) (a0_16 : Bool) (a0_17 : Bool) : Option (Int × Bool × Bool × Bool × Bool) := (flag_Holds.f a0_9 a0_14 a0_15 a0_16 a0_17).bind fun bt175 => (if bt175.1 = true then (some (a0_11, a0_14, a0_15, a0_16, a0_17)) else (some (a0_12, a0_14, a0_15, a0_16, a0_17)))
set_option maxHeartbeats 8000000 in
set_option maxRecDepth 100000 in
theorem alu_worker_csel.calls (a0_0 : Int) (a0_1 : Int) (a0_2 : Int) (a0_3 : Int) (a0_4 : Int) (a0_5 : Int) (a0_6 : Int) (a0_7 : Int) (a0_8 : Int) (a0_9 : Int) (a0_10 : Int) (a0_11 : Int) (a0_12 : Int) (a0_13 : Int) (a0_14 : Bool) (a0_15 : Bool) (a0_16 : Bool) (a0_17 : Bool) (r1 : Int) (r2 : Bool) (r3 : Bool) (r4 : Bool) (r5 : Bool) (w : World) (h : alu_worker_csel.f a0_0 a0_1 a0_2 a0_3 a0_4 a0_5 a0_6 a0_7 a0_8 a0_9 a0_10 a0_11 a0_12 a0_13 a0_14 a0_15 a0_16 a0_17 = some (r1, r2, r3, r4, r5)) :
    Calls Tryd.prog 32 #[.agg #[.int .i64 a0_0, .int .i64 a0_1, .int .i64 a0_2, .int .i64 a0_3, .int .i64 a0_4, .int .i64 a0_5, .int .u64 a0_6, .int .i64 a0_7, .int .i64 a0_8, .int .i64 a0_9, .int .u64 a0_10, .int .u64 a0_11, .int .u64 a0_12, .int .u64 a0_13, .bool a0_14, .bool a0_15, .bool a0_16, .bool a0_17]] w fun e w' => e = .returned (.tuple #[.int .u64 r1, .agg #[.bool r2, .bool r3, .bool r4, .bool r5]]) ∧ Below w.heap.size w w' := by
 have hu49 := Tryd.underlying49
 have hu35 := Tryd.underlying35
 have HB := Aside0.mk (Below.refl w.heap.size w)
 have H : ((flag_Holds.f a0_9 a0_14 a0_15 a0_16 a0_17).bind fun bt175 => (if bt175.1 = true then (some (a0_11, a0_14, a0_15, a0_16, a0_17)) else (some (a0_12, a0_14, a0_15, a0_16, a0_17)))) = some (r1, r2, r3, r4, r5) := h
 clear h
 replace H := Option.bind_eq_some_iff.mp H
 obtain ⟨⟨t175, t176⟩, A20, H⟩ := H
 replace H : (if t175 = true then (some (a0_11, a0_14, a0_15, a0_16, a0_17)) else (some (a0_12, a0_14, a0_15, a0_16, a0_17))) = some (r1, r2, r3, r4, r5) := H
 have A2 := Aside0.mk A20
 clear A20
 by_cases c3 : t175 = true
 ·
  subst c3
  have H1 : (some (a0_11, a0_14, a0_15, a0_16, a0_17)) = some (r1, r2, r3, r4, r5) := by rw [if_pos rfl] at H; exact H
  clear H
  have H := H1
  clear H1
  simp only [Option.some.injEq, Prod.mk.injEq] at H
  obtain ⟨rfl, rfl, rfl, rfl, rfl⟩ := H
  go_enter Tryd.func32, Tryd.ntmps32
  try go_wp2_with (first | ((with_reducible refine gate_dst (N := 1) rfl ?_); refine box_event ?hg (N := 1) ?hd (cs := #[.int .i64 a0_0, .int .i64 a0_1, .int .i64 a0_2, .int .i64 a0_3, .int .i64 a0_4, .int .i64 a0_5, .int .u64 a0_6, .int .i64 a0_7, .int .i64 a0_8, .int .i64 a0_9, .int .u64 a0_10, .int .u64 a0_11, .int .u64 a0_12, .int .u64 a0_13, .bool a0_14, .bool a0_15, .bool a0_16, .bool a0_17]) (t := 49) ?hr ?_; (case hd => rfl); (case hg => rfl); (case hr => first | (go_simp; done) | (go_simp; rfl)); intro gb173 hg w4 hbox hb; have n0_ := Aside0.mk (below_step (by repeat (first | (with_reducible first | exact HB.out | apply below_alloc | apply pw_below_drewN | apply below_drew1) | exact HB.out)) hb); have n1_ := Aside0.mk (hbox); have n2_ := Aside0.mk ((by rw [hg]; exact (below_size (by repeat (first | (with_reducible first | exact HB.out | apply below_alloc | apply pw_below_drewN | apply below_drew1) | exact HB.out))) : w.heap.size ≤ gb173)); have n3_ := Aside0.mk ((by rw [hg]; exact (below_size (by repeat (first | (with_reducible first | exact HB.out | apply below_alloc | apply pw_below_drewN | apply below_drew1) | exact HB.out))) : w.heap.size ≤ gb173)); clear HB; have HB := n0_; have BK173 := n1_; have GW173 := n2_; have GE173 := n3_; clear n0_ n1_ n2_ n3_; clear hb hbox hg) | ((with_reducible refine gate_dst (N := 3) rfl ?_); refine box_event ?hg (N := 3) ?hd (cs := #[.bool false, .bool false, .bool false, .bool false]) (t := 35) ?hr ?_; (case hd => rfl); (case hg => rfl); (case hr => first | (go_simp; done) | (go_simp; rfl)); intro gb174 hg w5 hbox hb; have n0_ := Aside0.mk (blk_below (g := gb173) (o := .cells #[.int .i64 a0_0, .int .i64 a0_1, .int .i64 a0_2, .int .i64 a0_3, .int .i64 a0_4, .int .i64 a0_5, .int .u64 a0_6, .int .i64 a0_7, .int .i64 a0_8, .int .i64 a0_9, .int .u64 a0_10, .int .u64 a0_11, .int .u64 a0_12, .int .u64 a0_13, .bool a0_14, .bool a0_15, .bool a0_16, .bool a0_17] 49 (0, 0)) (by (with_reducible repeat (first | refine blk_drewN ?_ _ | refine blk_drew ?_ | refine blk_alloc ?_ _)); exact BK173.out) hb); have n1_ := Aside0.mk (below_step (by repeat (first | (with_reducible first | exact HB.out | apply below_alloc | apply pw_below_drewN | apply below_drew1 | refine below_set ?_ GE173.out) | exact HB.out)) hb); have n2_ := Aside0.mk (hbox); have n3_ := Aside0.mk ((by rw [hg]; exact (below_size (by repeat (first | (with_reducible first | exact HB.out | apply below_alloc | apply pw_below_drewN | apply below_drew1 | refine below_set ?_ GE173.out) | exact HB.out))) : w.heap.size ≤ gb174)); have n4_ := Aside0.mk ((by rw [hg]; exact (below_size (by repeat (first | (with_reducible first | exact HB.out | apply below_alloc | apply pw_below_drewN | apply below_drew1 | refine below_set ?_ GE173.out) | exact HB.out))) : w.heap.size ≤ gb174)); have n5_ := Aside0.mk ((by rw [hg]; exact Nat.ne_of_lt (blk_lt (g := gb173) (o := .cells #[.int .i64 a0_0, .int .i64 a0_1, .int .i64 a0_2, .int .i64 a0_3, .int .i64 a0_4, .int .i64 a0_5, .int .u64 a0_6, .int .i64 a0_7, .int .i64 a0_8, .int .i64 a0_9, .int .u64 a0_10, .int .u64 a0_11, .int .u64 a0_12, .int .u64 a0_13, .bool a0_14, .bool a0_15, .bool a0_16, .bool a0_17] 49 (0, 0)) (by (with_reducible repeat (first | refine blk_drewN ?_ _ | refine blk_drew ?_ | refine blk_alloc ?_ _)); exact BK173.out)) : gb173 ≠ gb174)); have n6_ := Aside0.mk ((by rw [hg]; exact Nat.ne_of_gt (blk_lt (g := gb173) (o := .cells #[.int .i64 a0_0, .int .i64 a0_1, .int .i64 a0_2, .int .i64 a0_3, .int .i64 a0_4, .int .i64 a0_5, .int .u64 a0_6, .int .i64 a0_7, .int .i64 a0_8, .int .i64 a0_9, .int .u64 a0_10, .int .u64 a0_11, .int .u64 a0_12, .int .u64 a0_13, .bool a0_14, .bool a0_15, .bool a0_16, .bool a0_17] 49 (0, 0)) (by (with_reducible repeat (first | refine blk_drewN ?_ _ | refine blk_drew ?_ | refine blk_alloc ?_ _)); exact BK173.out)) : gb174 ≠ gb173)); clear BK173; clear HB; have BK173 := n0_; have HB := n1_; have BK174 := n2_; have GW174 := n3_; have GE174 := n4_; have NB173_174 := n5_; have NB174_173 := n6_; clear n0_ n1_ n2_ n3_ n4_ n5_ n6_; clear hb hbox hg; have hnb6 := NB173_174.out; have hnc6 := NB174_173.out; have hcz7_0 : w5.cell? ⟨gb173, 0, none⟩ = some (.int .i64 a0_0) := (blk_cell BK173.out 0).trans rfl; have hcz7_1 : w5.cell? ⟨gb173, 1, none⟩ = some (.int .i64 a0_1) := (blk_cell BK173.out 1).trans rfl; have hcz7_2 : w5.cell? ⟨gb173, 2, none⟩ = some (.int .i64 a0_2) := (blk_cell BK173.out 2).trans rfl; have hcz7_3 : w5.cell? ⟨gb173, 3, none⟩ = some (.int .i64 a0_3) := (blk_cell BK173.out 3).trans rfl; have hcz7_4 : w5.cell? ⟨gb173, 4, none⟩ = some (.int .i64 a0_4) := (blk_cell BK173.out 4).trans rfl; have hcz7_5 : w5.cell? ⟨gb173, 5, none⟩ = some (.int .i64 a0_5) := (blk_cell BK173.out 5).trans rfl; have hcz7_6 : w5.cell? ⟨gb173, 6, none⟩ = some (.int .u64 a0_6) := (blk_cell BK173.out 6).trans rfl; have hcz7_7 : w5.cell? ⟨gb173, 7, none⟩ = some (.int .i64 a0_7) := (blk_cell BK173.out 7).trans rfl; have hcz7_8 : w5.cell? ⟨gb173, 8, none⟩ = some (.int .i64 a0_8) := (blk_cell BK173.out 8).trans rfl; have hcz7_9 : w5.cell? ⟨gb173, 9, none⟩ = some (.int .i64 a0_9) := (blk_cell BK173.out 9).trans rfl; have hcz7_10 : w5.cell? ⟨gb173, 10, none⟩ = some (.int .u64 a0_10) := (blk_cell BK173.out 10).trans rfl; have hcz7_11 : w5.cell? ⟨gb173, 11, none⟩ = some (.int .u64 a0_11) := (blk_cell BK173.out 11).trans rfl; have hcz7_12 : w5.cell? ⟨gb173, 12, none⟩ = some (.int .u64 a0_12) := (blk_cell BK173.out 12).trans rfl; have hcz7_13 : w5.cell? ⟨gb173, 13, none⟩ = some (.int .u64 a0_13) := (blk_cell BK173.out 13).trans rfl; have hcz7_14 : w5.cell? ⟨gb173, 14, none⟩ = some (.bool a0_14) := (blk_cell BK173.out 14).trans rfl; have hcz7_15 : w5.cell? ⟨gb173, 15, none⟩ = some (.bool a0_15) := (blk_cell BK173.out 15).trans rfl; have hcz7_16 : w5.cell? ⟨gb173, 16, none⟩ = some (.bool a0_16) := (blk_cell BK173.out 16).trans rfl; have hcz7_17 : w5.cell? ⟨gb173, 17, none⟩ = some (.bool a0_17) := (blk_cell BK173.out 17).trans rfl; have hfz7_0 := fun j => blk_frozen BK173.out j) | ((with_reducible refine gate_callee (f := 41) rfl ?_); refine goesL_ (some 12) rfl rfl Tryd.func41 (by kernel_rfl) rfl #[.int .i64 a0_9, .agg #[.bool a0_14, .bool a0_15, .bool a0_16, .bool a0_17]] rfl (by (try simp only [List.map_toArray, List.map_cons, List.map_nil]); first | done | rfl | (simp only [List.length_drop, List.length_take]; rfl)) ?_; (with_reducible refine (flag_Holds.calls a0_9 a0_14 a0_15 a0_16 a0_17 true t176 _ A2.out).mono ?_); rintro e w8 ⟨rfl, hb⟩; refine ⟨_, rfl, ?_⟩; have n0_ := Aside0.mk (blk_below (g := gb173) (o := .cells #[.int .i64 a0_0, .int .i64 a0_1, .int .i64 a0_2, .int .i64 a0_3, .int .i64 a0_4, .int .i64 a0_5, .int .u64 a0_6, .int .i64 a0_7, .int .i64 a0_8, .int .i64 a0_9, .int .u64 a0_10, .int .u64 a0_11, .int .u64 a0_12, .int .u64 a0_13, .bool a0_14, .bool a0_15, .bool a0_16, .bool a0_17] 49 (0, 0)) (by (with_reducible repeat (first | refine blk_drewN ?_ _ | refine blk_drew ?_ | refine blk_alloc ?_ _)); exact BK173.out) hb); have n1_ := Aside0.mk (blk_below (g := gb174) (o := .cells #[.bool false, .bool false, .bool false, .bool false] 35 (0, 0)) (by (with_reducible repeat (first | refine blk_drewN ?_ _ | refine blk_drew ?_ | refine blk_alloc ?_ _)); exact BK174.out) hb); have n2_ := Aside0.mk (below_step (by repeat (first | (with_reducible first | exact HB.out | apply below_alloc | apply pw_below_drewN | apply below_drew1 | refine below_set ?_ GE173.out | refine below_set ?_ GE174.out) | exact HB.out)) hb); clear BK173; clear BK174; clear HB; have BK173 := n0_; have BK174 := n1_; have HB := n2_; clear n0_ n1_ n2_; (try clear hb); (try clear hb2); (try clear hk); (try clear hi)))
  have n0_ := Aside0.mk (blk_drew BK173.out)
  have n1_ := Aside0.mk (blk_drew BK174.out)
  have n2_ := Aside0.mk (below_drew1 HB.out)
  clear BK173
  clear BK174
  clear HB
  have BK173 := n0_
  have BK174 := n1_
  have HB := n2_
  clear n0_ n1_ n2_
  refine start_ (n := 7) (S := fun w' => w'.cell? ⟨gb173, 0, none⟩ = some (.int .i64 a0_0) ∧ w'.cell? ⟨gb173, 1, none⟩ = some (.int .i64 a0_1) ∧ w'.cell? ⟨gb173, 2, none⟩ = some (.int .i64 a0_2) ∧ w'.cell? ⟨gb173, 3, none⟩ = some (.int .i64 a0_3) ∧ w'.cell? ⟨gb173, 4, none⟩ = some (.int .i64 a0_4) ∧ w'.cell? ⟨gb173, 5, none⟩ = some (.int .i64 a0_5) ∧ w'.cell? ⟨gb173, 6, none⟩ = some (.int .u64 a0_6) ∧ w'.cell? ⟨gb173, 7, none⟩ = some (.int .i64 a0_7) ∧ w'.cell? ⟨gb173, 8, none⟩ = some (.int .i64 a0_8) ∧ w'.cell? ⟨gb173, 9, none⟩ = some (.int .i64 a0_9) ∧ w'.cell? ⟨gb173, 10, none⟩ = some (.int .u64 a0_10) ∧ w'.cell? ⟨gb173, 11, none⟩ = some (.int .u64 a0_11) ∧ w'.cell? ⟨gb173, 12, none⟩ = some (.int .u64 a0_12) ∧ w'.cell? ⟨gb173, 13, none⟩ = some (.int .u64 a0_13) ∧ w'.cell? ⟨gb173, 14, none⟩ = some (.bool a0_14) ∧ w'.cell? ⟨gb173, 15, none⟩ = some (.bool a0_15) ∧ w'.cell? ⟨gb173, 16, none⟩ = some (.bool a0_16) ∧ w'.cell? ⟨gb173, 17, none⟩ = some (.bool a0_17)) (ds := []) #[false, false, false, false, false, false, false] (by kernel_rfl) rfl rfl ⟨(blk_cell BK173.out 0).trans rfl, (blk_cell BK173.out 1).trans rfl, (blk_cell BK173.out 2).trans rfl, (blk_cell BK173.out 3).trans rfl, (blk_cell BK173.out 4).trans rfl, (blk_cell BK173.out 5).trans rfl, (blk_cell BK173.out 6).trans rfl, (blk_cell BK173.out 7).trans rfl, (blk_cell BK173.out 8).trans rfl, (blk_cell BK173.out 9).trans rfl, (blk_cell BK173.out 10).trans rfl, (blk_cell BK173.out 11).trans rfl, (blk_cell BK173.out 12).trans rfl, (blk_cell BK173.out 13).trans rfl, (blk_cell BK173.out 14).trans rfl, (blk_cell BK173.out 15).trans rfl, (blk_cell BK173.out 16).trans rfl, (blk_cell BK173.out 17).trans rfl⟩ (fun hHeld => ?_)
  generalize w8.drew = w9 at BK173 BK174 HB hHeld ⊢
  refine pure_ (i := 0) (N := some 16) (v := ?_) (a' := ?_) #[true, false, false, false, false, false, false] rfl rfl (by kernel_rfl) (fun _ _ _ h => h) (Or.inl ⟨by rfl, ?_⟩) ?_ ?_
  rotate_left
  · intro w'; go_simp; with_reducible rfl
  rotate_left
  · simp only [qa_, qb_, qc_, qd_, i64_w, i32_w]; rfl
  refine pure_ (i := 1) (N := some 17) (v := ?_) (a' := ?_) #[true, true, false, false, false, false, false] rfl rfl (by kernel_rfl) (fun _ _ _ h => h) (Or.inl ⟨by rfl, ?_⟩) ?_ ?_
  rotate_left
  · intro w'; go_simp; with_reducible rfl
  rotate_left
  · simp only [qa_, qb_, qc_, qd_, i64_w, i32_w]; rfl
  refine pure_ (i := 3) (N := some 19) (v := ?_) (a' := ?_) #[true, true, false, true, false, false, false] rfl rfl (by kernel_rfl) (fun _ _ _ h => h) (Or.inl ⟨by rfl, ?_⟩) ?_ ?_
  rotate_left
  · intro w'; go_simp; with_reducible rfl
  rotate_left
  · simp only [qa_, qb_, qc_, qd_, i64_w, i32_w]; rfl
  refine take_ (i := 2) (N := some 18) (v := ?_) (a' := ?_) #[true, true, true, true, false, false, false] rfl rfl (by kernel_rfl) (fun _ _ _ h => h) (Or.inl ⟨by rfl, ?_⟩) hHeld ?_ ?_
  rotate_left
  · rintro w' ⟨s0, s1, s2, s3, s4, s5, s6, s7, s8, s9, s10, s11, s12, s13, s14, s15, s16, s17⟩; go_simp; with_reducible rfl
  rotate_left
  · simp only [qa_, qb_, qc_, qd_, i64_w, i32_w]; rfl
  refine pure_ (i := 5) (N := some 2) (v := ?_) (a' := ?_) #[true, true, true, true, false, true, false] rfl rfl (by kernel_rfl) (fun _ _ _ h => h) (Or.inl ⟨by rfl, ?_⟩) ?_ ?_
  rotate_left
  · intro w'; go_simp; with_reducible rfl
  rotate_left
  · simp only [qa_, qb_, qc_, qd_, i64_w, i32_w]; rfl
  refine take_ (i := 4) (N := some 20) (v := ?_) (a' := ?_) #[true, true, true, true, true, true, false] rfl rfl (by kernel_rfl) (fun _ _ _ h => h) (Or.inl ⟨by rfl, ?_⟩) hHeld ?_ ?_
  rotate_left
  · rintro w' ⟨s0, s1, s2, s3, s4, s5, s6, s7, s8, s9, s10, s11, s12, s13, s14, s15, s16, s17⟩; go_simp; with_reducible rfl
  rotate_left
  · simp only [qa_, qb_, qc_, qd_, i64_w, i32_w]; rfl
  refine one_ (i := 6) (N := none) #[true, true, true, true, true, true, true] rfl rfl (by kernel_rfl) (by decide) (fun K hK => ?_)
  have hs10 : w9.cell? ⟨gb174, 0, none⟩ = some (.bool false) := (blk_cell BK174.out 0).trans rfl
  have hfs10 := blk_frozen BK174.out 0
  have hns10_0 := NB173_174.out
  have hms10_0 := NB174_173.out
  have hs11 : w9.cell? ⟨gb174, 1, none⟩ = some (.bool false) := (blk_cell BK174.out 1).trans rfl
  have hfs11 := blk_frozen BK174.out 1
  have hns11_0 := NB173_174.out
  have hms11_0 := NB174_173.out
  have hs12 : w9.cell? ⟨gb174, 2, none⟩ = some (.bool false) := (blk_cell BK174.out 2).trans rfl
  have hfs12 := blk_frozen BK174.out 2
  have hns12_0 := NB173_174.out
  have hms12_0 := NB174_173.out
  have hs13 : w9.cell? ⟨gb174, 3, none⟩ = some (.bool false) := (blk_cell BK174.out 3).trans rfl
  have hfs13 := blk_frozen BK174.out 3
  have hns13_0 := NB173_174.out
  have hms13_0 := NB174_173.out
  refine skip_ (w1 := ?_) (by rfl) rfl ?_ ?_
  rotate_left
  ·
   go_simp
   rfl
  refine hK.out _ _ ⟨((cell_far (p := ⟨gb174, _, none⟩) NB173_174.out _).trans (((cell_far (p := ⟨gb174, _, none⟩) NB173_174.out _).trans (((cell_far (p := ⟨gb174, _, none⟩) NB173_174.out _).trans (((cell_far (p := ⟨gb174, _, none⟩) NB173_174.out _).trans (hHeld.1)))))))), ((cell_far (p := ⟨gb174, _, none⟩) NB173_174.out _).trans (((cell_far (p := ⟨gb174, _, none⟩) NB173_174.out _).trans (((cell_far (p := ⟨gb174, _, none⟩) NB173_174.out _).trans (((cell_far (p := ⟨gb174, _, none⟩) NB173_174.out _).trans (hHeld.2.1)))))))), ((cell_far (p := ⟨gb174, _, none⟩) NB173_174.out _).trans (((cell_far (p := ⟨gb174, _, none⟩) NB173_174.out _).trans (((cell_far (p := ⟨gb174, _, none⟩) NB173_174.out _).trans (((cell_far (p := ⟨gb174, _, none⟩) NB173_174.out _).trans (hHeld.2.2.1)))))))), ((cell_far (p := ⟨gb174, _, none⟩) NB173_174.out _).trans (((cell_far (p := ⟨gb174, _, none⟩) NB173_174.out _).trans (((cell_far (p := ⟨gb174, _, none⟩) NB173_174.out _).trans (((cell_far (p := ⟨gb174, _, none⟩) NB173_174.out _).trans (hHeld.2.2.2.1)))))))), ((cell_far (p := ⟨gb174, _, none⟩) NB173_174.out _).trans (((cell_far (p := ⟨gb174, _, none⟩) NB173_174.out _).trans (((cell_far (p := ⟨gb174, _, none⟩) NB173_174.out _).trans (((cell_far (p := ⟨gb174, _, none⟩) NB173_174.out _).trans (hHeld.2.2.2.2.1)))))))), ((cell_far (p := ⟨gb174, _, none⟩) NB173_174.out _).trans (((cell_far (p := ⟨gb174, _, none⟩) NB173_174.out _).trans (((cell_far (p := ⟨gb174, _, none⟩) NB173_174.out _).trans (((cell_far (p := ⟨gb174, _, none⟩) NB173_174.out _).trans (hHeld.2.2.2.2.2.1)))))))), ((cell_far (p := ⟨gb174, _, none⟩) NB173_174.out _).trans (((cell_far (p := ⟨gb174, _, none⟩) NB173_174.out _).trans (((cell_far (p := ⟨gb174, _, none⟩) NB173_174.out _).trans (((cell_far (p := ⟨gb174, _, none⟩) NB173_174.out _).trans (hHeld.2.2.2.2.2.2.1)))))))), ((cell_far (p := ⟨gb174, _, none⟩) NB173_174.out _).trans (((cell_far (p := ⟨gb174, _, none⟩) NB173_174.out _).trans (((cell_far (p := ⟨gb174, _, none⟩) NB173_174.out _).trans (((cell_far (p := ⟨gb174, _, none⟩) NB173_174.out _).trans (hHeld.2.2.2.2.2.2.2.1)))))))), ((cell_far (p := ⟨gb174, _, none⟩) NB173_174.out _).trans (((cell_far (p := ⟨gb174, _, none⟩) NB173_174.out _).trans (((cell_far (p := ⟨gb174, _, none⟩) NB173_174.out _).trans (((cell_far (p := ⟨gb174, _, none⟩) NB173_174.out _).trans (hHeld.2.2.2.2.2.2.2.2.1)))))))), ((cell_far (p := ⟨gb174, _, none⟩) NB173_174.out _).trans (((cell_far (p := ⟨gb174, _, none⟩) NB173_174.out _).trans (((cell_far (p := ⟨gb174, _, none⟩) NB173_174.out _).trans (((cell_far (p := ⟨gb174, _, none⟩) NB173_174.out _).trans (hHeld.2.2.2.2.2.2.2.2.2.1)))))))), ((cell_far (p := ⟨gb174, _, none⟩) NB173_174.out _).trans (((cell_far (p := ⟨gb174, _, none⟩) NB173_174.out _).trans (((cell_far (p := ⟨gb174, _, none⟩) NB173_174.out _).trans (((cell_far (p := ⟨gb174, _, none⟩) NB173_174.out _).trans (hHeld.2.2.2.2.2.2.2.2.2.2.1)))))))), ((cell_far (p := ⟨gb174, _, none⟩) NB173_174.out _).trans (((cell_far (p := ⟨gb174, _, none⟩) NB173_174.out _).trans (((cell_far (p := ⟨gb174, _, none⟩) NB173_174.out _).trans (((cell_far (p := ⟨gb174, _, none⟩) NB173_174.out _).trans (hHeld.2.2.2.2.2.2.2.2.2.2.2.1)))))))), ((cell_far (p := ⟨gb174, _, none⟩) NB173_174.out _).trans (((cell_far (p := ⟨gb174, _, none⟩) NB173_174.out _).trans (((cell_far (p := ⟨gb174, _, none⟩) NB173_174.out _).trans (((cell_far (p := ⟨gb174, _, none⟩) NB173_174.out _).trans (hHeld.2.2.2.2.2.2.2.2.2.2.2.2.1)))))))), ((cell_far (p := ⟨gb174, _, none⟩) NB173_174.out _).trans (((cell_far (p := ⟨gb174, _, none⟩) NB173_174.out _).trans (((cell_far (p := ⟨gb174, _, none⟩) NB173_174.out _).trans (((cell_far (p := ⟨gb174, _, none⟩) NB173_174.out _).trans (hHeld.2.2.2.2.2.2.2.2.2.2.2.2.2.1)))))))), ((cell_far (p := ⟨gb174, _, none⟩) NB173_174.out _).trans (((cell_far (p := ⟨gb174, _, none⟩) NB173_174.out _).trans (((cell_far (p := ⟨gb174, _, none⟩) NB173_174.out _).trans (((cell_far (p := ⟨gb174, _, none⟩) NB173_174.out _).trans (hHeld.2.2.2.2.2.2.2.2.2.2.2.2.2.2.1)))))))), ((cell_far (p := ⟨gb174, _, none⟩) NB173_174.out _).trans (((cell_far (p := ⟨gb174, _, none⟩) NB173_174.out _).trans (((cell_far (p := ⟨gb174, _, none⟩) NB173_174.out _).trans (((cell_far (p := ⟨gb174, _, none⟩) NB173_174.out _).trans (hHeld.2.2.2.2.2.2.2.2.2.2.2.2.2.2.2.1)))))))), ((cell_far (p := ⟨gb174, _, none⟩) NB173_174.out _).trans (((cell_far (p := ⟨gb174, _, none⟩) NB173_174.out _).trans (((cell_far (p := ⟨gb174, _, none⟩) NB173_174.out _).trans (((cell_far (p := ⟨gb174, _, none⟩) NB173_174.out _).trans (hHeld.2.2.2.2.2.2.2.2.2.2.2.2.2.2.2.2.1)))))))), ((cell_far (p := ⟨gb174, _, none⟩) NB173_174.out _).trans (((cell_far (p := ⟨gb174, _, none⟩) NB173_174.out _).trans (((cell_far (p := ⟨gb174, _, none⟩) NB173_174.out _).trans (((cell_far (p := ⟨gb174, _, none⟩) NB173_174.out _).trans (hHeld.2.2.2.2.2.2.2.2.2.2.2.2.2.2.2.2.2))))))))⟩ (fun hHeld => ?_)
  clear hK K
  refine done_ (by kernel_rfl) ?_
  try go_wp2
  refine bodyPost_ret (results_tc rfl _ _ gb174 35 #[.bool a0_14, .bool a0_15, .bool a0_16, .bool a0_17] (0, 0) _ rfl (by (with_reducible repeat (first | refine blk_drewN ?_ _ | refine blk_drew ?_ | refine blk_alloc ?_ _)); refine blk_put (cs := #[.bool a0_14, .bool a0_15, .bool a0_16, .bool false]) ?_ 3 _ rfl; (with_reducible repeat (first | refine blk_drewN ?_ _ | refine blk_drew ?_ | refine blk_alloc ?_ _)); refine blk_put (cs := #[.bool a0_14, .bool a0_15, .bool false, .bool false]) ?_ 2 _ rfl; (with_reducible repeat (first | refine blk_drewN ?_ _ | refine blk_drew ?_ | refine blk_alloc ?_ _)); refine blk_put (cs := #[.bool a0_14, .bool false, .bool false, .bool false]) ?_ 1 _ rfl; (with_reducible repeat (first | refine blk_drewN ?_ _ | refine blk_drew ?_ | refine blk_alloc ?_ _)); refine blk_put (cs := #[.bool false, .bool false, .bool false, .bool false]) ?_ 0 _ rfl; (with_reducible repeat (first | refine blk_drewN ?_ _ | refine blk_drew ?_ | refine blk_alloc ?_ _)); exact BK174.out) Tryd.underlying35 rfl (by kernel_rfl)) rfl ?_
  exact ⟨by first | rfl | (simp [errW_none, errW_some] <;> rfl) | (simp [*, errW_none, errW_some] <;> rfl), by repeat (first | (with_reducible first | exact HB.out | apply below_alloc | apply pw_below_drewN | apply below_drew1 | refine below_set ?_ GE173.out | refine below_set ?_ GE174.out) | exact HB.out)⟩
 ·
  replace c3 := Bool.eq_false_iff.mpr c3
  subst c3
  have H1 : (some (a0_12, a0_14, a0_15, a0_16, a0_17)) = some (r1, r2, r3, r4, r5) := by rw [if_neg (show ¬ (false = true) by decide)] at H; exact H
  clear H
  have H := H1
  clear H1
  simp only [Option.some.injEq, Prod.mk.injEq] at H
  obtain ⟨rfl, rfl, rfl, rfl, rfl⟩ := H
  go_enter Tryd.func32, Tryd.ntmps32
  try go_wp2_with (first | ((with_reducible refine gate_dst (N := 1) rfl ?_); refine box_event ?hg (N := 1) ?hd (cs := #[.int .i64 a0_0, .int .i64 a0_1, .int .i64 a0_2, .int .i64 a0_3, .int .i64 a0_4, .int .i64 a0_5, .int .u64 a0_6, .int .i64 a0_7, .int .i64 a0_8, .int .i64 a0_9, .int .u64 a0_10, .int .u64 a0_11, .int .u64 a0_12, .int .u64 a0_13, .bool a0_14, .bool a0_15, .bool a0_16, .bool a0_17]) (t := 49) ?hr ?_; (case hd => rfl); (case hg => rfl); (case hr => first | (go_simp; done) | (go_simp; rfl)); intro gb173 hg w14 hbox hb; have n0_ := Aside0.mk (below_step (by repeat (first | (with_reducible first | exact HB.out | apply below_alloc | apply pw_below_drewN | apply below_drew1) | exact HB.out)) hb); have n1_ := Aside0.mk (hbox); have n2_ := Aside0.mk ((by rw [hg]; exact (below_size (by repeat (first | (with_reducible first | exact HB.out | apply below_alloc | apply pw_below_drewN | apply below_drew1) | exact HB.out))) : w.heap.size ≤ gb173)); have n3_ := Aside0.mk ((by rw [hg]; exact (below_size (by repeat (first | (with_reducible first | exact HB.out | apply below_alloc | apply pw_below_drewN | apply below_drew1) | exact HB.out))) : w.heap.size ≤ gb173)); clear HB; have HB := n0_; have BK173 := n1_; have GW173 := n2_; have GE173 := n3_; clear n0_ n1_ n2_ n3_; clear hb hbox hg) | ((with_reducible refine gate_dst (N := 3) rfl ?_); refine box_event ?hg (N := 3) ?hd (cs := #[.bool false, .bool false, .bool false, .bool false]) (t := 35) ?hr ?_; (case hd => rfl); (case hg => rfl); (case hr => first | (go_simp; done) | (go_simp; rfl)); intro gb174 hg w15 hbox hb; have n0_ := Aside0.mk (blk_below (g := gb173) (o := .cells #[.int .i64 a0_0, .int .i64 a0_1, .int .i64 a0_2, .int .i64 a0_3, .int .i64 a0_4, .int .i64 a0_5, .int .u64 a0_6, .int .i64 a0_7, .int .i64 a0_8, .int .i64 a0_9, .int .u64 a0_10, .int .u64 a0_11, .int .u64 a0_12, .int .u64 a0_13, .bool a0_14, .bool a0_15, .bool a0_16, .bool a0_17] 49 (0, 0)) (by (with_reducible repeat (first | refine blk_drewN ?_ _ | refine blk_drew ?_ | refine blk_alloc ?_ _)); exact BK173.out) hb); have n1_ := Aside0.mk (below_step (by repeat (first | (with_reducible first | exact HB.out | apply below_alloc | apply pw_below_drewN | apply below_drew1 | refine below_set ?_ GE173.out) | exact HB.out)) hb); have n2_ := Aside0.mk (hbox); have n3_ := Aside0.mk ((by rw [hg]; exact (below_size (by repeat (first | (with_reducible first | exact HB.out | apply below_alloc | apply pw_below_drewN | apply below_drew1 | refine below_set ?_ GE173.out) | exact HB.out))) : w.heap.size ≤ gb174)); have n4_ := Aside0.mk ((by rw [hg]; exact (below_size (by repeat (first | (with_reducible first | exact HB.out | apply below_alloc | apply pw_below_drewN | apply below_drew1 | refine below_set ?_ GE173.out) | exact HB.out))) : w.heap.size ≤ gb174)); have n5_ := Aside0.mk ((by rw [hg]; exact Nat.ne_of_lt (blk_lt (g := gb173) (o := .cells #[.int .i64 a0_0, .int .i64 a0_1, .int .i64 a0_2, .int .i64 a0_3, .int .i64 a0_4, .int .i64 a0_5, .int .u64 a0_6, .int .i64 a0_7, .int .i64 a0_8, .int .i64 a0_9, .int .u64 a0_10, .int .u64 a0_11, .int .u64 a0_12, .int .u64 a0_13, .bool a0_14, .bool a0_15, .bool a0_16, .bool a0_17] 49 (0, 0)) (by (with_reducible repeat (first | refine blk_drewN ?_ _ | refine blk_drew ?_ | refine blk_alloc ?_ _)); exact BK173.out)) : gb173 ≠ gb174)); have n6_ := Aside0.mk ((by rw [hg]; exact Nat.ne_of_gt (blk_lt (g := gb173) (o := .cells #[.int .i64 a0_0, .int .i64 a0_1, .int .i64 a0_2, .int .i64 a0_3, .int .i64 a0_4, .int .i64 a0_5, .int .u64 a0_6, .int .i64 a0_7, .int .i64 a0_8, .int .i64 a0_9, .int .u64 a0_10, .int .u64 a0_11, .int .u64 a0_12, .int .u64 a0_13, .bool a0_14, .bool a0_15, .bool a0_16, .bool a0_17] 49 (0, 0)) (by (with_reducible repeat (first | refine blk_drewN ?_ _ | refine blk_drew ?_ | refine blk_alloc ?_ _)); exact BK173.out)) : gb174 ≠ gb173)); clear BK173; clear HB; have BK173 := n0_; have HB := n1_; have BK174 := n2_; have GW174 := n3_; have GE174 := n4_; have NB173_174 := n5_; have NB174_173 := n6_; clear n0_ n1_ n2_ n3_ n4_ n5_ n6_; clear hb hbox hg; have hnb16 := NB173_174.out; have hnc16 := NB174_173.out; have hcz17_0 : w15.cell? ⟨gb173, 0, none⟩ = some (.int .i64 a0_0) := (blk_cell BK173.out 0).trans rfl; have hcz17_1 : w15.cell? ⟨gb173, 1, none⟩ = some (.int .i64 a0_1) := (blk_cell BK173.out 1).trans rfl; have hcz17_2 : w15.cell? ⟨gb173, 2, none⟩ = some (.int .i64 a0_2) := (blk_cell BK173.out 2).trans rfl; have hcz17_3 : w15.cell? ⟨gb173, 3, none⟩ = some (.int .i64 a0_3) := (blk_cell BK173.out 3).trans rfl; have hcz17_4 : w15.cell? ⟨gb173, 4, none⟩ = some (.int .i64 a0_4) := (blk_cell BK173.out 4).trans rfl; have hcz17_5 : w15.cell? ⟨gb173, 5, none⟩ = some (.int .i64 a0_5) := (blk_cell BK173.out 5).trans rfl; have hcz17_6 : w15.cell? ⟨gb173, 6, none⟩ = some (.int .u64 a0_6) := (blk_cell BK173.out 6).trans rfl; have hcz17_7 : w15.cell? ⟨gb173, 7, none⟩ = some (.int .i64 a0_7) := (blk_cell BK173.out 7).trans rfl; have hcz17_8 : w15.cell? ⟨gb173, 8, none⟩ = some (.int .i64 a0_8) := (blk_cell BK173.out 8).trans rfl; have hcz17_9 : w15.cell? ⟨gb173, 9, none⟩ = some (.int .i64 a0_9) := (blk_cell BK173.out 9).trans rfl; have hcz17_10 : w15.cell? ⟨gb173, 10, none⟩ = some (.int .u64 a0_10) := (blk_cell BK173.out 10).trans rfl; have hcz17_11 : w15.cell? ⟨gb173, 11, none⟩ = some (.int .u64 a0_11) := (blk_cell BK173.out 11).trans rfl; have hcz17_12 : w15.cell? ⟨gb173, 12, none⟩ = some (.int .u64 a0_12) := (blk_cell BK173.out 12).trans rfl; have hcz17_13 : w15.cell? ⟨gb173, 13, none⟩ = some (.int .u64 a0_13) := (blk_cell BK173.out 13).trans rfl; have hcz17_14 : w15.cell? ⟨gb173, 14, none⟩ = some (.bool a0_14) := (blk_cell BK173.out 14).trans rfl; have hcz17_15 : w15.cell? ⟨gb173, 15, none⟩ = some (.bool a0_15) := (blk_cell BK173.out 15).trans rfl; have hcz17_16 : w15.cell? ⟨gb173, 16, none⟩ = some (.bool a0_16) := (blk_cell BK173.out 16).trans rfl; have hcz17_17 : w15.cell? ⟨gb173, 17, none⟩ = some (.bool a0_17) := (blk_cell BK173.out 17).trans rfl; have hfz17_0 := fun j => blk_frozen BK173.out j) | ((with_reducible refine gate_callee (f := 41) rfl ?_); refine goesL_ (some 12) rfl rfl Tryd.func41 (by kernel_rfl) rfl #[.int .i64 a0_9, .agg #[.bool a0_14, .bool a0_15, .bool a0_16, .bool a0_17]] rfl (by (try simp only [List.map_toArray, List.map_cons, List.map_nil]); first | done | rfl | (simp only [List.length_drop, List.length_take]; rfl)) ?_; (with_reducible refine (flag_Holds.calls a0_9 a0_14 a0_15 a0_16 a0_17 false t176 _ A2.out).mono ?_); rintro e w18 ⟨rfl, hb⟩; refine ⟨_, rfl, ?_⟩; have n0_ := Aside0.mk (blk_below (g := gb173) (o := .cells #[.int .i64 a0_0, .int .i64 a0_1, .int .i64 a0_2, .int .i64 a0_3, .int .i64 a0_4, .int .i64 a0_5, .int .u64 a0_6, .int .i64 a0_7, .int .i64 a0_8, .int .i64 a0_9, .int .u64 a0_10, .int .u64 a0_11, .int .u64 a0_12, .int .u64 a0_13, .bool a0_14, .bool a0_15, .bool a0_16, .bool a0_17] 49 (0, 0)) (by (with_reducible repeat (first | refine blk_drewN ?_ _ | refine blk_drew ?_ | refine blk_alloc ?_ _)); exact BK173.out) hb); have n1_ := Aside0.mk (blk_below (g := gb174) (o := .cells #[.bool false, .bool false, .bool false, .bool false] 35 (0, 0)) (by (with_reducible repeat (first | refine blk_drewN ?_ _ | refine blk_drew ?_ | refine blk_alloc ?_ _)); exact BK174.out) hb); have n2_ := Aside0.mk (below_step (by repeat (first | (with_reducible first | exact HB.out | apply below_alloc | apply pw_below_drewN | apply below_drew1 | refine below_set ?_ GE173.out | refine below_set ?_ GE174.out) | exact HB.out)) hb); clear BK173; clear BK174; clear HB; have BK173 := n0_; have BK174 := n1_; have HB := n2_; clear n0_ n1_ n2_; (try clear hb); (try clear hb2); (try clear hk); (try clear hi)))
  have n0_ := Aside0.mk (blk_drew BK173.out)
  have n1_ := Aside0.mk (blk_drew BK174.out)
  have n2_ := Aside0.mk (below_drew1 HB.out)
  clear BK173
  clear BK174
  clear HB
  have BK173 := n0_
  have BK174 := n1_
  have HB := n2_
  clear n0_ n1_ n2_
  refine start_ (n := 7) (S := fun w' => w'.cell? ⟨gb173, 0, none⟩ = some (.int .i64 a0_0) ∧ w'.cell? ⟨gb173, 1, none⟩ = some (.int .i64 a0_1) ∧ w'.cell? ⟨gb173, 2, none⟩ = some (.int .i64 a0_2) ∧ w'.cell? ⟨gb173, 3, none⟩ = some (.int .i64 a0_3) ∧ w'.cell? ⟨gb173, 4, none⟩ = some (.int .i64 a0_4) ∧ w'.cell? ⟨gb173, 5, none⟩ = some (.int .i64 a0_5) ∧ w'.cell? ⟨gb173, 6, none⟩ = some (.int .u64 a0_6) ∧ w'.cell? ⟨gb173, 7, none⟩ = some (.int .i64 a0_7) ∧ w'.cell? ⟨gb173, 8, none⟩ = some (.int .i64 a0_8) ∧ w'.cell? ⟨gb173, 9, none⟩ = some (.int .i64 a0_9) ∧ w'.cell? ⟨gb173, 10, none⟩ = some (.int .u64 a0_10) ∧ w'.cell? ⟨gb173, 11, none⟩ = some (.int .u64 a0_11) ∧ w'.cell? ⟨gb173, 12, none⟩ = some (.int .u64 a0_12) ∧ w'.cell? ⟨gb173, 13, none⟩ = some (.int .u64 a0_13) ∧ w'.cell? ⟨gb173, 14, none⟩ = some (.bool a0_14) ∧ w'.cell? ⟨gb173, 15, none⟩ = some (.bool a0_15) ∧ w'.cell? ⟨gb173, 16, none⟩ = some (.bool a0_16) ∧ w'.cell? ⟨gb173, 17, none⟩ = some (.bool a0_17)) (ds := []) #[false, false, false, false, false, false, false] (by kernel_rfl) rfl rfl ⟨(blk_cell BK173.out 0).trans rfl, (blk_cell BK173.out 1).trans rfl, (blk_cell BK173.out 2).trans rfl, (blk_cell BK173.out 3).trans rfl, (blk_cell BK173.out 4).trans rfl, (blk_cell BK173.out 5).trans rfl, (blk_cell BK173.out 6).trans rfl, (blk_cell BK173.out 7).trans rfl, (blk_cell BK173.out 8).trans rfl, (blk_cell BK173.out 9).trans rfl, (blk_cell BK173.out 10).trans rfl, (blk_cell BK173.out 11).trans rfl, (blk_cell BK173.out 12).trans rfl, (blk_cell BK173.out 13).trans rfl, (blk_cell BK173.out 14).trans rfl, (blk_cell BK173.out 15).trans rfl, (blk_cell BK173.out 16).trans rfl, (blk_cell BK173.out 17).trans rfl⟩ (fun hHeld => ?_)
  generalize w18.drew = w19 at BK173 BK174 HB hHeld ⊢
  refine pure_ (i := 0) (N := some 21) (v := ?_) (a' := ?_) #[true, false, false, false, false, false, false] rfl rfl (by kernel_rfl) (fun _ _ _ h => h) (Or.inl ⟨by rfl, ?_⟩) ?_ ?_
  rotate_left
  · intro w'; go_simp; with_reducible rfl
  rotate_left
  · simp only [qa_, qb_, qc_, qd_, i64_w, i32_w]; rfl
  refine pure_ (i := 1) (N := some 22) (v := ?_) (a' := ?_) #[true, true, false, false, false, false, false] rfl rfl (by kernel_rfl) (fun _ _ _ h => h) (Or.inl ⟨by rfl, ?_⟩) ?_ ?_
  rotate_left
  · intro w'; go_simp; with_reducible rfl
  rotate_left
  · simp only [qa_, qb_, qc_, qd_, i64_w, i32_w]; rfl
  refine pure_ (i := 3) (N := some 24) (v := ?_) (a' := ?_) #[true, true, false, true, false, false, false] rfl rfl (by kernel_rfl) (fun _ _ _ h => h) (Or.inl ⟨by rfl, ?_⟩) ?_ ?_
  rotate_left
  · intro w'; go_simp; with_reducible rfl
  rotate_left
  · simp only [qa_, qb_, qc_, qd_, i64_w, i32_w]; rfl
  refine take_ (i := 2) (N := some 23) (v := ?_) (a' := ?_) #[true, true, true, true, false, false, false] rfl rfl (by kernel_rfl) (fun _ _ _ h => h) (Or.inl ⟨by rfl, ?_⟩) hHeld ?_ ?_
  rotate_left
  · rintro w' ⟨s0, s1, s2, s3, s4, s5, s6, s7, s8, s9, s10, s11, s12, s13, s14, s15, s16, s17⟩; go_simp; with_reducible rfl
  rotate_left
  · simp only [qa_, qb_, qc_, qd_, i64_w, i32_w]; rfl
  refine pure_ (i := 5) (N := some 2) (v := ?_) (a' := ?_) #[true, true, true, true, false, true, false] rfl rfl (by kernel_rfl) (fun _ _ _ h => h) (Or.inl ⟨by rfl, ?_⟩) ?_ ?_
  rotate_left
  · intro w'; go_simp; with_reducible rfl
  rotate_left
  · simp only [qa_, qb_, qc_, qd_, i64_w, i32_w]; rfl
  refine take_ (i := 4) (N := some 25) (v := ?_) (a' := ?_) #[true, true, true, true, true, true, false] rfl rfl (by kernel_rfl) (fun _ _ _ h => h) (Or.inl ⟨by rfl, ?_⟩) hHeld ?_ ?_
  rotate_left
  · rintro w' ⟨s0, s1, s2, s3, s4, s5, s6, s7, s8, s9, s10, s11, s12, s13, s14, s15, s16, s17⟩; go_simp; with_reducible rfl
  rotate_left
  · simp only [qa_, qb_, qc_, qd_, i64_w, i32_w]; rfl
  refine one_ (i := 6) (N := none) #[true, true, true, true, true, true, true] rfl rfl (by kernel_rfl) (by decide) (fun K hK => ?_)
  have hs20 : w19.cell? ⟨gb174, 0, none⟩ = some (.bool false) := (blk_cell BK174.out 0).trans rfl
  have hfs20 := blk_frozen BK174.out 0
  have hns20_0 := NB173_174.out
  have hms20_0 := NB174_173.out
  have hs21 : w19.cell? ⟨gb174, 1, none⟩ = some (.bool false) := (blk_cell BK174.out 1).trans rfl
  have hfs21 := blk_frozen BK174.out 1
  have hns21_0 := NB173_174.out
  have hms21_0 := NB174_173.out
  have hs22 : w19.cell? ⟨gb174, 2, none⟩ = some (.bool false) := (blk_cell BK174.out 2).trans rfl
  have hfs22 := blk_frozen BK174.out 2
  have hns22_0 := NB173_174.out
  have hms22_0 := NB174_173.out
  have hs23 : w19.cell? ⟨gb174, 3, none⟩ = some (.bool false) := (blk_cell BK174.out 3).trans rfl
  have hfs23 := blk_frozen BK174.out 3
  have hns23_0 := NB173_174.out
  have hms23_0 := NB174_173.out
  refine skip_ (w1 := ?_) (by rfl) rfl ?_ ?_
  rotate_left
  ·
   go_simp
   rfl
  refine hK.out _ _ ⟨((cell_far (p := ⟨gb174, _, none⟩) NB173_174.out _).trans (((cell_far (p := ⟨gb174, _, none⟩) NB173_174.out _).trans (((cell_far (p := ⟨gb174, _, none⟩) NB173_174.out _).trans (((cell_far (p := ⟨gb174, _, none⟩) NB173_174.out _).trans (hHeld.1)))))))), ((cell_far (p := ⟨gb174, _, none⟩) NB173_174.out _).trans (((cell_far (p := ⟨gb174, _, none⟩) NB173_174.out _).trans (((cell_far (p := ⟨gb174, _, none⟩) NB173_174.out _).trans (((cell_far (p := ⟨gb174, _, none⟩) NB173_174.out _).trans (hHeld.2.1)))))))), ((cell_far (p := ⟨gb174, _, none⟩) NB173_174.out _).trans (((cell_far (p := ⟨gb174, _, none⟩) NB173_174.out _).trans (((cell_far (p := ⟨gb174, _, none⟩) NB173_174.out _).trans (((cell_far (p := ⟨gb174, _, none⟩) NB173_174.out _).trans (hHeld.2.2.1)))))))), ((cell_far (p := ⟨gb174, _, none⟩) NB173_174.out _).trans (((cell_far (p := ⟨gb174, _, none⟩) NB173_174.out _).trans (((cell_far (p := ⟨gb174, _, none⟩) NB173_174.out _).trans (((cell_far (p := ⟨gb174, _, none⟩) NB173_174.out _).trans (hHeld.2.2.2.1)))))))), ((cell_far (p := ⟨gb174, _, none⟩) NB173_174.out _).trans (((cell_far (p := ⟨gb174, _, none⟩) NB173_174.out _).trans (((cell_far (p := ⟨gb174, _, none⟩) NB173_174.out _).trans (((cell_far (p := ⟨gb174, _, none⟩) NB173_174.out _).trans (hHeld.2.2.2.2.1)))))))), ((cell_far (p := ⟨gb174, _, none⟩) NB173_174.out _).trans (((cell_far (p := ⟨gb174, _, none⟩) NB173_174.out _).trans (((cell_far (p := ⟨gb174, _, none⟩) NB173_174.out _).trans (((cell_far (p := ⟨gb174, _, none⟩) NB173_174.out _).trans (hHeld.2.2.2.2.2.1)))))))), ((cell_far (p := ⟨gb174, _, none⟩) NB173_174.out _).trans (((cell_far (p := ⟨gb174, _, none⟩) NB173_174.out _).trans (((cell_far (p := ⟨gb174, _, none⟩) NB173_174.out _).trans (((cell_far (p := ⟨gb174, _, none⟩) NB173_174.out _).trans (hHeld.2.2.2.2.2.2.1)))))))), ((cell_far (p := ⟨gb174, _, none⟩) NB173_174.out _).trans (((cell_far (p := ⟨gb174, _, none⟩) NB173_174.out _).trans (((cell_far (p := ⟨gb174, _, none⟩) NB173_174.out _).trans (((cell_far (p := ⟨gb174, _, none⟩) NB173_174.out _).trans (hHeld.2.2.2.2.2.2.2.1)))))))), ((cell_far (p := ⟨gb174, _, none⟩) NB173_174.out _).trans (((cell_far (p := ⟨gb174, _, none⟩) NB173_174.out _).trans (((cell_far (p := ⟨gb174, _, none⟩) NB173_174.out _).trans (((cell_far (p := ⟨gb174, _, none⟩) NB173_174.out _).trans (hHeld.2.2.2.2.2.2.2.2.1)))))))), ((cell_far (p := ⟨gb174, _, none⟩) NB173_174.out _).trans (((cell_far (p := ⟨gb174, _, none⟩) NB173_174.out _).trans (((cell_far (p := ⟨gb174, _, none⟩) NB173_174.out _).trans (((cell_far (p := ⟨gb174, _, none⟩) NB173_174.out _).trans (hHeld.2.2.2.2.2.2.2.2.2.1)))))))), ((cell_far (p := ⟨gb174, _, none⟩) NB173_174.out _).trans (((cell_far (p := ⟨gb174, _, none⟩) NB173_174.out _).trans (((cell_far (p := ⟨gb174, _, none⟩) NB173_174.out _).trans (((cell_far (p := ⟨gb174, _, none⟩) NB173_174.out _).trans (hHeld.2.2.2.2.2.2.2.2.2.2.1)))))))), ((cell_far (p := ⟨gb174, _, none⟩) NB173_174.out _).trans (((cell_far (p := ⟨gb174, _, none⟩) NB173_174.out _).trans (((cell_far (p := ⟨gb174, _, none⟩) NB173_174.out _).trans (((cell_far (p := ⟨gb174, _, none⟩) NB173_174.out _).trans (hHeld.2.2.2.2.2.2.2.2.2.2.2.1)))))))), ((cell_far (p := ⟨gb174, _, none⟩) NB173_174.out _).trans (((cell_far (p := ⟨gb174, _, none⟩) NB173_174.out _).trans (((cell_far (p := ⟨gb174, _, none⟩) NB173_174.out _).trans (((cell_far (p := ⟨gb174, _, none⟩) NB173_174.out _).trans (hHeld.2.2.2.2.2.2.2.2.2.2.2.2.1)))))))), ((cell_far (p := ⟨gb174, _, none⟩) NB173_174.out _).trans (((cell_far (p := ⟨gb174, _, none⟩) NB173_174.out _).trans (((cell_far (p := ⟨gb174, _, none⟩) NB173_174.out _).trans (((cell_far (p := ⟨gb174, _, none⟩) NB173_174.out _).trans (hHeld.2.2.2.2.2.2.2.2.2.2.2.2.2.1)))))))), ((cell_far (p := ⟨gb174, _, none⟩) NB173_174.out _).trans (((cell_far (p := ⟨gb174, _, none⟩) NB173_174.out _).trans (((cell_far (p := ⟨gb174, _, none⟩) NB173_174.out _).trans (((cell_far (p := ⟨gb174, _, none⟩) NB173_174.out _).trans (hHeld.2.2.2.2.2.2.2.2.2.2.2.2.2.2.1)))))))), ((cell_far (p := ⟨gb174, _, none⟩) NB173_174.out _).trans (((cell_far (p := ⟨gb174, _, none⟩) NB173_174.out _).trans (((cell_far (p := ⟨gb174, _, none⟩) NB173_174.out _).trans (((cell_far (p := ⟨gb174, _, none⟩) NB173_174.out _).trans (hHeld.2.2.2.2.2.2.2.2.2.2.2.2.2.2.2.1)))))))), ((cell_far (p := ⟨gb174, _, none⟩) NB173_174.out _).trans (((cell_far (p := ⟨gb174, _, none⟩) NB173_174.out _).trans (((cell_far (p := ⟨gb174, _, none⟩) NB173_174.out _).trans (((cell_far (p := ⟨gb174, _, none⟩) NB173_174.out _).trans (hHeld.2.2.2.2.2.2.2.2.2.2.2.2.2.2.2.2.1)))))))), ((cell_far (p := ⟨gb174, _, none⟩) NB173_174.out _).trans (((cell_far (p := ⟨gb174, _, none⟩) NB173_174.out _).trans (((cell_far (p := ⟨gb174, _, none⟩) NB173_174.out _).trans (((cell_far (p := ⟨gb174, _, none⟩) NB173_174.out _).trans (hHeld.2.2.2.2.2.2.2.2.2.2.2.2.2.2.2.2.2))))))))⟩ (fun hHeld => ?_)
  clear hK K
  refine done_ (by kernel_rfl) ?_
  try go_wp2
  refine bodyPost_ret (results_tc rfl _ _ gb174 35 #[.bool a0_14, .bool a0_15, .bool a0_16, .bool a0_17] (0, 0) _ rfl (by (with_reducible repeat (first | refine blk_drewN ?_ _ | refine blk_drew ?_ | refine blk_alloc ?_ _)); refine blk_put (cs := #[.bool a0_14, .bool a0_15, .bool a0_16, .bool false]) ?_ 3 _ rfl; (with_reducible repeat (first | refine blk_drewN ?_ _ | refine blk_drew ?_ | refine blk_alloc ?_ _)); refine blk_put (cs := #[.bool a0_14, .bool a0_15, .bool false, .bool false]) ?_ 2 _ rfl; (with_reducible repeat (first | refine blk_drewN ?_ _ | refine blk_drew ?_ | refine blk_alloc ?_ _)); refine blk_put (cs := #[.bool a0_14, .bool false, .bool false, .bool false]) ?_ 1 _ rfl; (with_reducible repeat (first | refine blk_drewN ?_ _ | refine blk_drew ?_ | refine blk_alloc ?_ _)); refine blk_put (cs := #[.bool false, .bool false, .bool false, .bool false]) ?_ 0 _ rfl; (with_reducible repeat (first | refine blk_drewN ?_ _ | refine blk_drew ?_ | refine blk_alloc ?_ _)); exact BK174.out) Tryd.underlying35 rfl (by kernel_rfl)) rfl ?_
  exact ⟨by first | rfl | (simp [errW_none, errW_some] <;> rfl) | (simp [*, errW_none, errW_some] <;> rfl), by repeat (first | (with_reducible first | exact HB.out | apply below_alloc | apply pw_below_drewN | apply below_drew1 | refine below_set ?_ GE173.out | refine below_set ?_ GE174.out) | exact HB.out)⟩

/-! ### mask_again: function 62 -/
def mask_again.l0 : Nat → Int → Int → Option (Int)
 | 0, _, _ => none
 | k + 1, x0, x1 => if x1 < 64 then (if 0 ≤ x1 then (mask_again.l0 k (Go.bits .or .u64 x0 (shl .u64 x0 x1)) (wrap64 (x1 * 2))) else (none)) else (some x0)
def mask_again.f (k : Nat) (a0 : Int) (a1 : Int) : Option (Int) := mask_again.l0 k a0 a1
theorem mask_again.mono_l : ∀ k, (∀ y0 y1, LeO (mask_again.l0 k y0 y1) (mask_again.l0 (k + 1) y0 y1))
 | 0 => fun _ _ r h => by simp [mask_again.l0] at h
 | k + 1 => by
  have ih0 := mask_again.mono_l k
  ·
   intro y0 y1
   unfold mask_again.l0
   repeat' first
   | (with_reducible exact ih0 _ _)
   | (with_reducible exact LeO.refl _)
   | (with_reducible exact LeO.none _)
   | (with_reducible refine LeO.ite ?_ ?_)
   | (with_reducible refine LeO.bind ?_ (fun _ => ?_))
   | exact ih0 _ _
   | exact LeO.none _
   | refine LeO.ite ?_ ?_
   | refine LeO.bind ?_ (fun _ => ?_)
theorem mask_again.mono : ∀ a0 a1 k, LeO (mask_again.f k a0 a1) (mask_again.f (k + 1) a0 a1) := by
 intro a0 a1 k
 have ih0 := mask_again.mono_l k
 unfold mask_again.f
 repeat' first
   | (with_reducible exact ih0 _ _)
   | (with_reducible exact LeO.refl _)
   | (with_reducible exact LeO.none _)
   | (with_reducible refine LeO.ite ?_ ?_)
   | (with_reducible refine LeO.bind ?_ (fun _ => ?_))
   | exact ih0 _ _
   | exact LeO.none _
   | refine LeO.ite ?_ ?_
   | refine LeO.bind ?_ (fun _ => ?_)
set_option maxHeartbeats 8000000 in
set_option maxRecDepth 100000 in
theorem mask_again.calls (k : Nat) (a0 : Int) (a1 : Int) (r : Int) (w : World) (h : mask_again.f k a0 a1 = some r) :
    Calls Tryd.prog 62 #[.int .u64 a0, .int .i64 a1] w fun e w' => e = .returned (.int .u64 r) ∧ Drawn0 w w' := by
 have H : (mask_again.l0 k a0 a1) = some r := h
 clear h
 have H' := Aside0.mk H
 clear H
 go_enter Tryd.func62, Tryd.ntmps62
 go_wp2
 go_loopg [0, 1] k (fun kq v0 v1 w' => ∃ (x0_1 : Int) (x1_1 : Int), v0 = .int .u64 x0_1 ∧ v1 = .int .i64 x1_1 ∧ Aside0 (mask_again.l0 kq x0_1 x1_1 = some r) ∧ Aside0 (kq ≤ k) ∧ Drawn0 w w')
 case atStart => exact ⟨(a0), (a1), (by first | rfl | (simp; done) | (simp [*]; done)), (by first | rfl | (simp; done) | (simp [*]; done)), H', ⟨Nat.le_refl _⟩, by repeat (first | exact Drawn0.refl _ | apply Drawn0.step)⟩
 case round =>
  clear H'
  try clear p2
  obtain ⟨x0_1, x1_1, rfl, rfl, HA, HK1, ⟨m1, rfl⟩⟩ := hrel
  cases gk with
  | zero => exact absurd HA.out (by simp [mask_again.l0])
  | succ k1 =>
   have H := HA.out
   clear HA
   simp only [mask_again.l0] at H
   by_cases c3 : x1_1 < 64
   ·
    rw [if_pos c3] at H
    have c3b0 : decide (x1_1 < 64) = true := decide_eq_true c3
    clear c3
    by_cases c4 : 0 ≤ x1_1
    ·
     rw [if_pos c4] at H
     have c4b0 := eq_true c4
     have c4b1 : decide (0 ≤ x1_1) = true := decide_eq_true c4
     clear c4
     obtain ⟨ji5, hji5⟩ : ∃ j_ : Int, (shl .u64 x0_1 x1_1) = j_ := ⟨_, rfl⟩
     replace H : (mask_again.l0 k1 (Go.bits .or .u64 x0_1 (ji5)) (wrap64 (x1_1 * 2))) = some r := by first | (rw [hji5] at H; exact H) | (simp only [hji5] at H ⊢; exact H)
     have hji5_ : (IntKind.u64.wrap (x0_1 * 2 ^ min x1_1.toNat 64)) = ji5 := hji5
     have hji5z : x1_1 ≤ 64 → (IntKind.u64.wrap (x0_1 * 2 ^ x1_1.toNat)) = ji5 := shl_small hji5
     have H' := Aside0.mk H
     clear H
     go_wp2
     go_roundg k1
     case measure => have := HK1.out; omega
     case rel => exact ⟨(Go.bits .or .u64 x0_1 (ji5)), (wrap64 (x1_1 * 2)), (by first | rfl | (simp; done) | (simp only [← hji5] <;> (first | rfl | simp)) | (simp [*]; done)), (by first | rfl | (simp; done) | (simp [*]; done)), H', ⟨by have := HK1.out; omega⟩, by repeat (first | exact Drawn0.refl _ | apply Drawn0.step)⟩
    ·
     rw [if_neg c4] at H
     exact absurd H (by simp)
   ·
    rw [if_neg c3] at H
    have c3b0 : decide (x1_1 < 64) = false := decide_eq_false c3
    clear c3
    obtain rfl := Option.some.inj H
    go_wp2
    go_ret
    exact ⟨by first | rfl | (simp; done) | (simp [*]; done), by repeat (first | exact Drawn0.refl _ | apply Drawn0.step)⟩

/-! ### inst_shapeOf: function 35 -/
/-- What a shape's fields may be. -/
def inst_shL : List (Bool × Bool × Bool × Bool × Int × Int × Int × Int × Int × Int × Int × Bool) := [(false, false, false, false, 0, 0, 0, 0, 0, 0, 0, false), (true, false, false, false, 0, 65535, 1, 48, 16, 0, 0, false), (true, true, false, false, 0, 4095, 1, 12, 12, 0, 0, true), (true, true, false, false, 0, 0, 0, 0, 0, 0, 0, false), (true, true, true, false, 0, 0, 0, 63, 1, 2, 0, false), (true, true, true, false, 0, 0, 0, 63, 1, 3, 0, false), (true, true, true, true, 0, 0, 0, 0, 0, 0, 0, false), (true, true, false, false, 0, 32760, 8, 0, 0, 0, 0, true), (true, true, false, false, 0, 4095, 1, 0, 0, 0, 0, true), (true, false, false, false, (-1048576), 1048572, 4, 0, 0, 0, 0, false), (true, false, false, false, (-1048576), 1048575, 1, 0, 0, 0, 0, false), (false, false, false, false, (-134217728), 134217724, 4, 0, 0, 0, 0, false), (false, false, false, false, (-1048576), 1048572, 4, 0, 0, 0, 13, false), (false, true, false, false, 0, 0, 0, 0, 0, 0, 0, false), (false, false, false, false, 0, 65535, 1, 0, 0, 0, 0, false), (false, false, false, false, 0, 0, 0, 0, 0, 0, 0, false), (true, true, true, false, 0, 0, 0, 0, 0, 0, 13, false)]
def inst_sh (i : Nat) : Bool × Bool × Bool × Bool × Int × Int × Int × Int × Int × Int × Int × Bool := inst_shL.getD i (false, false, false, false, 0, 0, 0, 0, 0, 0, 0, false)
def inst_shv (t : Bool × Bool × Bool × Bool × Int × Int × Int × Int × Int × Int × Int × Bool) : Array Value := #[.bool t.1, .bool t.2.1, .bool t.2.2.1, .bool t.2.2.2.1, .int .i64 t.2.2.2.2.1, .int .i64 t.2.2.2.2.2.1, .int .i64 t.2.2.2.2.2.2.1, .int .i64 t.2.2.2.2.2.2.2.1, .int .i64 t.2.2.2.2.2.2.2.2.1, .int .i64 t.2.2.2.2.2.2.2.2.2.1, .int .i64 t.2.2.2.2.2.2.2.2.2.2.1, .bool t.2.2.2.2.2.2.2.2.2.2.2]
def inst_shz : Array Value := #[.bool false, .bool false, .bool false, .bool false, .int .i64 0, .int .i64 0, .int .i64 0, .int .i64 0, .int .i64 0, .int .i64 0, .int .i64 0, .bool false]
def inst_shAll : Array Value := #[.bool false, .bool false, .bool false, .bool false, .int .i64 0, .int .i64 0, .int .i64 0, .int .i64 0, .int .i64 0, .int .i64 0, .int .i64 0, .bool false, .bool true, .bool false, .bool false, .bool false, .int .i64 0, .int .i64 65535, .int .i64 1, .int .i64 48, .int .i64 16, .int .i64 0, .int .i64 0, .bool false, .bool true, .bool true, .bool false, .bool false, .int .i64 0, .int .i64 4095, .int .i64 1, .int .i64 12, .int .i64 12, .int .i64 0, .int .i64 0, .bool true, .bool true, .bool true, .bool false, .bool false, .int .i64 0, .int .i64 0, .int .i64 0, .int .i64 0, .int .i64 0, .int .i64 0, .int .i64 0, .bool false, .bool true, .bool true, .bool true, .bool false, .int .i64 0, .int .i64 0, .int .i64 0, .int .i64 63, .int .i64 1, .int .i64 2, .int .i64 0, .bool false, .bool true, .bool true, .bool true, .bool false, .int .i64 0, .int .i64 0, .int .i64 0, .int .i64 63, .int .i64 1, .int .i64 3, .int .i64 0, .bool false, .bool true, .bool true, .bool true, .bool true, .int .i64 0, .int .i64 0, .int .i64 0, .int .i64 0, .int .i64 0, .int .i64 0, .int .i64 0, .bool false, .bool true, .bool true, .bool false, .bool false, .int .i64 0, .int .i64 32760, .int .i64 8, .int .i64 0, .int .i64 0, .int .i64 0, .int .i64 0, .bool true, .bool true, .bool true, .bool false, .bool false, .int .i64 0, .int .i64 4095, .int .i64 1, .int .i64 0, .int .i64 0, .int .i64 0, .int .i64 0, .bool true, .bool true, .bool false, .bool false, .bool false, .int .i64 (-1048576), .int .i64 1048572, .int .i64 4, .int .i64 0, .int .i64 0, .int .i64 0, .int .i64 0, .bool false, .bool true, .bool false, .bool false, .bool false, .int .i64 (-1048576), .int .i64 1048575, .int .i64 1, .int .i64 0, .int .i64 0, .int .i64 0, .int .i64 0, .bool false, .bool false, .bool false, .bool false, .bool false, .int .i64 (-134217728), .int .i64 134217724, .int .i64 4, .int .i64 0, .int .i64 0, .int .i64 0, .int .i64 0, .bool false, .bool false, .bool false, .bool false, .bool false, .int .i64 (-1048576), .int .i64 1048572, .int .i64 4, .int .i64 0, .int .i64 0, .int .i64 0, .int .i64 13, .bool false, .bool false, .bool true, .bool false, .bool false, .int .i64 0, .int .i64 0, .int .i64 0, .int .i64 0, .int .i64 0, .int .i64 0, .int .i64 0, .bool false, .bool false, .bool false, .bool false, .bool false, .int .i64 0, .int .i64 65535, .int .i64 1, .int .i64 0, .int .i64 0, .int .i64 0, .int .i64 0, .bool false, .bool false, .bool false, .bool false, .bool false, .int .i64 0, .int .i64 0, .int .i64 0, .int .i64 0, .int .i64 0, .int .i64 0, .int .i64 0, .bool false, .bool true, .bool true, .bool true, .bool false, .int .i64 0, .int .i64 0, .int .i64 0, .int .i64 0, .int .i64 0, .int .i64 0, .int .i64 13, .bool false]
theorem inst_shzero : (Tryd.prog.info? 56).map (fun i => (i.zero, i.size)) = some (some (.agg inst_shz), 12) := by kernel_rfl
theorem inst_sh1 (W : World) : (Instr.build 56 #[(0, .bool true), (5, .int .i64 65535), (6, .int .i64 1), (7, .int .i64 48), (8, .int .i64 16)]).run Tryd.prog W = .ok (.agg (inst_shv (inst_sh 1))) W := run_build W _ _ _ (by kernel_rfl)
theorem inst_sh2 (W : World) : (Instr.build 56 #[(0, .bool true), (1, .bool true), (5, .int .i64 4095), (6, .int .i64 1), (7, .int .i64 12), (8, .int .i64 12), (11, .bool true)]).run Tryd.prog W = .ok (.agg (inst_shv (inst_sh 2))) W := run_build W _ _ _ (by kernel_rfl)
theorem inst_sh3 (W : World) : (Instr.build 56 #[(0, .bool true), (1, .bool true)]).run Tryd.prog W = .ok (.agg (inst_shv (inst_sh 3))) W := run_build W _ _ _ (by kernel_rfl)
theorem inst_sh4 (W : World) : (Instr.build 56 #[(0, .bool true), (1, .bool true), (2, .bool true), (7, .int .i64 63), (8, .int .i64 1), (9, .int .i64 2)]).run Tryd.prog W = .ok (.agg (inst_shv (inst_sh 4))) W := run_build W _ _ _ (by kernel_rfl)
theorem inst_sh5 (W : World) : (Instr.build 56 #[(0, .bool true), (1, .bool true), (2, .bool true), (7, .int .i64 63), (8, .int .i64 1), (9, .int .i64 3)]).run Tryd.prog W = .ok (.agg (inst_shv (inst_sh 5))) W := run_build W _ _ _ (by kernel_rfl)
theorem inst_sh6 (W : World) : (Instr.build 56 #[(0, .bool true), (1, .bool true), (2, .bool true), (3, .bool true)]).run Tryd.prog W = .ok (.agg (inst_shv (inst_sh 6))) W := run_build W _ _ _ (by kernel_rfl)
theorem inst_sh7 (W : World) : (Instr.build 56 #[(0, .bool true), (1, .bool true), (5, .int .i64 32760), (6, .int .i64 8), (11, .bool true)]).run Tryd.prog W = .ok (.agg (inst_shv (inst_sh 7))) W := run_build W _ _ _ (by kernel_rfl)
theorem inst_sh8 (W : World) : (Instr.build 56 #[(0, .bool true), (1, .bool true), (5, .int .i64 4095), (6, .int .i64 1), (11, .bool true)]).run Tryd.prog W = .ok (.agg (inst_shv (inst_sh 8))) W := run_build W _ _ _ (by kernel_rfl)
theorem inst_sh9 (W : World) : (Instr.build 56 #[(0, .bool true), (4, .int .i64 (-1048576)), (5, .int .i64 1048572), (6, .int .i64 4)]).run Tryd.prog W = .ok (.agg (inst_shv (inst_sh 9))) W := run_build W _ _ _ (by kernel_rfl)
theorem inst_sh10 (W : World) : (Instr.build 56 #[(0, .bool true), (4, .int .i64 (-1048576)), (5, .int .i64 1048575), (6, .int .i64 1)]).run Tryd.prog W = .ok (.agg (inst_shv (inst_sh 10))) W := run_build W _ _ _ (by kernel_rfl)
theorem inst_sh11 (W : World) : (Instr.build 56 #[(4, .int .i64 (-134217728)), (5, .int .i64 134217724), (6, .int .i64 4)]).run Tryd.prog W = .ok (.agg (inst_shv (inst_sh 11))) W := run_build W _ _ _ (by kernel_rfl)
theorem inst_sh12 (W : World) : (Instr.build 56 #[(4, .int .i64 (-1048576)), (5, .int .i64 1048572), (6, .int .i64 4), (10, .int .i64 13)]).run Tryd.prog W = .ok (.agg (inst_shv (inst_sh 12))) W := run_build W _ _ _ (by kernel_rfl)
theorem inst_sh13 (W : World) : (Instr.build 56 #[(1, .bool true)]).run Tryd.prog W = .ok (.agg (inst_shv (inst_sh 13))) W := run_build W _ _ _ (by kernel_rfl)
theorem inst_sh14 (W : World) : (Instr.build 56 #[(5, .int .i64 65535), (6, .int .i64 1)]).run Tryd.prog W = .ok (.agg (inst_shv (inst_sh 14))) W := run_build W _ _ _ (by kernel_rfl)
theorem inst_sh16 (W : World) : (Instr.build 56 #[(0, .bool true), (1, .bool true), (2, .bool true), (10, .int .i64 13)]).run Tryd.prog W = .ok (.agg (inst_shv (inst_sh 16))) W := run_build W _ _ _ (by kernel_rfl)
theorem inst_shBuild (W : World) : (Instr.build 71 #[(1, .agg (inst_shv (inst_sh 1))), (2, .agg (inst_shv (inst_sh 2))), (3, .agg (inst_shv (inst_sh 3))), (4, .agg (inst_shv (inst_sh 4))), (5, .agg (inst_shv (inst_sh 5))), (6, .agg (inst_shv (inst_sh 6))), (7, .agg (inst_shv (inst_sh 7))), (8, .agg (inst_shv (inst_sh 8))), (9, .agg (inst_shv (inst_sh 9))), (10, .agg (inst_shv (inst_sh 10))), (11, .agg (inst_shv (inst_sh 11))), (12, .agg (inst_shv (inst_sh 12))), (13, .agg (inst_shv (inst_sh 13))), (14, .agg (inst_shv (inst_sh 14))), (16, .agg (inst_shv (inst_sh 16)))]).run Tryd.prog W = .ok (.agg inst_shAll) W := run_build W _ _ _ (by kernel_rfl)
theorem inst_shIndex : ∀ (i : Nat) (_ : i < 17) (W : World), (Instr.index 71 (.agg inst_shAll) (.int .i64 (i : Int))).run Tryd.prog W = .ok (.agg (inst_shv (inst_sh i))) W
  | 0, _, _ => by kernel_rfl
  | 1, _, _ => by kernel_rfl
  | 2, _, _ => by kernel_rfl
  | 3, _, _ => by kernel_rfl
  | 4, _, _ => by kernel_rfl
  | 5, _, _ => by kernel_rfl
  | 6, _, _ => by kernel_rfl
  | 7, _, _ => by kernel_rfl
  | 8, _, _ => by kernel_rfl
  | 9, _, _ => by kernel_rfl
  | 10, _, _ => by kernel_rfl
  | 11, _, _ => by kernel_rfl
  | 12, _, _ => by kernel_rfl
  | 13, _, _ => by kernel_rfl
  | 14, _, _ => by kernel_rfl
  | 15, _, _ => by kernel_rfl
  | 16, _, _ => by kernel_rfl
  | i + 17, h, _ => absurd h (by omega)
def inst_shapeOf.f (a0 : Int) : Option (Bool × Bool × Bool × Bool × Int × Int × Int × Int × Int × Int × Int × Bool) := if 0 ≤ a0 ∧ a0 < 17 then some (inst_sh a0.toNat) else none
theorem inst_sh_load (W : World) (t : Bool × Bool × Bool × Bool × Int × Int × Int × Int × Int × Int × Int × Bool) : (loadCellsFrom ⟨W.heap.size, 0, none⟩ 0 12 #[]).run Tryd.prog (W.alloc (.cells (inst_shv t) 56)) = .ok (inst_shv t) (W.alloc (.cells (inst_shv t) 56)) := run_loadCellsFrom_new W _ _ 12 rfl
attribute [-go_sem] Instr.build Instr.fill in
set_option maxHeartbeats 12800000 in
set_option maxRecDepth 100000 in
theorem inst_shapeOf.calls (a0 : Int) (r1 : Bool) (r2 : Bool) (r3 : Bool) (r4 : Bool) (r5 : Int) (r6 : Int) (r7 : Int) (r8 : Int) (r9 : Int) (r10 : Int) (r11 : Int) (r12 : Bool) (w : World) (h : inst_shapeOf.f a0 = some (r1, r2, r3, r4, r5, r6, r7, r8, r9, r10, r11, r12)) :
    Calls Tryd.prog 35 #[.int .i64 a0] w fun e w' => e = .returned (.agg #[.bool r1, .bool r2, .bool r3, .bool r4, .int .i64 r5, .int .i64 r6, .int .i64 r7, .int .i64 r8, .int .i64 r9, .int .i64 r10, .int .i64 r11, .bool r12]) ∧ Below w.heap.size w w' := by
  unfold inst_shapeOf.f at h
  split at h
  · rename_i hh
    obtain ⟨i, rfl⟩ := Int.eq_ofNat_of_zero_le hh.1
    have e := Option.some.inj h
    rw [Int.toNat_natCast] at e
    have ev : (.agg (inst_shv (inst_sh i)) : Value) = .agg #[.bool r1, .bool r2, .bool r3, .bool r4, .int .i64 r5, .int .i64 r6, .int .i64 r7, .int .i64 r8, .int .i64 r9, .int .i64 r10, .int .i64 r11, .bool r12] := by rw [e]; rfl
    rw [← ev]
    clear ev e h
    obtain ⟨hz, hs⟩ := zero_of_info inst_shzero
    have hst := run_storeCells_new (P := Tryd.prog) w 56 inst_shz (inst_shv (inst_sh i)) hs rfl (by simp [inst_shv, Value.oneCell'])
    have hld := inst_sh_load w (inst_sh i)
    have hsz : (inst_shv (inst_sh i)).size = 12 := rfl
    have hi := inst_shIndex i (by omega)
    have hb1 := inst_sh1
    have hb2 := inst_sh2
    have hb3 := inst_sh3
    have hb4 := inst_sh4
    have hb5 := inst_sh5
    have hb6 := inst_sh6
    have hb7 := inst_sh7
    have hb8 := inst_sh8
    have hb9 := inst_sh9
    have hb10 := inst_sh10
    have hb11 := inst_sh11
    have hb12 := inst_sh12
    have hb13 := inst_sh13
    have hb14 := inst_sh14
    have hb16 := inst_sh16
    have hba := inst_shBuild
    go_enter Tryd.func35, Tryd.ntmps35
    go_wp2
    clear hba hb1 hb2 hb3 hb4 hb5 hb6 hb7 hb8 hb9 hb10 hb11 hb12 hb13 hb14 hb16
    refine bodyPost_ret (v := .agg (inst_shv (inst_sh i))) (results_cell_ rfl _ _ rfl (heap_last_ w _) Tryd.underlying56 rfl hs) rfl ⟨rfl, (Below.refl _ _).alloc (Nat.le_refl _) _⟩
  · simp at h

/-! ### inst_register: function 36 -/
def inst_register.f (a0 : Bool) (a1 : Int) : Option (Bool) := if a1 = 0 then (some true) else (if a0 = true then (if a1 > 0 then (some (decide (a1 ≤ 31))) else (some false)) else (some false))
set_option maxHeartbeats 8000000 in
set_option maxRecDepth 100000 in
theorem inst_register.calls (a0 : Bool) (a1 : Int) (r : Bool) (w : World) (h : inst_register.f a0 a1 = some r) :
    Calls Tryd.prog 36 #[.bool a0, .int .i64 a1] w fun e w' => e = .returned (.bool r) ∧ Drawn0 w w' := by
 have H : (if a1 = 0 then (some true) else (if a0 = true then (if a1 > 0 then (some (decide (a1 ≤ 31))) else (some false)) else (some false))) = some r := h
 clear h
 by_cases c3 : a1 = 0
 ·
  rw [if_pos c3] at H
  have c3b0 : (a1 == 0) = true := beq_iff_eq.mpr c3
  have c3b1 : (a1 != 0) = false := bne_eq_false_iff_eq.mpr c3
  clear c3
  obtain rfl := Option.some.inj H
  go_enter Tryd.func36, Tryd.ntmps36
  go_wp2
  go_ret
  exact ⟨by first | rfl | (simp; done) | (simp [*]; done), by repeat (first | exact Drawn0.refl _ | apply Drawn0.step)⟩
 ·
  rw [if_neg c3] at H
  have c3b0 : (a1 == 0) = false := beq_eq_false_iff_ne.mpr c3
  have c3b1 : (a1 != 0) = true := bne_iff_ne.mpr c3
  by_cases c4 : a0 = true
  ·
   subst c4
   have H1 : (if a1 > 0 then (some (decide (a1 ≤ 31))) else (some false)) = some r := by rw [if_pos rfl] at H; exact H
   clear H
   have H := H1
   clear H1
   by_cases c5 : a1 > 0
   ·
    rw [if_pos c5] at H
    have c5b0 : decide (0 < a1) = true := decide_eq_true c5
    clear c5
    obtain rfl := Option.some.inj H
    go_enter Tryd.func36, Tryd.ntmps36
    go_wp2
    go_ret
    exact ⟨by first | rfl | (simp; done) | (simp [*]; done), by repeat (first | exact Drawn0.refl _ | apply Drawn0.step)⟩
   ·
    rw [if_neg c5] at H
    have c5b0 : decide (0 < a1) = false := decide_eq_false c5
    clear c5
    obtain rfl := Option.some.inj H
    go_enter Tryd.func36, Tryd.ntmps36
    go_wp2
    go_ret
    exact ⟨by first | rfl | (simp; done) | (simp [*]; done), by repeat (first | exact Drawn0.refl _ | apply Drawn0.step)⟩
  ·
   replace c4 := Bool.eq_false_iff.mpr c4
   subst c4
   have H1 : (some false) = some r := by rw [if_neg (show ¬ (false = true) by decide)] at H; exact H
   clear H
   have H := H1
   clear H1
   obtain rfl := Option.some.inj H
   go_enter Tryd.func36, Tryd.ntmps36
   go_wp2
   go_ret
   exact ⟨by first | rfl | (simp; done) | (simp [*]; done), by repeat (first | exact Drawn0.refl _ | apply Drawn0.step)⟩

/-! ### inst_step: function 37 -/
def inst_step.f (a0 : Int) (a1 : Int) (a2 : Int) (a3 : Int) : Option (Bool) := if a3 = 0 then (some (a0 == 0)) else (if a0 ≥ a1 then (if a0 ≤ a2 then (some ((Int.tmod a0 a3) == 0)) else (some false)) else (some false))
set_option maxHeartbeats 8000000 in
set_option maxRecDepth 100000 in
theorem inst_step.calls (a0 : Int) (a1 : Int) (a2 : Int) (a3 : Int) (r : Bool) (w : World) (h : inst_step.f a0 a1 a2 a3 = some r) :
    Calls Tryd.prog 37 #[.int .i64 a0, .int .i64 a1, .int .i64 a2, .int .i64 a3] w fun e w' => e = .returned (.bool r) ∧ Drawn0 w w' := by
 have H : (if a3 = 0 then (some (a0 == 0)) else (if a0 ≥ a1 then (if a0 ≤ a2 then (some ((Int.tmod a0 a3) == 0)) else (some false)) else (some false))) = some r := h
 clear h
 by_cases c5 : a3 = 0
 ·
  rw [if_pos c5] at H
  have c5b0 : (a3 == 0) = true := beq_iff_eq.mpr c5
  have c5b1 : (a3 != 0) = false := bne_eq_false_iff_eq.mpr c5
  clear c5
  obtain rfl := Option.some.inj H
  go_enter Tryd.func37, Tryd.ntmps37
  go_wp2
  go_ret
  exact ⟨by first | rfl | (simp; done) | (simp [*]; done), by repeat (first | exact Drawn0.refl _ | apply Drawn0.step)⟩
 ·
  rw [if_neg c5] at H
  have c5b0 : (a3 == 0) = false := beq_eq_false_iff_ne.mpr c5
  have c5b1 : (a3 != 0) = true := bne_iff_ne.mpr c5
  by_cases c6 : a0 ≥ a1
  ·
   rw [if_pos c6] at H
   have c6b0 : decide (a1 ≤ a0) = true := decide_eq_true c6
   clear c6
   by_cases c7 : a0 ≤ a2
   ·
    rw [if_pos c7] at H
    have c7b0 : decide (a0 ≤ a2) = true := decide_eq_true c7
    clear c7
    obtain rfl := Option.some.inj H
    go_enter Tryd.func37, Tryd.ntmps37
    go_wp2
    go_ret
    exact ⟨by first | rfl | (simp; done) | (simp [*]; done), by repeat (first | exact Drawn0.refl _ | apply Drawn0.step)⟩
   ·
    rw [if_neg c7] at H
    have c7b0 : decide (a0 ≤ a2) = false := decide_eq_false c7
    clear c7
    obtain rfl := Option.some.inj H
    go_enter Tryd.func37, Tryd.ntmps37
    go_wp2
    go_ret
    exact ⟨by first | rfl | (simp; done) | (simp [*]; done), by repeat (first | exact Drawn0.refl _ | apply Drawn0.step)⟩
  ·
   rw [if_neg c6] at H
   have c6b0 : decide (a1 ≤ a0) = false := decide_eq_false c6
   clear c6
   obtain rfl := Option.some.inj H
   go_enter Tryd.func37, Tryd.ntmps37
   go_wp2
   go_ret
   exact ⟨by first | rfl | (simp; done) | (simp [*]; done), by repeat (first | exact Drawn0.refl _ | apply Drawn0.step)⟩

-- NOT PRINTED: function 60 (mask_sizes)

/-! ### bits_ones: function 63 -/
def bits_ones.f (a0 : Int) : Option (Int) := if a0 ≥ 64 then (some 18446744073709551615) else (if 0 ≤ a0 then (some (IntKind.u64.wrap ((shl .u64 1 a0) - 1))) else (none))
set_option maxHeartbeats 8000000 in
set_option maxRecDepth 100000 in
theorem bits_ones.calls (a0 : Int) (r : Int) (w : World) (h : bits_ones.f a0 = some r) :
    Calls Tryd.prog 63 #[.int .i64 a0] w fun e w' => e = .returned (.int .u64 r) ∧ Drawn0 w w' := by
 have H : (if a0 ≥ 64 then (some 18446744073709551615) else (if 0 ≤ a0 then (some (IntKind.u64.wrap ((shl .u64 1 a0) - 1))) else (none))) = some r := h
 clear h
 by_cases c2 : a0 ≥ 64
 ·
  rw [if_pos c2] at H
  have c2b0 : decide (64 ≤ a0) = true := decide_eq_true c2
  clear c2
  obtain rfl := Option.some.inj H
  go_enter Tryd.func63, Tryd.ntmps63
  go_wp2
  go_ret
  exact ⟨by first | rfl | (simp; done) | (simp [*]; done), by repeat (first | exact Drawn0.refl _ | apply Drawn0.step)⟩
 ·
  rw [if_neg c2] at H
  have c2b0 : decide (64 ≤ a0) = false := decide_eq_false c2
  clear c2
  by_cases c3 : 0 ≤ a0
  ·
   rw [if_pos c3] at H
   have c3b0 := eq_true c3
   have c3b1 : decide (0 ≤ a0) = true := decide_eq_true c3
   clear c3
   obtain ⟨ji4, hji4⟩ : ∃ j_ : Int, (shl .u64 1 a0) = j_ := ⟨_, rfl⟩
   replace H : (some (IntKind.u64.wrap ((ji4) - 1))) = some r := by first | (rw [hji4] at H; exact H) | (simp only [hji4] at H ⊢; exact H)
   have hji4_ : (IntKind.u64.wrap (1 * 2 ^ min a0.toNat 64)) = ji4 := hji4
   have hji4z : a0 ≤ 64 → (IntKind.u64.wrap (1 * 2 ^ a0.toNat)) = ji4 := shl_small hji4
   have hji4u : (IntKind.u64.wrap (2 ^ min a0.toNat 64)) = ji4 := by have h_ := hji4_; rw [Int.one_mul] at h_; exact h_
   have hji4v : a0 ≤ 64 → (IntKind.u64.wrap (2 ^ a0.toNat)) = ji4 := fun hle_ => by have h_ := hji4z hle_; rw [Int.one_mul] at h_; exact h_
   obtain rfl := Option.some.inj H
   go_enter Tryd.func63, Tryd.ntmps63
   go_wp2
   go_ret
   exact ⟨by first | rfl | (simp; done) | (simp only [← hji4] <;> (first | rfl | simp)) | (simp [*]; done), by repeat (first | exact Drawn0.refl _ | apply Drawn0.step)⟩
  ·
   rw [if_neg c3] at H
   exact absurd H (by simp)

/-! ### bits_Low: function 54 -/
def bits_Low.f (a0 : Int) (a1 : Int) : Option (Int) := (bits_ones.f (mn (mx a1 0) 64)).bind fun t177 => (some (Go.bits .and .u64 a0 t177))
set_option maxHeartbeats 8000000 in
set_option maxRecDepth 100000 in
theorem bits_Low.calls (a0 : Int) (a1 : Int) (r : Int) (w : World) (h : bits_Low.f a0 a1 = some r) :
    Calls Tryd.prog 54 #[.int .u64 a0, .int .i64 a1] w fun e w' => e = .returned (.int .u64 r) ∧ Below w.heap.size w w' := by
 have HB := Aside0.mk (Below.refl w.heap.size w)
 have H : ((bits_ones.f (mn (mx a1 0) 64)).bind fun t177 => (some (Go.bits .and .u64 a0 t177))) = some r := h
 clear h
 obtain ⟨ji3, hji3⟩ : ∃ j_ : Int, (mx a1 0) = j_ := ⟨_, rfl⟩
 replace H : ((bits_ones.f (mn (ji3) 64)).bind fun t177 => (some (Go.bits .and .u64 a0 t177))) = some r := by first | (rw [hji3] at H; exact H) | (simp only [hji3] at H ⊢; exact H)
 (try (have hji3l : 0 ≤ ji3 := by (rw [← hji3]; unfold mx; (repeat' split) <;> omega)))
 (try (have hji3m : 0 ≤ ji3 := by omega))
 have hji3_ : (if a1 < 0 then 0 else a1) = ji3 := hji3
 obtain ⟨ji4, hji4⟩ : ∃ j_ : Int, (mn (ji3) 64) = j_ := ⟨_, rfl⟩
 replace H : ((bits_ones.f (ji4)).bind fun t177 => (some (Go.bits .and .u64 a0 t177))) = some r := by first | (rw [hji4] at H; exact H) | (simp only [hji4] at H ⊢; exact H)
 have hji4_ : (if 64 < (ji3) then 64 else (ji3)) = ji4 := hji4
 replace H := Option.bind_eq_some_iff.mp H
 obtain ⟨t177, A50, H⟩ := H
 replace H : (some (Go.bits .and .u64 a0 t177)) = some r := H
 have A5 := Aside0.mk A50
 clear A50
 obtain rfl := Option.some.inj H
 go_enter Tryd.func54, Tryd.ntmps54
 go_wp2_with (first | ((with_reducible refine gate_callee (f := 63) rfl ?_); refine goesL_ (some 9) rfl rfl Tryd.func63 (by kernel_rfl) rfl #[.int .i64 ji4] rfl (by (try simp only [List.map_toArray, List.map_cons, List.map_nil]); first | done | (simp only [hji4]; rfl) | rfl | (simp only [List.length_drop, List.length_take]; rfl)) ?_; (with_reducible refine (bits_ones.calls ji4 t177 _ A5.out).mono ?_); rintro e w' ⟨rfl, ⟨nd, rfl⟩⟩; refine ⟨_, rfl, ?_⟩))
 go_ret
 exact ⟨by first | rfl | (simp [errW_none, errW_some] <;> rfl) | (simp only [← hji3, ← hji4]; first | rfl | (simp [errW_none, errW_some] <;> rfl)) | (simp [*, errW_none, errW_some] <;> rfl), by repeat (first | (with_reducible first | exact HB.out | apply below_alloc | apply pw_below_drewN | apply below_drew1) | exact HB.out)⟩

end Go.Proofs.YtkmochnefidlmaaDoor.P
