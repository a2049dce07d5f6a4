/- Written for this claim by a program of this session (drive.py, over the print of the kit): Lean functions with the answers of Go functions, and the proofs that the Go code comes to these answers, under no condition but the readings of the arguments that each theorem names. -/
import Derived.Test.YtclomjndhcpmfaaPx0
namespace Go.Proofs.Ytclomjndhcpmfaa.P
open Go.RowKit Go.Proofs.YtclomjndhcpmfaaW.PrintWords Go.Proofs.YtclomjndhcpmfaaW.PrintLast Go.Proofs.YtclomjndhcpmfaaW.PrintMore
attribute [local go_sem] max2_int min2_int max_two min_two max_three min_three max_four min_four   -- for this text's walks alone
set_option linter.unusedVariables false
set_option linter.unusedSimpArgs false

/-! ### flag_Of: function 23 -/
def flag_Of.f (a0 : Int) : Option (Bool × Bool × Bool × Bool) := some (decide (wrap64 a0 < 0), (a0 == 0), false, false)
theorem flag_Of.exact (a0 : Int) (w : World) :
    Calls Try.prog 23 #[.int .u64 a0] w fun e w' => e = .returned (.agg #[.bool (decide (wrap64 a0 < 0)), .bool (a0 == 0), .bool false, .bool false]) ∧
      w.alloc (.cells #[.bool (decide (wrap64 a0 < 0)), .bool (a0 == 0), .bool false, .bool false] 24) = w' := by
  go_enter Try.func23, Try.ntmps23
  go_wp2
  exact bodyPost_ret (v := .agg #[.bool (decide (wrap64 a0 < 0)), .bool (a0 == 0), .bool false, .bool false]) (by simp [results, Try.results23, go_sem]) rfl ⟨rfl, rfl⟩
theorem flag_Of.calls (a0 : Int) (r1 : Bool) (r2 : Bool) (r3 : Bool) (r4 : Bool) (w : World) (h : flag_Of.f a0 = some (r1, r2, r3, r4)) :
    Calls Try.prog 23 #[.int .u64 a0] w fun e w' => e = .returned (.agg #[.bool r1, .bool r2, .bool r3, .bool r4]) ∧ Below w.heap.size w w' := by
  simp only [flag_Of.f, Option.some.injEq, Prod.mk.injEq] at h
  obtain ⟨rfl, rfl, rfl, rfl⟩ := h
  refine (flag_Of.exact a0 w).mono ?_
  rintro e w1 ⟨rfl, rfl⟩
  exact ⟨rfl, (Below.refl _ _).alloc (Nat.le_refl _) _⟩

-- NOT PRINTED: function 41 (bits_Add64)

/-! ### flag_Add: function 14 -/
theorem run_Add64 (x y c : Int) (hx : 0 ≤ x) (hy : 0 ≤ y) (hc0 : 0 ≤ c) (hc : c ≤ 1) (w : World) :
    (callFunc 41 #[.int .u64 x, .int .u64 y, .int .u64 c]).run Try.prog w =
      .ok (.value (.tuple #[.int .u64 ((x + y + c) % 18446744073709551616), .int .u64 ((x + y + c) / 18446744073709551616)])) w := by
  rw [run_callFunc_extern Try.func41 (by kernel_rfl) (by kernel_rfl) (by kernel_rfl) (e := add64Entry) (by kernel_rfl), run_add64 x y c hx hy hc0 hc]
  rfl
/-- Add as the Go text makes it: the sum, and N, Z, C, V. -/
def flag_sum (a0 a1 : Int) (a2 : Bool) : Int := (a0 + a1 + (if a2 = true then 1 else 0)) % 18446744073709551616
def flag_Add.f (a0 : Int) (a1 : Int) (a2 : Bool) : Option (Int × Bool × Bool × Bool × Bool) :=
  if 0 ≤ a0 then (if 0 ≤ a1 then some (flag_sum a0 a1 a2, decide (wrap64 (flag_sum a0 a1 a2) < 0), flag_sum a0 a1 a2 == 0, (a0 + a1 + (if a2 = true then 1 else 0)) / 18446744073709551616 == 1,
    decide (wrap64 (Go.bits .and .u64 (Go.bits .xor .u64 a0 (flag_sum a0 a1 a2)) (Go.bits .xor .u64 a1 (flag_sum a0 a1 a2))) < 0)) else none) else none
set_option maxHeartbeats 8000000 in
set_option maxRecDepth 100000 in
theorem flag_Add.calls (a0 : Int) (a1 : Int) (a2 : Bool) (r1 : Int) (r2 : Bool) (r3 : Bool) (r4 : Bool) (r5 : Bool) (w : World) (h : flag_Add.f a0 a1 a2 = some (r1, r2, r3, r4, r5)) :
    Calls Try.prog 14 #[.int .u64 a0, .int .u64 a1, .bool a2] w fun e w' => e = .returned (.tuple #[.int .u64 r1, .agg #[.bool r2, .bool r3, .bool r4, .bool r5]]) ∧ Below w.heap.size w w' := by
  by_cases h0 : 0 ≤ a0
  · by_cases h1 : 0 ≤ a1
    · simp only [flag_Add.f, h0, h1, if_true, Option.some.injEq, Prod.mk.injEq] at h
      obtain ⟨rfl, rfl, rfl, rfl, rfl⟩ := h
      cases a2
      · have hr := fun W => run_Add64 a0 a1 0 h0 h1 (by omega) (by omega) W
        simp only [flag_sum, Bool.false_eq_true, if_false, Int.add_zero]
        go_enter Try.func14, Try.ntmps14
        go_wp2_with (first | (go_at_call 23; refine (flag_Of.exact _ _).mono ?_; rintro e w1 ⟨rfl, rfl⟩))
        go_region
        all_goals go_wp2
        all_goals refine bodyPost_ret (v := .tuple #[.int .u64 _, .agg #[.bool _, .bool _, .bool _, .bool _]]) (by simp [results, Try.results14, go_sem]) rfl ⟨rfl, ?_⟩
        all_goals repeat (first | exact Below.refl _ _ | apply below_drew | apply below_alloc)
      · have hr := fun W => run_Add64 a0 a1 1 h0 h1 (by omega) (by omega) W
        simp only [flag_sum, if_true]
        go_enter Try.func14, Try.ntmps14
        go_wp2_with (first | (go_at_call 23; refine (flag_Of.exact _ _).mono ?_; rintro e w1 ⟨rfl, rfl⟩))
        go_region
        all_goals go_wp2
        all_goals refine bodyPost_ret (v := .tuple #[.int .u64 _, .agg #[.bool _, .bool _, .bool _, .bool _]]) (by simp [results, Try.results14, go_sem]) rfl ⟨rfl, ?_⟩
        all_goals repeat (first | exact Below.refl _ _ | apply below_drew | apply below_alloc)
    · simp [flag_Add.f, h1] at h
  · simp [flag_Add.f, h0] at h

/-! ### cleatref01_Power: function 43 -/
def cleatref01_Power.l0 : Nat → Int → Int → Int → Option (Int)
  | 0, _, _, _ => none
  | k + 1, x0, x3, x4 => if x4 < x0 then (cleatref01_Power.l0 k x0 (IntKind.u64.wrap (2 * x3)) (wrap64 (x4 + 1))) else (some x3)
def cleatref01_Power.f (k : Nat) (a0 : Int) : Option (Int) := cleatref01_Power.l0 k a0 1 0
theorem cleatref01_Power.mono_l : ∀ k, (∀ y0 y1 y2, LeO (cleatref01_Power.l0 k y0 y1 y2) (cleatref01_Power.l0 (k + 1) y0 y1 y2))
  | 0 => fun _ _ _ r h => by simp [cleatref01_Power.l0] at h
  | k + 1 => by
    have ih0 := cleatref01_Power.mono_l k
    · intro y0 y1 y2
      unfold cleatref01_Power.l0
      repeat' first
      | (with_reducible exact ih0 _ _ _)
      | (with_reducible exact LeO.refl _)
      | (with_reducible exact LeO.none _)
      | (with_reducible refine LeO.ite ?_ ?_)
      | (with_reducible refine LeO.bind ?_ (fun _ => ?_))
      | exact ih0 _ _ _
      | exact LeO.none _
      | refine LeO.ite ?_ ?_
      | refine LeO.bind ?_ (fun _ => ?_)
theorem cleatref01_Power.mono : ∀ a0 k, LeO (cleatref01_Power.f k a0) (cleatref01_Power.f (k + 1) a0) := by
  intro a0 k
  have ih0 := cleatref01_Power.mono_l k
  unfold cleatref01_Power.f
  repeat' first
      | (with_reducible exact ih0 _ _ _)
      | (with_reducible exact LeO.refl _)
      | (with_reducible exact LeO.none _)
      | (with_reducible refine LeO.ite ?_ ?_)
      | (with_reducible refine LeO.bind ?_ (fun _ => ?_))
      | exact ih0 _ _ _
      | exact LeO.none _
      | refine LeO.ite ?_ ?_
      | refine LeO.bind ?_ (fun _ => ?_)
set_option maxHeartbeats 8000000 in
set_option maxRecDepth 100000 in
theorem cleatref01_Power.calls (k : Nat) (a0 : Int) (r : Int) (w : World) (h : cleatref01_Power.f k a0 = some r) :
    Calls Try.prog 43 #[.int .i64 a0] w fun e w' => e = .returned (.int .u64 r) ∧ Drawn0 w w' := by
  have H : (cleatref01_Power.l0 k a0 1 0) = some r := h
  clear h
  have H' := Aside0.mk H
  clear H
  go_enter Try.func43, Try.ntmps43
  go_wp2
  go_loopg [3, 4] k (fun kq v3 v4 w' => ∃ (x3_1 : Int) (x4_1 : Int), v3 = .int .u64 x3_1 ∧ v4 = .int .i64 x4_1 ∧ Aside0 (cleatref01_Power.l0 kq a0 x3_1 x4_1 = some r) ∧ Aside0 (kq ≤ k) ∧ Drawn0 w w')
  case atStart => exact ⟨(1), (0), (by first | rfl | (simp; done) | (simp [*]; done)), (by first | rfl | (simp; done) | (simp [*]; done)), H', ⟨Nat.le_refl _⟩, by repeat (first | exact Drawn0.refl _ | apply Drawn0.step)⟩
  case round =>
    clear H'
    obtain ⟨x3_1, x4_1, rfl, rfl, HA, HK1, ⟨m1, rfl⟩⟩ := hrel
    cases gk with
    | zero => exact absurd HA.out (by simp [cleatref01_Power.l0])
    | succ k1 =>
      have H := HA.out
      clear HA
      simp only [cleatref01_Power.l0] at H
      by_cases c2 : x4_1 < a0
      · rw [if_pos c2] at H
        have c2b0 : decide (x4_1 < a0) = true := decide_eq_true c2
        clear c2
        have H' := Aside0.mk H
        clear H
        go_wp2
        go_roundg k1
        case measure => have := HK1.out; omega
        case rel => exact ⟨(IntKind.u64.wrap (2 * x3_1)), (wrap64 (x4_1 + 1)), (by first | rfl | (simp; done) | (simp [*]; done)), (by first | rfl | (simp; done) | (simp [*]; done)), H', ⟨by have := HK1.out; omega⟩, by repeat (first | exact Drawn0.refl _ | apply Drawn0.step)⟩
      · rw [if_neg c2] at H
        have c2b0 : decide (x4_1 < a0) = false := decide_eq_false c2
        clear c2
        obtain rfl := Option.some.inj H
        go_wp2
        go_ret
        exact ⟨by first | rfl | (simp; done) | (simp [*]; done), by repeat (first | exact Drawn0.refl _ | apply Drawn0.step)⟩

/-! ### cleatref01_Bit: function 42 -/
def cleatref01_Bit.f (k : Nat) (a0 : Int) (a1 : Int) : Option (Bool) := (cleatref01_Power.f k a1).bind fun t101 => (if t101 = 0 then (none) else (some ((Int.tmod (IntKind.u64.wrap (Int.tdiv a0 t101)) 2) == 1)))
theorem cleatref01_Bit.mono : ∀ a0 a1 k, LeO (cleatref01_Bit.f k a0 a1) (cleatref01_Bit.f (k + 1) a0 a1) := by
  intro a0 a1 k
  unfold cleatref01_Bit.f
  repeat' first
      | (with_reducible exact cleatref01_Power.mono _ _)
      | (with_reducible exact LeO.refl _)
      | (with_reducible exact LeO.none _)
      | (with_reducible refine LeO.ite ?_ ?_)
      | (with_reducible refine LeO.bind ?_ (fun _ => ?_))
      | exact cleatref01_Power.mono _ _
      | exact LeO.none _
      | refine LeO.ite ?_ ?_
      | refine LeO.bind ?_ (fun _ => ?_)
set_option maxHeartbeats 8000000 in
set_option maxRecDepth 100000 in
theorem cleatref01_Bit.calls (k : Nat) (a0 : Int) (a1 : Int) (r : Bool) (w : World) (h : cleatref01_Bit.f k a0 a1 = some r) :
    Calls Try.prog 42 #[.int .u64 a0, .int .i64 a1] w fun e w' => e = .returned (.bool r) ∧ Drawn0 w w' := by
  have H : ((cleatref01_Power.f k a1).bind fun t101 => (if t101 = 0 then (none) else (some ((Int.tmod (IntKind.u64.wrap (Int.tdiv a0 t101)) 2) == 1)))) = some r := h
  clear h
  replace H := Option.bind_eq_some_iff.mp H
  obtain ⟨t101, A30, H⟩ := H
  replace H : (if t101 = 0 then (none) else (some ((Int.tmod (IntKind.u64.wrap (Int.tdiv a0 t101)) 2) == 1))) = some r := H
  have A3 := Aside0.mk A30
  clear A30
  by_cases c4 : t101 = 0
  · rw [if_pos c4] at H
    exact absurd H (by simp)
  · rw [if_neg c4] at H
    have c4b0 : (t101 == 0) = false := beq_eq_false_iff_ne.mpr c4
    have c4b1 : (t101 != 0) = true := bne_iff_ne.mpr c4
    obtain rfl := Option.some.inj H
    go_enter Try.func42, Try.ntmps42
    go_wp2_with (first | ((with_reducible refine gate_callee (f := 43) rfl ?_); refine goesL_ (some 7) rfl rfl Try.func43 (by kernel_rfl) rfl #[.int .i64 a1] rfl (by (try simp only [List.map_toArray, List.map_cons, List.map_nil]); first | done | rfl | (simp only [List.length_drop, List.length_take]; rfl)) ?_; (with_reducible refine (cleatref01_Power.calls k a1 t101 _ A3.out).mono ?_); rintro e w' ⟨rfl, ⟨nd, rfl⟩⟩; refine ⟨_, rfl, ?_⟩))
    go_ret
    exact ⟨by first | rfl | (simp; done) | (simp [*]; done), by repeat (first | exact Drawn0.refl _ | apply Drawn0.step)⟩

/-! ### cleatref03_Add: function 15 -/
mutual
def cleatref03_Add.l0 : Nat → Int → Int → Bool → Int → Bool → Int → Option (Int × Bool × Bool × Bool × Bool)
  | 0, _, _, _, _, _, _ => none
  | k + 1, x0, x1, x2, x8, x9, x10 => if x10 < 64 then ((cleatref01_Bit.f k x0 x10).bind fun t104 => (if t104 = true then (cleatref03_Add.j1 k x0 x1 x2 x8 x10 (0 + 1)) else (cleatref03_Add.j1 k x0 x1 x2 x8 x10 0))) else ((cleatref01_Bit.f k x8 63).bind fun t103 => (some (x8, t103, (x8 == 0), x2, (x2 != x9))))
def cleatref03_Add.j1 : Nat → Int → Int → Bool → Int → Int → Int → Option (Int × Bool × Bool × Bool × Bool)
  | 0, _, _, _, _, _, _ => none
  | k + 1, x0, x1, x2, x8, x10, x11 => (cleatref01_Bit.f k x1 x10).bind fun t105 => (if t105 = true then (cleatref03_Add.j2 k x0 x1 x2 x8 x10 (wrap64 (x11 + 1))) else (cleatref03_Add.j2 k x0 x1 x2 x8 x10 x11))
def cleatref03_Add.j2 : Nat → Int → Int → Bool → Int → Int → Int → Option (Int × Bool × Bool × Bool × Bool)
  | 0, _, _, _, _, _, _ => none
  | k + 1, x0, x1, x2, x8, x10, x11 => if x2 = true then (if (Int.tmod (wrap64 (x11 + 1)) 2) = 1 then ((cleatref01_Power.f k x10).bind fun t106 => (cleatref03_Add.l0 k x0 x1 (decide ((wrap64 (x11 + 1)) ≥ 2)) (IntKind.u64.wrap (x8 + t106)) x2 (wrap64 (x10 + 1)))) else (cleatref03_Add.l0 k x0 x1 (decide ((wrap64 (x11 + 1)) ≥ 2)) x8 x2 (wrap64 (x10 + 1)))) else (if (Int.tmod x11 2) = 1 then ((cleatref01_Power.f k x10).bind fun t107 => (cleatref03_Add.l0 k x0 x1 (decide (x11 ≥ 2)) (IntKind.u64.wrap (x8 + t107)) x2 (wrap64 (x10 + 1)))) else (cleatref03_Add.l0 k x0 x1 (decide (x11 ≥ 2)) x8 x2 (wrap64 (x10 + 1))))
end
def cleatref03_Add.f (k : Nat) (a0 : Int) (a1 : Int) (a2 : Bool) : Option (Int × Bool × Bool × Bool × Bool) := cleatref03_Add.l0 k a0 a1 a2 0 a2 0
theorem cleatref03_Add.mono_l : ∀ k, (∀ y0 y1 y2 y3 y4 y5, LeO (cleatref03_Add.l0 k y0 y1 y2 y3 y4 y5) (cleatref03_Add.l0 (k + 1) y0 y1 y2 y3 y4 y5)) ∧ (∀ y0 y1 y2 y3 y4 y5, LeO (cleatref03_Add.j1 k y0 y1 y2 y3 y4 y5) (cleatref03_Add.j1 (k + 1) y0 y1 y2 y3 y4 y5)) ∧ (∀ y0 y1 y2 y3 y4 y5, LeO (cleatref03_Add.j2 k y0 y1 y2 y3 y4 y5) (cleatref03_Add.j2 (k + 1) y0 y1 y2 y3 y4 y5))
  | 0 => ⟨fun _ _ _ _ _ _ r h => by simp [cleatref03_Add.l0] at h, fun _ _ _ _ _ _ r h => by simp [cleatref03_Add.j1] at h, fun _ _ _ _ _ _ r h => by simp [cleatref03_Add.j2] at h⟩
  | k + 1 => by
    obtain ⟨ih0, ih1, ih2⟩ := cleatref03_Add.mono_l k
    refine ⟨?_, ?_, ?_⟩
    · intro y0 y1 y2 y3 y4 y5
      unfold cleatref03_Add.l0
      repeat' first
      | (with_reducible exact ih0 _ _ _ _ _ _)
      | (with_reducible exact ih1 _ _ _ _ _ _)
      | (with_reducible exact ih2 _ _ _ _ _ _)
      | (with_reducible exact cleatref01_Bit.mono _ _ _)
      | (with_reducible exact cleatref01_Power.mono _ _)
      | (with_reducible exact LeO.refl _)
      | (with_reducible exact LeO.none _)
      | (with_reducible refine LeO.ite ?_ ?_)
      | (with_reducible refine LeO.bind ?_ (fun _ => ?_))
      | exact ih0 _ _ _ _ _ _
      | exact ih1 _ _ _ _ _ _
      | exact ih2 _ _ _ _ _ _
      | exact cleatref01_Bit.mono _ _ _
      | exact cleatref01_Power.mono _ _
      | exact LeO.none _
      | refine LeO.ite ?_ ?_
      | refine LeO.bind ?_ (fun _ => ?_)
    · intro y0 y1 y2 y3 y4 y5
      unfold cleatref03_Add.j1
      repeat' first
      | (with_reducible exact ih0 _ _ _ _ _ _)
      | (with_reducible exact ih1 _ _ _ _ _ _)
      | (with_reducible exact ih2 _ _ _ _ _ _)
      | (with_reducible exact cleatref01_Bit.mono _ _ _)
      | (with_reducible exact cleatref01_Power.mono _ _)
      | (with_reducible exact LeO.refl _)
      | (with_reducible exact LeO.none _)
      | (with_reducible refine LeO.ite ?_ ?_)
      | (with_reducible refine LeO.bind ?_ (fun _ => ?_))
      | exact ih0 _ _ _ _ _ _
      | exact ih1 _ _ _ _ _ _
      | exact ih2 _ _ _ _ _ _
      | exact cleatref01_Bit.mono _ _ _
      | exact cleatref01_Power.mono _ _
      | exact LeO.none _
      | refine LeO.ite ?_ ?_
      | refine LeO.bind ?_ (fun _ => ?_)
    · intro y0 y1 y2 y3 y4 y5
      unfold cleatref03_Add.j2
      repeat' first
      | (with_reducible exact ih0 _ _ _ _ _ _)
      | (with_reducible exact ih1 _ _ _ _ _ _)
      | (with_reducible exact ih2 _ _ _ _ _ _)
      | (with_reducible exact cleatref01_Bit.mono _ _ _)
      | (with_reducible exact cleatref01_Power.mono _ _)
      | (with_reducible exact LeO.refl _)
      | (with_reducible exact LeO.none _)
      | (with_reducible refine LeO.ite ?_ ?_)
      | (with_reducible refine LeO.bind ?_ (fun _ => ?_))
      | exact ih0 _ _ _ _ _ _
      | exact ih1 _ _ _ _ _ _
      | exact ih2 _ _ _ _ _ _
      | exact cleatref01_Bit.mono _ _ _
      | exact cleatref01_Power.mono _ _
      | exact LeO.none _
      | refine LeO.ite ?_ ?_
      | refine LeO.bind ?_ (fun _ => ?_)
theorem cleatref03_Add.mono : ∀ a0 a1 a2 k, LeO (cleatref03_Add.f k a0 a1 a2) (cleatref03_Add.f (k + 1) a0 a1 a2) := by
  intro a0 a1 a2 k
  obtain ⟨ih0, ih1, ih2⟩ := cleatref03_Add.mono_l k
  unfold cleatref03_Add.f
  repeat' first
      | (with_reducible exact ih0 _ _ _ _ _ _)
      | (with_reducible exact ih1 _ _ _ _ _ _)
      | (with_reducible exact ih2 _ _ _ _ _ _)
      | (with_reducible exact cleatref01_Bit.mono _ _ _)
      | (with_reducible exact cleatref01_Power.mono _ _)
      | (with_reducible exact LeO.refl _)
      | (with_reducible exact LeO.none _)
      | (with_reducible refine LeO.ite ?_ ?_)
      | (with_reducible refine LeO.bind ?_ (fun _ => ?_))
      | exact ih0 _ _ _ _ _ _
      | exact ih1 _ _ _ _ _ _
      | exact ih2 _ _ _ _ _ _
      | exact cleatref01_Bit.mono _ _ _
      | exact cleatref01_Power.mono _ _
      | exact LeO.none _
      | refine LeO.ite ?_ ?_
      | refine LeO.bind ?_ (fun _ => ?_)
set_option maxHeartbeats 8000000 in
set_option maxRecDepth 100000 in
theorem cleatref03_Add.calls (k : Nat) (a0 : Int) (a1 : Int) (a2 : Bool) (r1 : Int) (r2 : Bool) (r3 : Bool) (r4 : Bool) (r5 : Bool) (w : World) (h : cleatref03_Add.f k a0 a1 a2 = some (r1, r2, r3, r4, r5)) :
    Calls Try.prog 15 #[.int .u64 a0, .int .u64 a1, .bool a2] w fun e w' => e = .returned (.tuple #[.int .u64 r1, .agg #[.bool r2, .bool r3, .bool r4, .bool r5]]) ∧ Below w.heap.size w w' := by
  have hu24 := Try.underlying24
  have HB := Aside0.mk (Below.refl w.heap.size w)
  have H : (cleatref03_Add.l0 k a0 a1 a2 0 a2 0) = some (r1, r2, r3, r4, r5) := h
  clear h
  have H' := Aside0.mk H
  clear H
  go_enter Try.func15, Try.ntmps15
  go_wp2_with (first | ((with_reducible refine gate_dst (N := 7) rfl ?_); refine box_event ?hg (N := 7) ?hd (cs := #[.bool false, .bool false, .bool false, .bool false]) (t := 24) ?hr ?_; (case hd => rfl); (case hg => rfl); (case hr => first | (go_simp; done) | (go_simp; rfl)); intro gb102 hg w4 hbox hb; have n0_ := Aside0.mk (below_step (by repeat (first | (with_reducible first | exact HB.out | apply below_alloc | apply pw_below_drewN | apply below_drew1) | exact HB.out)) hb); have n1_ := Aside0.mk (hbox); have n2_ := Aside0.mk ((by rw [hg]; exact (below_size (by repeat (first | (with_reducible first | exact HB.out | apply below_alloc | apply pw_below_drewN | apply below_drew1) | exact HB.out))) : w.heap.size ≤ gb102)); have n3_ := Aside0.mk ((by rw [hg]; exact (below_size (by repeat (first | (with_reducible first | exact HB.out | apply below_alloc | apply pw_below_drewN | apply below_drew1) | exact HB.out))) : w.heap.size ≤ gb102)); clear HB; have HB := n0_; have BK102 := n1_; have GW102 := n2_; have GE102 := n3_; clear n0_ n1_ n2_ n3_; clear hb hbox hg))
  go_loopg [2, 8, 9, 10] k (fun kq v2 v8 v9 v10 w' => ∃ (x2_1 : Bool) (x8_1 : Int) (x9_1 : Bool) (x10_1 : Int), v2 = .bool x2_1 ∧ v8 = .int .u64 x8_1 ∧ v9 = .bool x9_1 ∧ v10 = .int .i64 x10_1 ∧ Aside0 (cleatref03_Add.l0 kq a0 a1 x2_1 x8_1 x9_1 x10_1 = some (r1, r2, r3, r4, r5)) ∧ Aside0 (kq ≤ k) ∧ Aside0 (w'.heap[gb102]? = some (.cells #[.bool false, .bool false, .bool false, .bool false] 24 (0, 0))) ∧ Aside0 (Below w.heap.size w w'))
  case atStart => exact ⟨(a2), (0), (a2), (0), (by first | rfl | (simp; done) | (simp [*]; done)), (by first | rfl | (simp; done) | (simp [*]; done)), (by first | rfl | (simp; done) | (simp [*]; done)), (by first | rfl | (simp; done) | (simp [*]; done)), H', ⟨Nat.le_refl _⟩, ⟨by (with_reducible repeat (first | refine blk_drewN ?_ _ | refine blk_drew ?_ | refine blk_alloc ?_ _)); exact BK102.out⟩, ⟨by repeat (first | (with_reducible first | exact HB.out | apply below_alloc | apply pw_below_drewN | apply below_drew1 | refine below_set ?_ GE102.out) | exact HB.out)⟩⟩
  case round =>
    clear H'
    try clear c1
    try clear p2
    obtain ⟨x2_1, x8_1, x9_1, x10_1, rfl, rfl, rfl, rfl, HA, HK1, BK102, HB⟩ := hrel
    cases gk with
    | zero => exact absurd HA.out (by simp [cleatref03_Add.l0])
    | succ k1 =>
      have H := HA.out
      clear HA
      simp only [cleatref03_Add.l0] at H
      by_cases c5 : x10_1 < 64
      · rw [if_pos c5] at H
        have c5b0 : decide (x10_1 < 64) = true := decide_eq_true c5
        clear c5
        replace H := Option.bind_eq_some_iff.mp H
        obtain ⟨t104, A60, H⟩ := H
        replace H : (if t104 = true then (cleatref03_Add.j1 k1 a0 a1 x2_1 x8_1 x10_1 (0 + 1)) else (cleatref03_Add.j1 k1 a0 a1 x2_1 x8_1 x10_1 0)) = some (r1, r2, r3, r4, r5) := H
        have A6 := Aside0.mk A60
        clear A60
        have HC7 := Aside0.mk H
        clear H
        go_upto_if 19 with (first | ((with_reducible refine gate_callee (f := 42) rfl ?_); refine goesL_ (some 19) rfl rfl Try.func42 (by kernel_rfl) rfl #[.int .u64 a0, .int .i64 x10_1] rfl (by (try simp only [List.map_toArray, List.map_cons, List.map_nil]); first | done | rfl | (simp only [List.length_drop, List.length_take]; rfl)) ?_; (with_reducible refine (cleatref01_Bit.calls k1 a0 x10_1 t104 _ A6.out).mono ?_); rintro e w' ⟨rfl, ⟨nd, rfl⟩⟩; refine ⟨_, rfl, ?_⟩))
        (try simp only [Act.put, List.setIfInBounds_toArray, List.set_cons_zero, List.set_cons_succ])
        go_cut [11] (fun v11 wc => ∃ (kq : Nat) (x11_6 : Int), v11 = .int .i64 x11_6 ∧ Aside0 (cleatref03_Add.j1 kq a0 a1 x2_1 x8_1 x10_1 x11_6 = some (r1, r2, r3, r4, r5)) ∧ Aside0 (kq ≤ k1) ∧ Aside0 (wc.heap[gb102]? = some (.cells #[.bool false, .bool false, .bool false, .bool false] 24 (0, 0))) ∧ Aside0 (Below w.heap.size w wc))
        case first =>
          have H := HC7.out
          clear HC7
          by_cases c8 : t104 = true
          · subst c8
            have H1 : (cleatref03_Add.j1 k1 a0 a1 x2_1 x8_1 x10_1 (0 + 1)) = some (r1, r2, r3, r4, r5) := by rw [if_pos rfl] at H; exact H
            clear H
            have H := H1
            clear H1
            have H' := Aside0.mk H
            clear H
            go_wp2
            go_meet
            case rel => exact ⟨_, (0 + 1), (by first | rfl | (simp; done) | (simp [*]; done)), H', ⟨by have := HK1.out; first | omega | exact Nat.le_refl _⟩, ⟨by (with_reducible repeat (first | refine blk_drewN ?_ _ | refine blk_drew ?_ | refine blk_alloc ?_ _)); exact BK102.out⟩, ⟨by repeat (first | (with_reducible first | exact HB.out | apply below_alloc | apply pw_below_drewN | apply below_drew1 | refine below_set ?_ GE102.out) | exact HB.out)⟩⟩
          · replace c8 := Bool.eq_false_iff.mpr c8
            subst c8
            have H1 : (cleatref03_Add.j1 k1 a0 a1 x2_1 x8_1 x10_1 0) = some (r1, r2, r3, r4, r5) := by rw [if_neg (show ¬ (false = true) by decide)] at H; exact H
            clear H
            have H := H1
            clear H1
            have H' := Aside0.mk H
            clear H
            go_wp2
            go_meet
            case rel => exact ⟨_, (0), (by first | rfl | (simp; done) | (simp [*]; done)), H', ⟨by have := HK1.out; first | omega | exact Nat.le_refl _⟩, ⟨by (with_reducible repeat (first | refine blk_drewN ?_ _ | refine blk_drew ?_ | refine blk_alloc ?_ _)); exact BK102.out⟩, ⟨by repeat (first | (with_reducible first | exact HB.out | apply below_alloc | apply pw_below_drewN | apply below_drew1 | refine below_set ?_ GE102.out) | exact HB.out)⟩⟩
        case rest =>
          clear HC7
          try clear c1
          try clear p2
          try clear c4
          try clear c5
          try clear c5b0
          try clear c8
          try clear p2
          obtain ⟨kq, x11_6, rfl, HA, HJ6, BK102, HB⟩ := hcut
          cases kq with
          | zero => exact absurd HA.out (by simp [cleatref03_Add.j1])
          | succ kj6 =>
            have H := HA.out
            clear HA
            simp only [cleatref03_Add.j1] at H
            replace H := Option.bind_eq_some_iff.mp H
            obtain ⟨t105, A90, H⟩ := H
            replace H : (if t105 = true then (cleatref03_Add.j2 kj6 a0 a1 x2_1 x8_1 x10_1 (wrap64 (x11_6 + 1))) else (cleatref03_Add.j2 kj6 a0 a1 x2_1 x8_1 x10_1 x11_6)) = some (r1, r2, r3, r4, r5) := H
            have A9 := Aside0.mk A90
            clear A90
            have HC10 := Aside0.mk H
            clear H
            go_upto_if 24 with (first | ((with_reducible refine gate_callee (f := 42) rfl ?_); refine goesL_ (some 24) rfl rfl Try.func42 (by kernel_rfl) rfl #[.int .u64 a1, .int .i64 x10_1] rfl (by (try simp only [List.map_toArray, List.map_cons, List.map_nil]); first | done | rfl | (simp only [List.length_drop, List.length_take]; rfl)) ?_; (with_reducible refine (cleatref01_Bit.calls kj6 a1 x10_1 t105 _ A9.out).mono ?_); rintro e w' ⟨rfl, ⟨nd, rfl⟩⟩; refine ⟨_, rfl, ?_⟩))
            (try simp only [Act.put, List.setIfInBounds_toArray, List.set_cons_zero, List.set_cons_succ])
            go_cut [11] (fun v11 wc => ∃ (kq : Nat) (x11_9 : Int), v11 = .int .i64 x11_9 ∧ Aside0 (cleatref03_Add.j2 kq a0 a1 x2_1 x8_1 x10_1 x11_9 = some (r1, r2, r3, r4, r5)) ∧ Aside0 (kq ≤ kj6) ∧ Aside0 (wc.heap[gb102]? = some (.cells #[.bool false, .bool false, .bool false, .bool false] 24 (0, 0))) ∧ Aside0 (Below w.heap.size w wc))
            case first =>
              have H := HC10.out
              clear HC10
              by_cases c11 : t105 = true
              · subst c11
                have H1 : (cleatref03_Add.j2 kj6 a0 a1 x2_1 x8_1 x10_1 (wrap64 (x11_6 + 1))) = some (r1, r2, r3, r4, r5) := by rw [if_pos rfl] at H; exact H
                clear H
                have H := H1
                clear H1
                have H' := Aside0.mk H
                clear H
                go_wp2
                go_meet
                case rel => exact ⟨_, (wrap64 (x11_6 + 1)), (by first | rfl | (simp; done) | (simp [*]; done)), H', ⟨by have := HK1.out; have := HJ6.out; first | omega | exact Nat.le_refl _⟩, ⟨by (with_reducible repeat (first | refine blk_drewN ?_ _ | refine blk_drew ?_ | refine blk_alloc ?_ _)); exact BK102.out⟩, ⟨by repeat (first | (with_reducible first | exact HB.out | apply below_alloc | apply pw_below_drewN | apply below_drew1 | refine below_set ?_ GE102.out) | exact HB.out)⟩⟩
              · replace c11 := Bool.eq_false_iff.mpr c11
                subst c11
                have H1 : (cleatref03_Add.j2 kj6 a0 a1 x2_1 x8_1 x10_1 x11_6) = some (r1, r2, r3, r4, r5) := by rw [if_neg (show ¬ (false = true) by decide)] at H; exact H
                clear H
                have H := H1
                clear H1
                have H' := Aside0.mk H
                clear H
                go_wp2
                go_meet
                case rel => exact ⟨_, (x11_6), (by first | rfl | (simp; done) | (simp [*]; done)), H', ⟨by have := HK1.out; have := HJ6.out; first | omega | exact Nat.le_refl _⟩, ⟨by (with_reducible repeat (first | refine blk_drewN ?_ _ | refine blk_drew ?_ | refine blk_alloc ?_ _)); exact BK102.out⟩, ⟨by repeat (first | (with_reducible first | exact HB.out | apply below_alloc | apply pw_below_drewN | apply below_drew1 | refine below_set ?_ GE102.out) | exact HB.out)⟩⟩
            case rest =>
              clear HC10
              try clear c1
              try clear p2
              try clear c4
              try clear c5
              try clear c5b0
              try clear p6
              try clear c8
              try clear c11
              try clear p2
              obtain ⟨kq, x11_9, rfl, HA, HJ9, BK102, HB⟩ := hcut
              cases kq with
              | zero => exact absurd HA.out (by simp [cleatref03_Add.j2])
              | succ kj9 =>
                have H := HA.out
                clear HA
                simp only [cleatref03_Add.j2] at H
                by_cases c12 : x2_1 = true
                · subst c12
                  have H1 : (if (Int.tmod (wrap64 (x11_9 + 1)) 2) = 1 then ((cleatref01_Power.f kj9 x10_1).bind fun t106 => (cleatref03_Add.l0 kj9 a0 a1 (decide ((wrap64 (x11_9 + 1)) ≥ 2)) (IntKind.u64.wrap (x8_1 + t106)) true (wrap64 (x10_1 + 1)))) else (cleatref03_Add.l0 kj9 a0 a1 (decide ((wrap64 (x11_9 + 1)) ≥ 2)) x8_1 true (wrap64 (x10_1 + 1)))) = some (r1, r2, r3, r4, r5) := by rw [if_pos rfl] at H; exact H
                  clear H
                  have H := H1
                  clear H1
                  by_cases c13 : (Int.tmod (wrap64 (x11_9 + 1)) 2) = 1
                  · rw [if_pos c13] at H
                    have c13b0 : ((Int.tmod (wrap64 (x11_9 + 1)) 2) == 1) = true := beq_iff_eq.mpr c13
                    have c13b1 : ((Int.tmod (wrap64 (x11_9 + 1)) 2) != 1) = false := bne_eq_false_iff_eq.mpr c13
                    clear c13
                    replace H := Option.bind_eq_some_iff.mp H
                    obtain ⟨t106, A140, H⟩ := H
                    replace H : (cleatref03_Add.l0 kj9 a0 a1 (decide ((wrap64 (x11_9 + 1)) ≥ 2)) (IntKind.u64.wrap (x8_1 + t106)) true (wrap64 (x10_1 + 1))) = some (r1, r2, r3, r4, r5) := H
                    have A14 := Aside0.mk A140
                    clear A140
                    have H' := Aside0.mk H
                    clear H
                    go_wp2_with (first | ((with_reducible refine gate_callee (f := 43) rfl ?_); refine goesL_ (some 35) rfl rfl Try.func43 (by kernel_rfl) rfl #[.int .i64 x10_1] rfl (by (try simp only [List.map_toArray, List.map_cons, List.map_nil]); first | done | rfl | (simp only [List.length_drop, List.length_take]; rfl)) ?_; (with_reducible refine (cleatref01_Power.calls kj9 x10_1 t106 _ A14.out).mono ?_); rintro e w' ⟨rfl, ⟨nd, rfl⟩⟩; refine ⟨_, rfl, ?_⟩))
                    go_roundg kj9
                    case measure => have := HK1.out; have := HJ6.out; have := HJ9.out; omega
                    case rel => exact ⟨(decide ((wrap64 (x11_9 + 1)) ≥ 2)), (IntKind.u64.wrap (x8_1 + t106)), (true), (wrap64 (x10_1 + 1)), (by first | rfl | (simp; done) | (simp [*]; done)), (by first | rfl | (simp; done) | (simp [*]; done)), (by first | rfl | (simp; done) | (simp [*]; done)), (by first | rfl | (simp; done) | (simp [*]; done)), H', ⟨by have := HK1.out; have := HJ6.out; have := HJ9.out; omega⟩, ⟨by (with_reducible repeat (first | refine blk_drewN ?_ _ | refine blk_drew ?_ | refine blk_alloc ?_ _)); exact BK102.out⟩, ⟨by repeat (first | (with_reducible first | exact HB.out | apply below_alloc | apply pw_below_drewN | apply below_drew1 | refine below_set ?_ GE102.out) | exact HB.out)⟩⟩
                  · rw [if_neg c13] at H
                    have c13b0 : ((Int.tmod (wrap64 (x11_9 + 1)) 2) == 1) = false := beq_eq_false_iff_ne.mpr c13
                    have c13b1 : ((Int.tmod (wrap64 (x11_9 + 1)) 2) != 1) = true := bne_iff_ne.mpr c13
                    have H' := Aside0.mk H
                    clear H
                    go_wp2
                    go_roundg kj9
                    case measure => have := HK1.out; have := HJ6.out; have := HJ9.out; omega
                    case rel => exact ⟨(decide ((wrap64 (x11_9 + 1)) ≥ 2)), (x8_1), (true), (wrap64 (x10_1 + 1)), (by first | rfl | (simp; done) | (simp [*]; done)), (by first | rfl | (simp; done) | (simp [*]; done)), (by first | rfl | (simp; done) | (simp [*]; done)), (by first | rfl | (simp; done) | (simp [*]; done)), H', ⟨by have := HK1.out; have := HJ6.out; have := HJ9.out; omega⟩, ⟨by (with_reducible repeat (first | refine blk_drewN ?_ _ | refine blk_drew ?_ | refine blk_alloc ?_ _)); exact BK102.out⟩, ⟨by repeat (first | (with_reducible first | exact HB.out | apply below_alloc | apply pw_below_drewN | apply below_drew1 | refine below_set ?_ GE102.out) | exact HB.out)⟩⟩
                · replace c12 := Bool.eq_false_iff.mpr c12
                  subst c12
                  have H1 : (if (Int.tmod x11_9 2) = 1 then ((cleatref01_Power.f kj9 x10_1).bind fun t107 => (cleatref03_Add.l0 kj9 a0 a1 (decide (x11_9 ≥ 2)) (IntKind.u64.wrap (x8_1 + t107)) false (wrap64 (x10_1 + 1)))) else (cleatref03_Add.l0 kj9 a0 a1 (decide (x11_9 ≥ 2)) x8_1 false (wrap64 (x10_1 + 1)))) = some (r1, r2, r3, r4, r5) := by rw [if_neg (show ¬ (false = true) by decide)] at H; exact H
                  clear H
                  have H := H1
                  clear H1
                  by_cases c15 : (Int.tmod x11_9 2) = 1
                  · rw [if_pos c15] at H
                    have c15b0 : ((Int.tmod x11_9 2) == 1) = true := beq_iff_eq.mpr c15
                    have c15b1 : ((Int.tmod x11_9 2) != 1) = false := bne_eq_false_iff_eq.mpr c15
                    clear c15
                    replace H := Option.bind_eq_some_iff.mp H
                    obtain ⟨t107, A160, H⟩ := H
                    replace H : (cleatref03_Add.l0 kj9 a0 a1 (decide (x11_9 ≥ 2)) (IntKind.u64.wrap (x8_1 + t107)) false (wrap64 (x10_1 + 1))) = some (r1, r2, r3, r4, r5) := H
                    have A16 := Aside0.mk A160
                    clear A160
                    have H' := Aside0.mk H
                    clear H
                    go_wp2_with (first | ((with_reducible refine gate_callee (f := 43) rfl ?_); refine goesL_ (some 35) rfl rfl Try.func43 (by kernel_rfl) rfl #[.int .i64 x10_1] rfl (by (try simp only [List.map_toArray, List.map_cons, List.map_nil]); first | done | rfl | (simp only [List.length_drop, List.length_take]; rfl)) ?_; (with_reducible refine (cleatref01_Power.calls kj9 x10_1 t107 _ A16.out).mono ?_); rintro e w' ⟨rfl, ⟨nd, rfl⟩⟩; refine ⟨_, rfl, ?_⟩))
                    go_roundg kj9
                    case measure => have := HK1.out; have := HJ6.out; have := HJ9.out; omega
                    case rel => exact ⟨(decide (x11_9 ≥ 2)), (IntKind.u64.wrap (x8_1 + t107)), (false), (wrap64 (x10_1 + 1)), (by first | rfl | (simp; done) | (simp [*]; done)), (by first | rfl | (simp; done) | (simp [*]; done)), (by first | rfl | (simp; done) | (simp [*]; done)), (by first | rfl | (simp; done) | (simp [*]; done)), H', ⟨by have := HK1.out; have := HJ6.out; have := HJ9.out; omega⟩, ⟨by (with_reducible repeat (first | refine blk_drewN ?_ _ | refine blk_drew ?_ | refine blk_alloc ?_ _)); exact BK102.out⟩, ⟨by repeat (first | (with_reducible first | exact HB.out | apply below_alloc | apply pw_below_drewN | apply below_drew1 | refine below_set ?_ GE102.out) | exact HB.out)⟩⟩
                  · rw [if_neg c15] at H
                    have c15b0 : ((Int.tmod x11_9 2) == 1) = false := beq_eq_false_iff_ne.mpr c15
                    have c15b1 : ((Int.tmod x11_9 2) != 1) = true := bne_iff_ne.mpr c15
                    have H' := Aside0.mk H
                    clear H
                    go_wp2
                    go_roundg kj9
                    case measure => have := HK1.out; have := HJ6.out; have := HJ9.out; omega
                    case rel => exact ⟨(decide (x11_9 ≥ 2)), (x8_1), (false), (wrap64 (x10_1 + 1)), (by first | rfl | (simp; done) | (simp [*]; done)), (by first | rfl | (simp; done) | (simp [*]; done)), (by first | rfl | (simp; done) | (simp [*]; done)), (by first | rfl | (simp; done) | (simp [*]; done)), H', ⟨by have := HK1.out; have := HJ6.out; have := HJ9.out; omega⟩, ⟨by (with_reducible repeat (first | refine blk_drewN ?_ _ | refine blk_drew ?_ | refine blk_alloc ?_ _)); exact BK102.out⟩, ⟨by repeat (first | (with_reducible first | exact HB.out | apply below_alloc | apply pw_below_drewN | apply below_drew1 | refine below_set ?_ GE102.out) | exact HB.out)⟩⟩
      · rw [if_neg c5] at H
        have c5b0 : decide (x10_1 < 64) = false := decide_eq_false c5
        clear c5
        replace H := Option.bind_eq_some_iff.mp H
        obtain ⟨t103, A170, H⟩ := H
        replace H : (some (x8_1, t103, (x8_1 == 0), x2_1, (x2_1 != x9_1))) = some (r1, r2, r3, r4, r5) := H
        have A17 := Aside0.mk A170
        clear A170
        simp only [Option.some.injEq, Prod.mk.injEq] at H
        obtain ⟨rfl, rfl, rfl, rfl, rfl⟩ := H
        go_wp2_with (first | ((with_reducible refine gate_callee (f := 42) rfl ?_); refine goesL_ (some 42) rfl rfl Try.func42 (by kernel_rfl) rfl #[.int .u64 x8_1, .int .i64 63] rfl (by (try simp only [List.map_toArray, List.map_cons, List.map_nil]); first | done | rfl | (simp only [List.length_drop, List.length_take]; rfl)) ?_; (with_reducible refine (cleatref01_Bit.calls k1 x8_1 63 t103 _ A17.out).mono ?_); rintro e w' ⟨rfl, ⟨nd, rfl⟩⟩; refine ⟨_, rfl, ?_⟩; (try (rw [drewN_self wr]; generalize hq_ : World.drewN wr _ = wr; have n0_ : Aside0 (wr.heap[gb102]? = some (.cells #[.bool false, .bool false, .bool false, .bool false] 24 (0, 0))) := ⟨by rw [← hq_]; exact (by (with_reducible repeat (first | refine blk_drewN ?_ _ | refine blk_drew ?_ | refine blk_alloc ?_ _)); exact BK102.out)⟩; have n1_ : Aside0 (Below w.heap.size w wr) := ⟨by rw [← hq_]; exact (by repeat (first | (with_reducible first | exact HB.out | apply below_alloc | apply pw_below_drewN | apply below_drew1 | refine below_set ?_ GE102.out) | exact HB.out))⟩; clear BK102 HB hq_; have BK102 := n0_; have HB := n1_; clear n0_ n1_)); have hcz18_0 : wr.cell? ⟨gb102, 0, none⟩ = some (.bool false) := (blk_cell BK102.out 0).trans rfl; have hcz18_1 : wr.cell? ⟨gb102, 1, none⟩ = some (.bool false) := (blk_cell BK102.out 1).trans rfl; have hcz18_2 : wr.cell? ⟨gb102, 2, none⟩ = some (.bool false) := (blk_cell BK102.out 2).trans rfl; have hcz18_3 : wr.cell? ⟨gb102, 3, none⟩ = some (.bool false) := (blk_cell BK102.out 3).trans rfl; have hfz18_0 := blk_frozen BK102.out 0; have hfz18_1 := blk_frozen BK102.out 1; have hfz18_2 := blk_frozen BK102.out 2; have hfz18_3 := blk_frozen BK102.out 3))
        refine bodyPost_ret (results_tc rfl _ _ gb102 24 #[.bool t103, .bool (x8_1 == 0), .bool x2_1, .bool (x2_1 != x9_1)] (0, 0) _ rfl (by (with_reducible repeat (first | refine blk_drewN ?_ _ | refine blk_drew ?_ | refine blk_alloc ?_ _)); refine blk_put (cs := #[.bool t103, .bool (x8_1 == 0), .bool x2_1, .bool false]) ?_ 3 _ rfl; (with_reducible repeat (first | refine blk_drewN ?_ _ | refine blk_drew ?_ | refine blk_alloc ?_ _)); refine blk_put (cs := #[.bool t103, .bool (x8_1 == 0), .bool false, .bool false]) ?_ 2 _ rfl; (with_reducible repeat (first | refine blk_drewN ?_ _ | refine blk_drew ?_ | refine blk_alloc ?_ _)); refine blk_put (cs := #[.bool t103, .bool false, .bool false, .bool false]) ?_ 1 _ rfl; (with_reducible repeat (first | refine blk_drewN ?_ _ | refine blk_drew ?_ | refine blk_alloc ?_ _)); refine blk_put (cs := #[.bool false, .bool false, .bool false, .bool false]) ?_ 0 _ rfl; (with_reducible repeat (first | refine blk_drewN ?_ _ | refine blk_drew ?_ | refine blk_alloc ?_ _)); exact BK102.out) Try.underlying24 rfl (by kernel_rfl)) rfl ?_
        exact ⟨by first | rfl | (simp [errW_none, errW_some] <;> rfl) | (simp [*, errW_none, errW_some] <;> rfl), by repeat (first | (with_reducible first | exact HB.out | apply below_alloc | apply pw_below_drewN | apply below_drew1 | refine below_set ?_ GE102.out) | exact HB.out)⟩

/-! ### flag_Sub: function 16 -/
def flag_Sub.f (a0 : Int) (a1 : Int) : Option (Int × Bool × Bool × Bool × Bool) := (flag_Add.f a0 (Go.bits .xor .u64 18446744073709551615 a1) true).bind fun bt109 => (some (bt109.1, bt109.2.1, bt109.2.2.1, bt109.2.2.2.1, bt109.2.2.2.2))
set_option maxHeartbeats 8000000 in
set_option maxRecDepth 100000 in
theorem flag_Sub.calls (a0 : Int) (a1 : Int) (r1 : Int) (r2 : Bool) (r3 : Bool) (r4 : Bool) (r5 : Bool) (w : World) (h : flag_Sub.f a0 a1 = some (r1, r2, r3, r4, r5)) :
    Calls Try.prog 16 #[.int .u64 a0, .int .u64 a1] w fun e w' => e = .returned (.tuple #[.int .u64 r1, .agg #[.bool r2, .bool r3, .bool r4, .bool r5]]) ∧ Below w.heap.size w w' := by
  have hu24 := Try.underlying24
  have HB := Aside0.mk (Below.refl w.heap.size w)
  have H : ((flag_Add.f a0 (Go.bits .xor .u64 18446744073709551615 a1) true).bind fun bt109 => (some (bt109.1, bt109.2.1, bt109.2.2.1, bt109.2.2.2.1, bt109.2.2.2.2))) = some (r1, r2, r3, r4, r5) := h
  clear h
  replace H := Option.bind_eq_some_iff.mp H
  obtain ⟨⟨t109, t110, t111, t112, t113⟩, A30, H⟩ := H
  replace H : (some (t109, t110, t111, t112, t113)) = some (r1, r2, r3, r4, r5) := H
  have A3 := Aside0.mk A30
  clear A30
  simp only [Option.some.injEq, Prod.mk.injEq] at H
  obtain ⟨rfl, rfl, rfl, rfl, rfl⟩ := H
  go_enter Try.func16, Try.ntmps16
  go_wp2_with (first | ((with_reducible refine gate_dst (N := 5) rfl ?_); refine box_event ?hg (N := 5) ?hd (cs := #[.bool false, .bool false, .bool false, .bool false]) (t := 24) ?hr ?_; (case hd => rfl); (case hg => rfl); (case hr => first | (go_simp; done) | (go_simp; rfl)); intro gb108 hg w4 hbox hb; have n0_ := Aside0.mk (below_step (by repeat (first | (with_reducible first | exact HB.out | apply below_alloc | apply pw_below_drewN | apply below_drew1) | exact HB.out)) hb); have n1_ := Aside0.mk (hbox); have n2_ := Aside0.mk ((by rw [hg]; exact (below_size (by repeat (first | (with_reducible first | exact HB.out | apply below_alloc | apply pw_below_drewN | apply below_drew1) | exact HB.out))) : w.heap.size ≤ gb108)); have n3_ := Aside0.mk ((by rw [hg]; exact (below_size (by repeat (first | (with_reducible first | exact HB.out | apply below_alloc | apply pw_below_drewN | apply below_drew1) | exact HB.out))) : w.heap.size ≤ gb108)); clear HB; have HB := n0_; have BK108 := n1_; have GW108 := n2_; have GE108 := n3_; clear n0_ n1_ n2_ n3_; clear hb hbox hg) | ((with_reducible refine gate_callee (f := 14) rfl ?_); refine goesL_ (some 9) rfl rfl Try.func14 (by kernel_rfl) rfl #[.int .u64 a0, .int .u64 (Go.bits .xor .u64 18446744073709551615 a1), .bool true] rfl (by (try simp only [List.map_toArray, List.map_cons, List.map_nil]); first | done | rfl | (simp only [List.length_drop, List.length_take]; rfl)) ?_; (with_reducible refine (flag_Add.calls a0 (Go.bits .xor .u64 18446744073709551615 a1) true t109 t110 t111 t112 t113 _ A3.out).mono ?_); rintro e w5 ⟨rfl, hb⟩; refine ⟨_, rfl, ?_⟩; have n0_ := Aside0.mk (blk_below (g := gb108) (o := .cells #[.bool false, .bool false, .bool false, .bool false] 24 (0, 0)) (by (with_reducible repeat (first | refine blk_drewN ?_ _ | refine blk_drew ?_ | refine blk_alloc ?_ _)); exact BK108.out) hb); have n1_ := Aside0.mk (below_step (by repeat (first | (with_reducible first | exact HB.out | apply below_alloc | apply pw_below_drewN | apply below_drew1 | refine below_set ?_ GE108.out) | exact HB.out)) hb); clear BK108; clear HB; have BK108 := n0_; have HB := n1_; clear n0_ n1_; (try clear hb); (try clear hb2); (try clear hk); (try clear hi); have hcz6_0 : w5.cell? ⟨gb108, 0, none⟩ = some (.bool false) := (blk_cell BK108.out 0).trans rfl; have hcz6_1 : w5.cell? ⟨gb108, 1, none⟩ = some (.bool false) := (blk_cell BK108.out 1).trans rfl; have hcz6_2 : w5.cell? ⟨gb108, 2, none⟩ = some (.bool false) := (blk_cell BK108.out 2).trans rfl; have hcz6_3 : w5.cell? ⟨gb108, 3, none⟩ = some (.bool false) := (blk_cell BK108.out 3).trans rfl; have hfz6_0 := blk_frozen BK108.out 0; have hfz6_1 := blk_frozen BK108.out 1; have hfz6_2 := blk_frozen BK108.out 2; have hfz6_3 := blk_frozen BK108.out 3))
  refine bodyPost_ret (results_tc rfl _ _ gb108 24 #[.bool t110, .bool t111, .bool t112, .bool t113] (0, 0) _ rfl (by (with_reducible repeat (first | refine blk_drewN ?_ _ | refine blk_drew ?_ | refine blk_alloc ?_ _)); refine blk_put (cs := #[.bool t110, .bool t111, .bool t112, .bool false]) ?_ 3 _ rfl; (with_reducible repeat (first | refine blk_drewN ?_ _ | refine blk_drew ?_ | refine blk_alloc ?_ _)); refine blk_put (cs := #[.bool t110, .bool t111, .bool false, .bool false]) ?_ 2 _ rfl; (with_reducible repeat (first | refine blk_drewN ?_ _ | refine blk_drew ?_ | refine blk_alloc ?_ _)); refine blk_put (cs := #[.bool t110, .bool false, .bool false, .bool false]) ?_ 1 _ rfl; (with_reducible repeat (first | refine blk_drewN ?_ _ | refine blk_drew ?_ | refine blk_alloc ?_ _)); refine blk_put (cs := #[.bool false, .bool false, .bool false, .bool false]) ?_ 0 _ rfl; (with_reducible repeat (first | refine blk_drewN ?_ _ | refine blk_drew ?_ | refine blk_alloc ?_ _)); exact BK108.out) Try.underlying24 rfl (by kernel_rfl)) rfl ?_
  exact ⟨by first | rfl | (simp [errW_none, errW_some] <;> rfl) | (simp [*, errW_none, errW_some] <;> rfl), by repeat (first | (with_reducible first | exact HB.out | apply below_alloc | apply pw_below_drewN | apply below_drew1 | refine below_set ?_ GE108.out) | exact HB.out)⟩

/-! ### cleatref03_Turned: function 44 -/
def cleatref03_Turned.f (a0 : Int) : Option (Int) := some (IntKind.u64.wrap (18446744073709551615 - a0))
set_option maxHeartbeats 8000000 in
set_option maxRecDepth 100000 in
theorem cleatref03_Turned.calls (a0 : Int) (r : Int) (w : World) (h : cleatref03_Turned.f a0 = some r) :
    Calls Try.prog 44 #[.int .u64 a0] w fun e w' => e = .returned (.int .u64 r) ∧ Drawn0 w w' := by
  have H : (some (IntKind.u64.wrap (18446744073709551615 - a0))) = some r := h
  clear h
  obtain rfl := Option.some.inj H
  go_enter Try.func44, Try.ntmps44
  go_wp2
  go_ret
  exact ⟨by first | rfl | (simp; done) | (simp [*]; done), by repeat (first | exact Drawn0.refl _ | apply Drawn0.step)⟩

/-! ### cleatref03_Sub: function 17 -/
def cleatref03_Sub.f (k : Nat) (a0 : Int) (a1 : Int) : Option (Int × Bool × Bool × Bool × Bool) := (cleatref03_Turned.f a1).bind fun t115 => ((cleatref03_Add.f k a0 t115 true).bind fun bt116 => (some (bt116.1, bt116.2.1, bt116.2.2.1, bt116.2.2.2.1, bt116.2.2.2.2)))
theorem cleatref03_Sub.mono : ∀ a0 a1 k, LeO (cleatref03_Sub.f k a0 a1) (cleatref03_Sub.f (k + 1) a0 a1) := by
  intro a0 a1 k
  unfold cleatref03_Sub.f
  repeat' first
      | (with_reducible exact cleatref03_Add.mono _ _ _ _)
      | (with_reducible exact LeO.refl _)
      | (with_reducible exact LeO.none _)
      | (with_reducible refine LeO.ite ?_ ?_)
      | (with_reducible refine LeO.bind ?_ (fun _ => ?_))
      | exact cleatref03_Add.mono _ _ _ _
      | exact LeO.none _
      | refine LeO.ite ?_ ?_
      | refine LeO.bind ?_ (fun _ => ?_)
set_option maxHeartbeats 8000000 in
set_option maxRecDepth 100000 in
theorem cleatref03_Sub.calls (k : Nat) (a0 : Int) (a1 : Int) (r1 : Int) (r2 : Bool) (r3 : Bool) (r4 : Bool) (r5 : Bool) (w : World) (h : cleatref03_Sub.f k a0 a1 = some (r1, r2, r3, r4, r5)) :
    Calls Try.prog 17 #[.int .u64 a0, .int .u64 a1] w fun e w' => e = .returned (.tuple #[.int .u64 r1, .agg #[.bool r2, .bool r3, .bool r4, .bool r5]]) ∧ Below w.heap.size w w' := by
  have hu24 := Try.underlying24
  have HB := Aside0.mk (Below.refl w.heap.size w)
  have H : ((cleatref03_Turned.f a1).bind fun t115 => ((cleatref03_Add.f k a0 t115 true).bind fun bt116 => (some (bt116.1, bt116.2.1, bt116.2.2.1, bt116.2.2.2.1, bt116.2.2.2.2)))) = some (r1, r2, r3, r4, r5) := h
  clear h
  replace H := Option.bind_eq_some_iff.mp H
  obtain ⟨t115, A30, H⟩ := H
  replace H : ((cleatref03_Add.f k a0 t115 true).bind fun bt116 => (some (bt116.1, bt116.2.1, bt116.2.2.1, bt116.2.2.2.1, bt116.2.2.2.2))) = some (r1, r2, r3, r4, r5) := H
  have A3 := Aside0.mk A30
  clear A30
  replace H := Option.bind_eq_some_iff.mp H
  obtain ⟨⟨t116, t117, t118, t119, t120⟩, A40, H⟩ := H
  replace H : (some (t116, t117, t118, t119, t120)) = some (r1, r2, r3, r4, r5) := H
  have A4 := Aside0.mk A40
  clear A40
  simp only [Option.some.injEq, Prod.mk.injEq] at H
  obtain ⟨rfl, rfl, rfl, rfl, rfl⟩ := H
  go_enter Try.func17, Try.ntmps17
  try go_wp2_with (first | ((with_reducible refine gate_dst (N := 5) rfl ?_); refine box_event ?hg (N := 5) ?hd (cs := #[.bool false, .bool false, .bool false, .bool false]) (t := 24) ?hr ?_; (case hd => rfl); (case hg => rfl); (case hr => first | (go_simp; done) | (go_simp; rfl)); intro gb114 hg w5 hbox hb; have n0_ := Aside0.mk (below_step (by repeat (first | (with_reducible first | exact HB.out | apply below_alloc | apply pw_below_drewN | apply below_drew1) | exact HB.out)) hb); have n1_ := Aside0.mk (hbox); have n2_ := Aside0.mk ((by rw [hg]; exact (below_size (by repeat (first | (with_reducible first | exact HB.out | apply below_alloc | apply pw_below_drewN | apply below_drew1) | exact HB.out))) : w.heap.size ≤ gb114)); have n3_ := Aside0.mk ((by rw [hg]; exact (below_size (by repeat (first | (with_reducible first | exact HB.out | apply below_alloc | apply pw_below_drewN | apply below_drew1) | exact HB.out))) : w.heap.size ≤ gb114)); clear HB; have HB := n0_; have BK114 := n1_; have GW114 := n2_; have GE114 := n3_; clear n0_ n1_ n2_ n3_; clear hb hbox hg) | ((with_reducible refine gate_callee (f := 44) rfl ?_); refine goesL_ (some 11) rfl rfl Try.func44 (by kernel_rfl) rfl #[.int .u64 a1] rfl (by (try simp only [List.map_toArray, List.map_cons, List.map_nil]); first | done | rfl | (simp only [List.length_drop, List.length_take]; rfl)) ?_; (with_reducible refine (cleatref03_Turned.calls a1 t115 _ A3.out).mono ?_); rintro e w' ⟨rfl, ⟨nd, rfl⟩⟩; refine ⟨_, rfl, ?_⟩; (try (rw [drewN_self w5]; generalize hq_ : World.drewN w5 _ = w5; have n0_ : Aside0 (w5.heap[gb114]? = some (.cells #[.bool false, .bool false, .bool false, .bool false] 24 (0, 0))) := ⟨by rw [← hq_]; exact (by (with_reducible repeat (first | refine blk_drewN ?_ _ | refine blk_drew ?_ | refine blk_alloc ?_ _)); exact BK114.out)⟩; have n1_ : Aside0 (Below w.heap.size w w5) := ⟨by rw [← hq_]; exact (by repeat (first | (with_reducible first | exact HB.out | apply below_alloc | apply pw_below_drewN | apply below_drew1 | refine below_set ?_ GE114.out) | exact HB.out))⟩; clear BK114 HB hq_; have BK114 := n0_; have HB := n1_; clear n0_ n1_))) | ((with_reducible refine gate_callee (f := 15) rfl ?_); refine goesL_ (some 12) rfl rfl Try.func15 (by kernel_rfl) rfl #[.int .u64 a0, .int .u64 t115, .bool true] rfl (by (try simp only [List.map_toArray, List.map_cons, List.map_nil]); first | done | rfl | (simp only [List.length_drop, List.length_take]; rfl)) ?_; (with_reducible refine (cleatref03_Add.calls k a0 t115 true t116 t117 t118 t119 t120 _ A4.out).mono ?_); rintro e w6 ⟨rfl, hb⟩; refine ⟨_, rfl, ?_⟩; have n0_ := Aside0.mk (blk_below (g := gb114) (o := .cells #[.bool false, .bool false, .bool false, .bool false] 24 (0, 0)) (by (with_reducible repeat (first | refine blk_drewN ?_ _ | refine blk_drew ?_ | refine blk_alloc ?_ _)); exact BK114.out) hb); have n1_ := Aside0.mk (below_step (by repeat (first | (with_reducible first | exact HB.out | apply below_alloc | apply pw_below_drewN | apply below_drew1 | refine below_set ?_ GE114.out) | exact HB.out)) hb); clear BK114; clear HB; have BK114 := n0_; have HB := n1_; clear n0_ n1_; (try clear hb); (try clear hb2); (try clear hk); (try clear hi)) | ((with_reducible refine gate_dst (N := 7) rfl ?_); refine box_event ?hg (N := 7) ?hd (cs := #[.bool false, .bool false, .bool false, .bool false]) (t := 24) ?hr ?_; (case hd => rfl); (case hg => rfl); (case hr => first | (go_simp; done) | (go_simp; rfl)); intro gb121 hg w7 hbox hb; have n0_ := Aside0.mk (blk_below (g := gb114) (o := .cells #[.bool false, .bool false, .bool false, .bool false] 24 (0, 0)) (by (with_reducible repeat (first | refine blk_drewN ?_ _ | refine blk_drew ?_ | refine blk_alloc ?_ _)); exact BK114.out) hb); have n1_ := Aside0.mk (below_step (by repeat (first | (with_reducible first | exact HB.out | apply below_alloc | apply pw_below_drewN | apply below_drew1 | refine below_set ?_ GE114.out) | exact HB.out)) hb); have n2_ := Aside0.mk (hbox); have n3_ := Aside0.mk ((by rw [hg]; exact (below_size (by repeat (first | (with_reducible first | exact HB.out | apply below_alloc | apply pw_below_drewN | apply below_drew1 | refine below_set ?_ GE114.out) | exact HB.out))) : w.heap.size ≤ gb121)); have n4_ := Aside0.mk ((by rw [hg]; exact (below_size (by repeat (first | (with_reducible first | exact HB.out | apply below_alloc | apply pw_below_drewN | apply below_drew1 | refine below_set ?_ GE114.out) | exact HB.out))) : w.heap.size ≤ gb121)); have n5_ := Aside0.mk ((by rw [hg]; exact Nat.ne_of_lt (blk_lt (g := gb114) (o := .cells #[.bool false, .bool false, .bool false, .bool false] 24 (0, 0)) (by (with_reducible repeat (first | refine blk_drewN ?_ _ | refine blk_drew ?_ | refine blk_alloc ?_ _)); exact BK114.out)) : gb114 ≠ gb121)); have n6_ := Aside0.mk ((by rw [hg]; exact Nat.ne_of_gt (blk_lt (g := gb114) (o := .cells #[.bool false, .bool false, .bool false, .bool false] 24 (0, 0)) (by (with_reducible repeat (first | refine blk_drewN ?_ _ | refine blk_drew ?_ | refine blk_alloc ?_ _)); exact BK114.out)) : gb121 ≠ gb114)); clear BK114; clear HB; have BK114 := n0_; have HB := n1_; have BK121 := n2_; have GW121 := n3_; have GE121 := n4_; have NB114_121 := n5_; have NB121_114 := n6_; clear n0_ n1_ n2_ n3_ n4_ n5_ n6_; clear hb hbox hg; have hnb8 := NB121_114.out; have hnc8 := NB114_121.out; have hcz9_0 : w7.cell? ⟨gb121, 0, none⟩ = some (.bool false) := (blk_cell BK121.out 0).trans rfl; have hcz9_1 : w7.cell? ⟨gb121, 1, none⟩ = some (.bool false) := (blk_cell BK121.out 1).trans rfl; have hcz9_2 : w7.cell? ⟨gb121, 2, none⟩ = some (.bool false) := (blk_cell BK121.out 2).trans rfl; have hcz9_3 : w7.cell? ⟨gb121, 3, none⟩ = some (.bool false) := (blk_cell BK121.out 3).trans rfl; have hfz9_0 := blk_frozen BK121.out 0; have hfz9_1 := blk_frozen BK121.out 1; have hfz9_2 := blk_frozen BK121.out 2; have hfz9_3 := blk_frozen BK121.out 3))
  have n0_ : Aside0 (((((w7.setCell ⟨gb121, 0, none⟩ (.bool t117)).setCell ⟨gb121, 1, none⟩ (.bool t118)).setCell ⟨gb121, 2, none⟩ (.bool t119)).setCell ⟨gb121, 3, none⟩ (.bool t120)).heap[gb114]? = some (.cells #[.bool false, .bool false, .bool false, .bool false] 24 (0, 0))) := ⟨by (with_reducible repeat (first | refine blk_drewN ?_ _ | refine blk_drew ?_ | refine blk_alloc ?_ _)); refine blk_far ?_ NB114_121.out _; (with_reducible repeat (first | refine blk_drewN ?_ _ | refine blk_drew ?_ | refine blk_alloc ?_ _)); refine blk_far ?_ NB114_121.out _; (with_reducible repeat (first | refine blk_drewN ?_ _ | refine blk_drew ?_ | refine blk_alloc ?_ _)); refine blk_far ?_ NB114_121.out _; (with_reducible repeat (first | refine blk_drewN ?_ _ | refine blk_drew ?_ | refine blk_alloc ?_ _)); refine blk_far ?_ NB114_121.out _; (with_reducible repeat (first | refine blk_drewN ?_ _ | refine blk_drew ?_ | refine blk_alloc ?_ _)); exact BK114.out⟩
  have n1_ : Aside0 (((((w7.setCell ⟨gb121, 0, none⟩ (.bool t117)).setCell ⟨gb121, 1, none⟩ (.bool t118)).setCell ⟨gb121, 2, none⟩ (.bool t119)).setCell ⟨gb121, 3, none⟩ (.bool t120)).heap[gb121]? = some (.cells #[.bool t117, .bool t118, .bool t119, .bool t120] 24 (0, 0))) := ⟨by (with_reducible repeat (first | refine blk_drewN ?_ _ | refine blk_drew ?_ | refine blk_alloc ?_ _)); refine blk_put (cs := #[.bool t117, .bool t118, .bool t119, .bool false]) ?_ 3 _ rfl; (with_reducible repeat (first | refine blk_drewN ?_ _ | refine blk_drew ?_ | refine blk_alloc ?_ _)); refine blk_put (cs := #[.bool t117, .bool t118, .bool false, .bool false]) ?_ 2 _ rfl; (with_reducible repeat (first | refine blk_drewN ?_ _ | refine blk_drew ?_ | refine blk_alloc ?_ _)); refine blk_put (cs := #[.bool t117, .bool false, .bool false, .bool false]) ?_ 1 _ rfl; (with_reducible repeat (first | refine blk_drewN ?_ _ | refine blk_drew ?_ | refine blk_alloc ?_ _)); refine blk_put (cs := #[.bool false, .bool false, .bool false, .bool false]) ?_ 0 _ rfl; (with_reducible repeat (first | refine blk_drewN ?_ _ | refine blk_drew ?_ | refine blk_alloc ?_ _)); exact BK121.out⟩
  have n2_ : Aside0 (Below w.heap.size w ((((w7.setCell ⟨gb121, 0, none⟩ (.bool t117)).setCell ⟨gb121, 1, none⟩ (.bool t118)).setCell ⟨gb121, 2, none⟩ (.bool t119)).setCell ⟨gb121, 3, none⟩ (.bool t120))) := ⟨by repeat (first | (with_reducible first | exact HB.out | apply below_alloc | apply pw_below_drewN | apply below_drew1 | refine below_set ?_ GE114.out | refine below_set ?_ GE121.out) | exact HB.out)⟩
  (try clear BK114)
  (try clear BK121)
  (try clear HB)
  generalize ((((w7.setCell ⟨gb121, 0, none⟩ (.bool t117)).setCell ⟨gb121, 1, none⟩ (.bool t118)).setCell ⟨gb121, 2, none⟩ (.bool t119)).setCell ⟨gb121, 3, none⟩ (.bool t120)) = w10 at n0_ n1_ n2_ ⊢
  have BK114 := n0_
  have BK121 := n1_
  have HB := n2_
  clear n0_ n1_ n2_
  have n0_ := Aside0.mk (blk_drew BK114.out)
  have n1_ := Aside0.mk (blk_drew BK121.out)
  have n2_ := Aside0.mk (below_drew1 HB.out)
  clear BK114
  clear BK121
  clear HB
  have BK114 := n0_
  have BK121 := n1_
  have HB := n2_
  clear n0_ n1_ n2_
  refine start_ (n := 4) (S := fun w' => w'.cell? ⟨gb121, 0, none⟩ = some (.bool t117) ∧ w'.cell? ⟨gb121, 1, none⟩ = some (.bool t118) ∧ w'.cell? ⟨gb121, 2, none⟩ = some (.bool t119) ∧ w'.cell? ⟨gb121, 3, none⟩ = some (.bool t120)) (ds := []) #[false, false, false, false] (by kernel_rfl) rfl rfl ⟨(blk_cell BK121.out 0).trans rfl, (blk_cell BK121.out 1).trans rfl, (blk_cell BK121.out 2).trans rfl, (blk_cell BK121.out 3).trans rfl⟩ (fun hHeld => ?_)
  generalize w10.drew = w11 at BK114 BK121 HB hHeld ⊢
  refine pure_ (i := 0) (N := some 15) (v := ?_) (a' := ?_) #[true, false, false, false] rfl rfl (by kernel_rfl) (fun _ _ _ h => h) (Or.inl ⟨by rfl, ?_⟩) ?_ ?_
  rotate_left
  · intro w'
    go_simp
    with_reducible rfl
  rotate_left
  · simp only [Act.put, List.setIfInBounds_toArray, List.set_cons_zero, List.set_cons_succ, i64_w, i32_w]
    rfl
  refine pure_ (i := 2) (N := some 4) (v := ?_) (a' := ?_) #[true, false, true, false] rfl rfl (by kernel_rfl) (fun _ _ _ h => h) (Or.inl ⟨by rfl, ?_⟩) ?_ ?_
  rotate_left
  · intro w'
    go_simp
    with_reducible rfl
  rotate_left
  · simp only [Act.put, List.setIfInBounds_toArray, List.set_cons_zero, List.set_cons_succ, i64_w, i32_w]
    rfl
  refine take_ (i := 1) (N := some 16) (v := ?_) (a' := ?_) #[true, true, true, false] rfl rfl (by kernel_rfl) (fun _ _ _ h => h) (Or.inl ⟨by rfl, ?_⟩) hHeld ?_ ?_
  rotate_left
  · rintro w' ⟨s0, s1, s2, s3⟩
    go_simp
    with_reducible rfl
  rotate_left
  · simp only [Act.put, List.setIfInBounds_toArray, List.set_cons_zero, List.set_cons_succ, i64_w, i32_w]
    rfl
  refine one_ (i := 3) (N := none) #[true, true, true, true] rfl rfl (by kernel_rfl) (by decide) (fun K hK => ?_)
  have hs12 : w11.cell? ⟨gb114, 0, none⟩ = some (.bool false) := (blk_cell BK114.out 0).trans rfl
  have hfs12 := blk_frozen BK114.out 0
  have hns12_1 := NB121_114.out
  have hms12_1 := NB114_121.out
  have hs13 : w11.cell? ⟨gb114, 1, none⟩ = some (.bool false) := (blk_cell BK114.out 1).trans rfl
  have hfs13 := blk_frozen BK114.out 1
  have hns13_1 := NB121_114.out
  have hms13_1 := NB114_121.out
  have hs14 : w11.cell? ⟨gb114, 2, none⟩ = some (.bool false) := (blk_cell BK114.out 2).trans rfl
  have hfs14 := blk_frozen BK114.out 2
  have hns14_1 := NB121_114.out
  have hms14_1 := NB114_121.out
  have hs15 : w11.cell? ⟨gb114, 3, none⟩ = some (.bool false) := (blk_cell BK114.out 3).trans rfl
  have hfs15 := blk_frozen BK114.out 3
  have hns15_1 := NB121_114.out
  have hms15_1 := NB114_121.out
  refine skip_ (w1 := ?_) (by rfl) rfl ?_ ?_
  rotate_left
  · go_simp
    rfl
  refine hK.out _ _ ⟨((cell_far (p := ⟨gb114, _, none⟩) NB121_114.out _).trans (((cell_far (p := ⟨gb114, _, none⟩) NB121_114.out _).trans (((cell_far (p := ⟨gb114, _, none⟩) NB121_114.out _).trans (((cell_far (p := ⟨gb114, _, none⟩) NB121_114.out _).trans (hHeld.1)))))))), ((cell_far (p := ⟨gb114, _, none⟩) NB121_114.out _).trans (((cell_far (p := ⟨gb114, _, none⟩) NB121_114.out _).trans (((cell_far (p := ⟨gb114, _, none⟩) NB121_114.out _).trans (((cell_far (p := ⟨gb114, _, none⟩) NB121_114.out _).trans (hHeld.2.1)))))))), ((cell_far (p := ⟨gb114, _, none⟩) NB121_114.out _).trans (((cell_far (p := ⟨gb114, _, none⟩) NB121_114.out _).trans (((cell_far (p := ⟨gb114, _, none⟩) NB121_114.out _).trans (((cell_far (p := ⟨gb114, _, none⟩) NB121_114.out _).trans (hHeld.2.2.1)))))))), ((cell_far (p := ⟨gb114, _, none⟩) NB121_114.out _).trans (((cell_far (p := ⟨gb114, _, none⟩) NB121_114.out _).trans (((cell_far (p := ⟨gb114, _, none⟩) NB121_114.out _).trans (((cell_far (p := ⟨gb114, _, none⟩) NB121_114.out _).trans (hHeld.2.2.2))))))))⟩ (fun hHeld => ?_)
  clear hK K
  refine done_ (by kernel_rfl) ?_
  try go_wp2
  refine bodyPost_ret (results_tc rfl _ _ gb114 24 #[.bool t117, .bool t118, .bool t119, .bool t120] (0, 0) _ rfl (by (with_reducible repeat (first | refine blk_drewN ?_ _ | refine blk_drew ?_ | refine blk_alloc ?_ _)); refine blk_put (cs := #[.bool t117, .bool t118, .bool t119, .bool false]) ?_ 3 _ rfl; (with_reducible repeat (first | refine blk_drewN ?_ _ | refine blk_drew ?_ | refine blk_alloc ?_ _)); refine blk_put (cs := #[.bool t117, .bool t118, .bool false, .bool false]) ?_ 2 _ rfl; (with_reducible repeat (first | refine blk_drewN ?_ _ | refine blk_drew ?_ | refine blk_alloc ?_ _)); refine blk_put (cs := #[.bool t117, .bool false, .bool false, .bool false]) ?_ 1 _ rfl; (with_reducible repeat (first | refine blk_drewN ?_ _ | refine blk_drew ?_ | refine blk_alloc ?_ _)); refine blk_put (cs := #[.bool false, .bool false, .bool false, .bool false]) ?_ 0 _ rfl; (with_reducible repeat (first | refine blk_drewN ?_ _ | refine blk_drew ?_ | refine blk_alloc ?_ _)); exact BK114.out) Try.underlying24 rfl (by kernel_rfl)) rfl ?_
  exact ⟨by first | rfl | (simp [errW_none, errW_some] <;> rfl) | (simp [*, errW_none, errW_some] <;> rfl), by repeat (first | (with_reducible first | exact HB.out | apply below_alloc | apply pw_below_drewN | apply below_drew1 | refine below_set ?_ GE114.out | refine below_set ?_ GE121.out) | exact HB.out)⟩

/-! ### flag_Holds: function 18 -/
def flag_Holds.base (c : Int) (n z cc v : Bool) : Bool := if c = 0 then z else if c = 1 then cc else if c = 2 then n else if c = 3 then v else if c = 4 then cc && !z else if c = 5 then n == v else !z && n == v
def flag_Holds.f (a0 : Int) (a1_0 : Bool) (a1_1 : Bool) (a1_2 : Bool) (a1_3 : Bool) : Option (Bool × Int) :=
  if 0 ≤ a0 ∧ a0 < 14 then some (flag_Holds.base (a0 / 2) a1_0 a1_1 a1_2 a1_3 == decide (a0 % 2 = 0), 0) else some (false, 1)
set_option maxHeartbeats 4000000 in
theorem flag_Holds.ask1 (n z c v : Bool) (w : World) : Calls Try.prog 45 #[.agg #[.bool n, .bool z, .bool c, .bool v]] w fun e w' =>
    e = .returned (.bool z) ∧ ∃ k, (w.alloc (.cells #[.bool n, .bool z, .bool c, .bool v] 24)).drewN k = w' := by
  cases n <;> cases z <;> cases c <;> cases v <;>
    (go_enter Try.func45, Try.ntmps45; go_wp2; (try (go_quiet (fail))); (try go_wp2); go_ret; exact ⟨rfl, by first | exact ⟨0, rfl⟩ | exact ⟨_, rfl⟩⟩)
set_option maxHeartbeats 4000000 in
theorem flag_Holds.ask2 (n z c v : Bool) (w : World) : Calls Try.prog 46 #[.agg #[.bool n, .bool z, .bool c, .bool v]] w fun e w' =>
    e = .returned (.bool c) ∧ ∃ k, (w.alloc (.cells #[.bool n, .bool z, .bool c, .bool v] 24)).drewN k = w' := by
  cases n <;> cases z <;> cases c <;> cases v <;>
    (go_enter Try.func46, Try.ntmps46; go_wp2; (try (go_quiet (fail))); (try go_wp2); go_ret; exact ⟨rfl, by first | exact ⟨0, rfl⟩ | exact ⟨_, rfl⟩⟩)
set_option maxHeartbeats 4000000 in
theorem flag_Holds.ask3 (n z c v : Bool) (w : World) : Calls Try.prog 47 #[.agg #[.bool n, .bool z, .bool c, .bool v]] w fun e w' =>
    e = .returned (.bool n) ∧ ∃ k, (w.alloc (.cells #[.bool n, .bool z, .bool c, .bool v] 24)).drewN k = w' := by
  cases n <;> cases z <;> cases c <;> cases v <;>
    (go_enter Try.func47, Try.ntmps47; go_wp2; (try (go_quiet (fail))); (try go_wp2); go_ret; exact ⟨rfl, by first | exact ⟨0, rfl⟩ | exact ⟨_, rfl⟩⟩)
set_option maxHeartbeats 4000000 in
theorem flag_Holds.ask4 (n z c v : Bool) (w : World) : Calls Try.prog 48 #[.agg #[.bool n, .bool z, .bool c, .bool v]] w fun e w' =>
    e = .returned (.bool v) ∧ ∃ k, (w.alloc (.cells #[.bool n, .bool z, .bool c, .bool v] 24)).drewN k = w' := by
  cases n <;> cases z <;> cases c <;> cases v <;>
    (go_enter Try.func48, Try.ntmps48; go_wp2; (try (go_quiet (fail))); (try go_wp2); go_ret; exact ⟨rfl, by first | exact ⟨0, rfl⟩ | exact ⟨_, rfl⟩⟩)
set_option maxHeartbeats 4000000 in
theorem flag_Holds.ask5 (n z c v : Bool) (w : World) : Calls Try.prog 49 #[.agg #[.bool n, .bool z, .bool c, .bool v]] w fun e w' =>
    e = .returned (.bool (c && !z)) ∧ ∃ k, (w.alloc (.cells #[.bool n, .bool z, .bool c, .bool v] 24)).drewN k = w' := by
  cases n <;> cases z <;> cases c <;> cases v <;>
    (go_enter Try.func49, Try.ntmps49; go_wp2; (try (go_quiet (fail))); (try go_wp2); go_ret; exact ⟨rfl, by first | exact ⟨0, rfl⟩ | exact ⟨_, rfl⟩⟩)
set_option maxHeartbeats 4000000 in
theorem flag_Holds.ask6 (n z c v : Bool) (w : World) : Calls Try.prog 50 #[.agg #[.bool n, .bool z, .bool c, .bool v]] w fun e w' =>
    e = .returned (.bool (n == v)) ∧ ∃ k, (w.alloc (.cells #[.bool n, .bool z, .bool c, .bool v] 24)).drewN k = w' := by
  cases n <;> cases z <;> cases c <;> cases v <;>
    (go_enter Try.func50, Try.ntmps50; go_wp2; (try (go_quiet (fail))); (try go_wp2); go_ret; exact ⟨rfl, by first | exact ⟨0, rfl⟩ | exact ⟨_, rfl⟩⟩)
set_option maxHeartbeats 4000000 in
theorem flag_Holds.ask7 (n z c v : Bool) (w : World) : Calls Try.prog 51 #[.agg #[.bool n, .bool z, .bool c, .bool v]] w fun e w' =>
    e = .returned (.bool (!z && n == v)) ∧ ∃ k, (w.alloc (.cells #[.bool n, .bool z, .bool c, .bool v] 24)).drewN k = w' := by
  cases n <;> cases z <;> cases c <;> cases v <;>
    (go_enter Try.func51, Try.ntmps51; go_wp2; (try (go_quiet (fail))); (try go_wp2); go_ret; exact ⟨rfl, by first | exact ⟨0, rfl⟩ | exact ⟨_, rfl⟩⟩)
set_option maxHeartbeats 8000000 in
set_option maxRecDepth 100000 in
theorem flag_Holds.at0 (a1_0 : Bool) (a1_1 : Bool) (a1_2 : Bool) (a1_3 : Bool) (w : World) :
    Calls Try.prog 18 #[.int .i64 0, .agg #[.bool a1_0, .bool a1_1, .bool a1_2, .bool a1_3]] w fun e w' => e = .returned (.tuple #[.bool (a1_1 == true), .int .i64 0]) ∧ Below w.heap.size w w' := by
  go_enter Try.func18, Try.ntmps18
  go_wp2
  go_region_with (go_at_call 45; refine (flag_Holds.ask1 _ _ _ _ _).mono ?_; rintro e w1 ⟨rfl, k, rfl⟩)
  all_goals go_wp2
  all_goals go_ret2
  all_goals refine ⟨by simp [Act.put], ?_⟩
  all_goals repeat (first | exact Below.refl _ _ | apply below_drew | apply pw_below_drewN | apply below_alloc)
set_option maxHeartbeats 8000000 in
set_option maxRecDepth 100000 in
theorem flag_Holds.at1 (a1_0 : Bool) (a1_1 : Bool) (a1_2 : Bool) (a1_3 : Bool) (w : World) :
    Calls Try.prog 18 #[.int .i64 1, .agg #[.bool a1_0, .bool a1_1, .bool a1_2, .bool a1_3]] w fun e w' => e = .returned (.tuple #[.bool (a1_1 == false), .int .i64 0]) ∧ Below w.heap.size w w' := by
  go_enter Try.func18, Try.ntmps18
  go_wp2
  go_region_with (go_at_call 45; refine (flag_Holds.ask1 _ _ _ _ _).mono ?_; rintro e w1 ⟨rfl, k, rfl⟩)
  all_goals go_wp2
  all_goals go_ret2
  all_goals refine ⟨by simp [Act.put], ?_⟩
  all_goals repeat (first | exact Below.refl _ _ | apply below_drew | apply pw_below_drewN | apply below_alloc)
set_option maxHeartbeats 8000000 in
set_option maxRecDepth 100000 in
theorem flag_Holds.at2 (a1_0 : Bool) (a1_1 : Bool) (a1_2 : Bool) (a1_3 : Bool) (w : World) :
    Calls Try.prog 18 #[.int .i64 2, .agg #[.bool a1_0, .bool a1_1, .bool a1_2, .bool a1_3]] w fun e w' => e = .returned (.tuple #[.bool (a1_2 == true), .int .i64 0]) ∧ Below w.heap.size w w' := by
  go_enter Try.func18, Try.ntmps18
  go_wp2
  go_region_with (go_at_call 46; refine (flag_Holds.ask2 _ _ _ _ _).mono ?_; rintro e w1 ⟨rfl, k, rfl⟩)
  all_goals go_wp2
  all_goals go_ret2
  all_goals refine ⟨by simp [Act.put], ?_⟩
  all_goals repeat (first | exact Below.refl _ _ | apply below_drew | apply pw_below_drewN | apply below_alloc)
set_option maxHeartbeats 8000000 in
set_option maxRecDepth 100000 in
theorem flag_Holds.at3 (a1_0 : Bool) (a1_1 : Bool) (a1_2 : Bool) (a1_3 : Bool) (w : World) :
    Calls Try.prog 18 #[.int .i64 3, .agg #[.bool a1_0, .bool a1_1, .bool a1_2, .bool a1_3]] w fun e w' => e = .returned (.tuple #[.bool (a1_2 == false), .int .i64 0]) ∧ Below w.heap.size w w' := by
  go_enter Try.func18, Try.ntmps18
  go_wp2
  go_region_with (go_at_call 46; refine (flag_Holds.ask2 _ _ _ _ _).mono ?_; rintro e w1 ⟨rfl, k, rfl⟩)
  all_goals go_wp2
  all_goals go_ret2
  all_goals refine ⟨by simp [Act.put], ?_⟩
  all_goals repeat (first | exact Below.refl _ _ | apply below_drew | apply pw_below_drewN | apply below_alloc)
set_option maxHeartbeats 8000000 in
set_option maxRecDepth 100000 in
theorem flag_Holds.at4 (a1_0 : Bool) (a1_1 : Bool) (a1_2 : Bool) (a1_3 : Bool) (w : World) :
    Calls Try.prog 18 #[.int .i64 4, .agg #[.bool a1_0, .bool a1_1, .bool a1_2, .bool a1_3]] w fun e w' => e = .returned (.tuple #[.bool (a1_0 == true), .int .i64 0]) ∧ Below w.heap.size w w' := by
  go_enter Try.func18, Try.ntmps18
  go_wp2
  go_region_with (go_at_call 47; refine (flag_Holds.ask3 _ _ _ _ _).mono ?_; rintro e w1 ⟨rfl, k, rfl⟩)
  all_goals go_wp2
  all_goals go_ret2
  all_goals refine ⟨by simp [Act.put], ?_⟩
  all_goals repeat (first | exact Below.refl _ _ | apply below_drew | apply pw_below_drewN | apply below_alloc)
set_option maxHeartbeats 8000000 in
set_option maxRecDepth 100000 in
theorem flag_Holds.at5 (a1_0 : Bool) (a1_1 : Bool) (a1_2 : Bool) (a1_3 : Bool) (w : World) :
    Calls Try.prog 18 #[.int .i64 5, .agg #[.bool a1_0, .bool a1_1, .bool a1_2, .bool a1_3]] w fun e w' => e = .returned (.tuple #[.bool (a1_0 == false), .int .i64 0]) ∧ Below w.heap.size w w' := by
  go_enter Try.func18, Try.ntmps18
  go_wp2
  go_region_with (go_at_call 47; refine (flag_Holds.ask3 _ _ _ _ _).mono ?_; rintro e w1 ⟨rfl, k, rfl⟩)
  all_goals go_wp2
  all_goals go_ret2
  all_goals refine ⟨by simp [Act.put], ?_⟩
  all_goals repeat (first | exact Below.refl _ _ | apply below_drew | apply pw_below_drewN | apply below_alloc)
set_option maxHeartbeats 8000000 in
set_option maxRecDepth 100000 in
theorem flag_Holds.at6 (a1_0 : Bool) (a1_1 : Bool) (a1_2 : Bool) (a1_3 : Bool) (w : World) :
    Calls Try.prog 18 #[.int .i64 6, .agg #[.bool a1_0, .bool a1_1, .bool a1_2, .bool a1_3]] w fun e w' => e = .returned (.tuple #[.bool (a1_3 == true), .int .i64 0]) ∧ Below w.heap.size w w' := by
  go_enter Try.func18, Try.ntmps18
  go_wp2
  go_region_with (go_at_call 48; refine (flag_Holds.ask4 _ _ _ _ _).mono ?_; rintro e w1 ⟨rfl, k, rfl⟩)
  all_goals go_wp2
  all_goals go_ret2
  all_goals refine ⟨by simp [Act.put], ?_⟩
  all_goals repeat (first | exact Below.refl _ _ | apply below_drew | apply pw_below_drewN | apply below_alloc)
set_option maxHeartbeats 8000000 in
set_option maxRecDepth 100000 in
theorem flag_Holds.at7 (a1_0 : Bool) (a1_1 : Bool) (a1_2 : Bool) (a1_3 : Bool) (w : World) :
    Calls Try.prog 18 #[.int .i64 7, .agg #[.bool a1_0, .bool a1_1, .bool a1_2, .bool a1_3]] w fun e w' => e = .returned (.tuple #[.bool (a1_3 == false), .int .i64 0]) ∧ Below w.heap.size w w' := by
  go_enter Try.func18, Try.ntmps18
  go_wp2
  go_region_with (go_at_call 48; refine (flag_Holds.ask4 _ _ _ _ _).mono ?_; rintro e w1 ⟨rfl, k, rfl⟩)
  all_goals go_wp2
  all_goals go_ret2
  all_goals refine ⟨by simp [Act.put], ?_⟩
  all_goals repeat (first | exact Below.refl _ _ | apply below_drew | apply pw_below_drewN | apply below_alloc)
set_option maxHeartbeats 8000000 in
set_option maxRecDepth 100000 in
theorem flag_Holds.at8 (a1_0 : Bool) (a1_1 : Bool) (a1_2 : Bool) (a1_3 : Bool) (w : World) :
    Calls Try.prog 18 #[.int .i64 8, .agg #[.bool a1_0, .bool a1_1, .bool a1_2, .bool a1_3]] w fun e w' => e = .returned (.tuple #[.bool ((a1_2 && !a1_1) == true), .int .i64 0]) ∧ Below w.heap.size w w' := by
  go_enter Try.func18, Try.ntmps18
  go_wp2
  go_region_with (go_at_call 49; refine (flag_Holds.ask5 _ _ _ _ _).mono ?_; rintro e w1 ⟨rfl, k, rfl⟩)
  all_goals go_wp2
  all_goals go_ret2
  all_goals refine ⟨by simp [Act.put], ?_⟩
  all_goals repeat (first | exact Below.refl _ _ | apply below_drew | apply pw_below_drewN | apply below_alloc)
set_option maxHeartbeats 8000000 in
set_option maxRecDepth 100000 in
theorem flag_Holds.at9 (a1_0 : Bool) (a1_1 : Bool) (a1_2 : Bool) (a1_3 : Bool) (w : World) :
    Calls Try.prog 18 #[.int .i64 9, .agg #[.bool a1_0, .bool a1_1, .bool a1_2, .bool a1_3]] w fun e w' => e = .returned (.tuple #[.bool ((a1_2 && !a1_1) == false), .int .i64 0]) ∧ Below w.heap.size w w' := by
  go_enter Try.func18, Try.ntmps18
  go_wp2
  go_region_with (go_at_call 49; refine (flag_Holds.ask5 _ _ _ _ _).mono ?_; rintro e w1 ⟨rfl, k, rfl⟩)
  all_goals go_wp2
  all_goals go_ret2
  all_goals refine ⟨by simp [Act.put], ?_⟩
  all_goals repeat (first | exact Below.refl _ _ | apply below_drew | apply pw_below_drewN | apply below_alloc)
set_option maxHeartbeats 8000000 in
set_option maxRecDepth 100000 in
theorem flag_Holds.at10 (a1_0 : Bool) (a1_1 : Bool) (a1_2 : Bool) (a1_3 : Bool) (w : World) :
    Calls Try.prog 18 #[.int .i64 10, .agg #[.bool a1_0, .bool a1_1, .bool a1_2, .bool a1_3]] w fun e w' => e = .returned (.tuple #[.bool ((a1_0 == a1_3) == true), .int .i64 0]) ∧ Below w.heap.size w w' := by
  go_enter Try.func18, Try.ntmps18
  go_wp2
  go_region_with (go_at_call 50; refine (flag_Holds.ask6 _ _ _ _ _).mono ?_; rintro e w1 ⟨rfl, k, rfl⟩)
  all_goals go_wp2
  all_goals go_ret2
  all_goals refine ⟨by simp [Act.put], ?_⟩
  all_goals repeat (first | exact Below.refl _ _ | apply below_drew | apply pw_below_drewN | apply below_alloc)
set_option maxHeartbeats 8000000 in
set_option maxRecDepth 100000 in
theorem flag_Holds.at11 (a1_0 : Bool) (a1_1 : Bool) (a1_2 : Bool) (a1_3 : Bool) (w : World) :
    Calls Try.prog 18 #[.int .i64 11, .agg #[.bool a1_0, .bool a1_1, .bool a1_2, .bool a1_3]] w fun e w' => e = .returned (.tuple #[.bool ((a1_0 == a1_3) == false), .int .i64 0]) ∧ Below w.heap.size w w' := by
  go_enter Try.func18, Try.ntmps18
  go_wp2
  go_region_with (go_at_call 50; refine (flag_Holds.ask6 _ _ _ _ _).mono ?_; rintro e w1 ⟨rfl, k, rfl⟩)
  all_goals go_wp2
  all_goals go_ret2
  all_goals refine ⟨by simp [Act.put], ?_⟩
  all_goals repeat (first | exact Below.refl _ _ | apply below_drew | apply pw_below_drewN | apply below_alloc)
set_option maxHeartbeats 8000000 in
set_option maxRecDepth 100000 in
theorem flag_Holds.at12 (a1_0 : Bool) (a1_1 : Bool) (a1_2 : Bool) (a1_3 : Bool) (w : World) :
    Calls Try.prog 18 #[.int .i64 12, .agg #[.bool a1_0, .bool a1_1, .bool a1_2, .bool a1_3]] w fun e w' => e = .returned (.tuple #[.bool ((!a1_1 && a1_0 == a1_3) == true), .int .i64 0]) ∧ Below w.heap.size w w' := by
  go_enter Try.func18, Try.ntmps18
  go_wp2
  go_region_with (go_at_call 51; refine (flag_Holds.ask7 _ _ _ _ _).mono ?_; rintro e w1 ⟨rfl, k, rfl⟩)
  all_goals go_wp2
  all_goals go_ret2
  all_goals refine ⟨by simp [Act.put], ?_⟩
  all_goals repeat (first | exact Below.refl _ _ | apply below_drew | apply pw_below_drewN | apply below_alloc)
set_option maxHeartbeats 8000000 in
set_option maxRecDepth 100000 in
theorem flag_Holds.at13 (a1_0 : Bool) (a1_1 : Bool) (a1_2 : Bool) (a1_3 : Bool) (w : World) :
    Calls Try.prog 18 #[.int .i64 13, .agg #[.bool a1_0, .bool a1_1, .bool a1_2, .bool a1_3]] w fun e w' => e = .returned (.tuple #[.bool ((!a1_1 && a1_0 == a1_3) == false), .int .i64 0]) ∧ Below w.heap.size w w' := by
  go_enter Try.func18, Try.ntmps18
  go_wp2
  go_region_with (go_at_call 51; refine (flag_Holds.ask7 _ _ _ _ _).mono ?_; rintro e w1 ⟨rfl, k, rfl⟩)
  all_goals go_wp2
  all_goals go_ret2
  all_goals refine ⟨by simp [Act.put], ?_⟩
  all_goals repeat (first | exact Below.refl _ _ | apply below_drew | apply pw_below_drewN | apply below_alloc)
set_option maxHeartbeats 8000000 in
set_option maxRecDepth 100000 in
theorem flag_Holds.calls (a0 : Int) (a1_0 : Bool) (a1_1 : Bool) (a1_2 : Bool) (a1_3 : Bool) (r1 : Bool) (r2 : Int) (w : World) (h : flag_Holds.f a0 a1_0 a1_1 a1_2 a1_3 = some (r1, r2)) :
    Calls Try.prog 18 #[.int .i64 a0, .agg #[.bool a1_0, .bool a1_1, .bool a1_2, .bool a1_3]] w fun e w' => e = .returned (.tuple #[.bool r1, .int .i64 r2]) ∧ Below w.heap.size w w' := by
  by_cases hc : 0 ≤ a0 ∧ a0 < 14
  · rw [flag_Holds.f, if_pos hc] at h
    simp only [Option.some.injEq, Prod.mk.injEq] at h
    obtain ⟨rfl, rfl⟩ := h
    have : a0 = 0 ∨ a0 = 1 ∨ a0 = 2 ∨ a0 = 3 ∨ a0 = 4 ∨ a0 = 5 ∨ a0 = 6 ∨ a0 = 7 ∨ a0 = 8 ∨ a0 = 9 ∨ a0 = 10 ∨ a0 = 11 ∨ a0 = 12 ∨ a0 = 13 := by omega
    rcases this with rfl | rfl | rfl | rfl | rfl | rfl | rfl | rfl | rfl | rfl | rfl | rfl | rfl | rfl
    · exact flag_Holds.at0 _ _ _ _ _
    · exact flag_Holds.at1 _ _ _ _ _
    · exact flag_Holds.at2 _ _ _ _ _
    · exact flag_Holds.at3 _ _ _ _ _
    · exact flag_Holds.at4 _ _ _ _ _
    · exact flag_Holds.at5 _ _ _ _ _
    · exact flag_Holds.at6 _ _ _ _ _
    · exact flag_Holds.at7 _ _ _ _ _
    · exact flag_Holds.at8 _ _ _ _ _
    · exact flag_Holds.at9 _ _ _ _ _
    · exact flag_Holds.at10 _ _ _ _ _
    · exact flag_Holds.at11 _ _ _ _ _
    · exact flag_Holds.at12 _ _ _ _ _
    · exact flag_Holds.at13 _ _ _ _ _
  · rw [flag_Holds.f, if_neg hc] at h
    simp only [Option.some.injEq, Prod.mk.injEq] at h
    obtain ⟨rfl, rfl⟩ := h
    by_cases h0 : a0 < 0
    · go_enter Try.func18, Try.ntmps18
      go_wp2
      go_ret2
      exact ⟨rfl, by repeat (first | exact Below.refl _ _ | apply below_drew | apply pw_below_drewN | apply below_alloc)⟩
    · have h1 : 14 ≤ a0 := by omega
      clear hc
      go_enter Try.func18, Try.ntmps18
      go_wp2
      go_ret2
      exact ⟨rfl, by repeat (first | exact Below.refl _ _ | apply below_drew | apply pw_below_drewN | apply below_alloc)⟩

end Go.Proofs.Ytclomjndhcpmfaa.P
