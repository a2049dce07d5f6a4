/- Written for this claim by a program of this session (drive.py, over the print of the kit): Lean functions with the answers of Go functions, and the proofs that the Go code comes to these answers, under no condition but the readings of the arguments that each theorem names. -/
import Derived.Test.YtkpkkjbigndnoaaDoorPx0
import Derived.Test.YtkpkkjbigndnoaaDoorPx3
namespace Go.Proofs.YtkpkkjbigndnoaaDoor.P
open Go.RowKit Go.Proofs.YtkpkkjbigndnoaaDoorW.PrintWords Go.Proofs.YtkpkkjbigndnoaaDoorW.PrintLast Go.Proofs.YtkpkkjbigndnoaaDoorW.PrintMore
attribute [local go_sem] max2_int min2_int max_two min_two max_three min_three max_four min_four   -- for this text's walks alone
set_option linter.unusedVariables false
set_option linter.unusedSimpArgs false

/-! ### bits_Rotate: function 93 -/
mutual
def bits_Rotate.l0 : Nat → Int → Int → Int → Bool → Int → Option (Int × Int)
 | 0, _, _, _, _, _ => none
 | k + 1, x0, x1, x2, x8, x10 => if x10 < 6 then (if x8 = true then (bits_Rotate.l0 k x0 x1 x2 true (wrap64 (x10 + 1))) else (if 0 ≤ x10 then (bits_Rotate.l0 k x0 x1 x2 (x2 == (shl .i64 2 x10)) (wrap64 (x10 + 1))) else (none))) else (if x8 = true then (if x1 < 0 then (bits_Rotate.j1 k x0 x1 x2 true) else (bits_Rotate.j1 k x0 x1 x2 (decide (x1 ≥ x2)))) else (bits_Rotate.j1 k x0 x1 x2 true))
def bits_Rotate.j1 : Nat → Int → Int → Int → Bool → Option (Int × Int)
 | 0, _, _, _, _ => none
 | k + 1, x0, x1, x2, x21 => if x21 = true then (some (0, 1)) else ((bits_ones.f x2).bind fun t104 => (if x0 > t104 then (some (0, 4)) else (if 0 ≤ x1 then (if 0 ≤ (wrap64 (x2 - x1)) then ((bits_Low.f (Go.bits .or .u64 (shr .u64 x0 x1) (shl .u64 x0 (wrap64 (x2 - x1)))) x2).bind fun t105 => (some (t105, 0))) else (none)) else (none))))
end
def bits_Rotate.f (k : Nat) (a0 : Int) (a1 : Int) (a2 : Int) : Option (Int × Int) := bits_Rotate.l0 k a0 a1 a2 false 0
theorem bits_Rotate.mono_l : ∀ k, (∀ y0 y1 y2 y3 y4, LeO (bits_Rotate.l0 k y0 y1 y2 y3 y4) (bits_Rotate.l0 (k + 1) y0 y1 y2 y3 y4)) ∧ (∀ y0 y1 y2 y3, LeO (bits_Rotate.j1 k y0 y1 y2 y3) (bits_Rotate.j1 (k + 1) y0 y1 y2 y3))
 | 0 => ⟨fun _ _ _ _ _ r h => by simp [bits_Rotate.l0] at h, fun _ _ _ _ r h => by simp [bits_Rotate.j1] at h⟩
 | k + 1 => by
  obtain ⟨ih0, ih1⟩ := bits_Rotate.mono_l k
  refine ⟨?_, ?_⟩
  ·
   intro y0 y1 y2 y3 y4
   unfold bits_Rotate.l0
   repeat' first
   | (with_reducible exact ih0 _ _ _ _ _)
   | (with_reducible exact ih1 _ _ _ _)
   | (with_reducible exact LeO.refl _)
   | (with_reducible exact LeO.none _)
   | (with_reducible refine LeO.ite ?_ ?_)
   | (with_reducible refine LeO.bind ?_ (fun _ => ?_))
   | exact ih0 _ _ _ _ _
   | exact ih1 _ _ _ _
   | exact LeO.none _
   | refine LeO.ite ?_ ?_
   | refine LeO.bind ?_ (fun _ => ?_)
  ·
   intro y0 y1 y2 y3
   unfold bits_Rotate.j1
   repeat' first
   | (with_reducible exact ih0 _ _ _ _ _)
   | (with_reducible exact ih1 _ _ _ _)
   | (with_reducible exact LeO.refl _)
   | (with_reducible exact LeO.none _)
   | (with_reducible refine LeO.ite ?_ ?_)
   | (with_reducible refine LeO.bind ?_ (fun _ => ?_))
   | exact ih0 _ _ _ _ _
   | exact ih1 _ _ _ _
   | exact LeO.none _
   | refine LeO.ite ?_ ?_
   | refine LeO.bind ?_ (fun _ => ?_)
theorem bits_Rotate.mono : ∀ a0 a1 a2 k, LeO (bits_Rotate.f k a0 a1 a2) (bits_Rotate.f (k + 1) a0 a1 a2) := by
 intro a0 a1 a2 k
 obtain ⟨ih0, ih1⟩ := bits_Rotate.mono_l k
 unfold bits_Rotate.f
 repeat' first
   | (with_reducible exact ih0 _ _ _ _ _)
   | (with_reducible exact ih1 _ _ _ _)
   | (with_reducible exact LeO.refl _)
   | (with_reducible exact LeO.none _)
   | (with_reducible refine LeO.ite ?_ ?_)
   | (with_reducible refine LeO.bind ?_ (fun _ => ?_))
   | exact ih0 _ _ _ _ _
   | exact ih1 _ _ _ _
   | exact LeO.none _
   | refine LeO.ite ?_ ?_
   | refine LeO.bind ?_ (fun _ => ?_)
def bits_Rotate.T11 : Bool × List (List Nat × List Nat) := (true, [([], []), ([], []), ([0, 1], [0, 1]), ([], []), ([], []), ([], []), ([4, 5], [4, 5]), ([3, 6], [3, 6]), ([2, 7], [2, 7]), ([], []), ([8, 9], [8, 9]), ([10, 10, 0, 1, 2, 3, 4, 5, 6, 7, 8, 9, 10], [10]), ([11, 0, 1, 2, 3, 4, 5, 6, 7, 8, 9, 10, 11], [])])
def bits_Rotate.B11 : List Nat := [0, 0, 3, 0, 0, 0, 48, 120, 255, 0, 1023, 2047, 4095]
theorem bits_Rotate.tab11 : rtab .any (opsOf Tryd.f93 11) = bits_Rotate.T11 := by kernel_rfl
theorem bits_Rotate.bits11 : waitsOk bits_Rotate.T11.2 bits_Rotate.B11 = true := by kernel_rfl
set_option maxHeartbeats 8000000 in
set_option maxRecDepth 100000 in
theorem bits_Rotate.calls (k : Nat) (a0 : Int) (a1 : Int) (a2 : Int) (r1 : Int) (r2 : Int) (w : World) (h : bits_Rotate.f k a0 a1 a2 = some (r1, r2)) :
    Calls Tryd.prog 93 #[.int .u64 a0, .int .i64 a1, .int .i64 a2] w fun e w' => e = .returned (.tuple #[.int .u64 r1, .int .i64 r2]) ∧ Below w.heap.size w w' := by
 have HB := Aside0.mk (Below.refl w.heap.size w)
 have H : (bits_Rotate.l0 k a0 a1 a2 false 0) = some (r1, r2) := h
 clear h
 have H' := Aside0.mk H
 clear H
 go_enter Tryd.func93, Tryd.ntmps93
 go_wp2
 go_loopg [8, 10] k (fun kq v8 v10 w' => ∃ (x8_1 : Bool) (x10_1 : Int), v8 = .bool x8_1 ∧ v10 = .int .i64 x10_1 ∧ Aside0 (bits_Rotate.l0 kq a0 a1 a2 x8_1 x10_1 = some (r1, r2)) ∧ Aside0 (kq ≤ k) ∧ Aside0 (Below w.heap.size w w'))
 case atStart => exact ⟨(false), (0), (by first | rfl | (simp; done) | (simp [*]; done)), (by first | rfl | (simp; done) | (simp [*]; done)), H', ⟨Nat.le_refl _⟩, ⟨by repeat (first | (with_reducible first | exact HB.out | apply below_alloc | apply pw_below_drewN | apply below_drew1) | exact HB.out)⟩⟩
 case round =>
  clear H'
  try clear p2
  obtain ⟨x8_1, x10_1, rfl, rfl, HA, HK1, HB⟩ := hrel
  cases gk with
  | zero => exact absurd HA.out (by simp [bits_Rotate.l0])
  | succ k1 =>
   have H := HA.out
   clear HA
   simp only [bits_Rotate.l0] at H
   by_cases c4 : x10_1 < 6
   ·
    rw [if_pos c4] at H
    have c4b0 : decide (x10_1 < 6) = true := decide_eq_true c4
    clear c4
    by_cases c5 : x8_1 = true
    ·
     subst c5
     have H1 : (bits_Rotate.l0 k1 a0 a1 a2 true (wrap64 (x10_1 + 1))) = some (r1, r2) := by rw [if_pos rfl] at H; exact H
     clear H
     have H := H1
     clear H1
     have H' := Aside0.mk H
     clear H
     go_wp2
     go_roundg k1
     case measure => have := HK1.out; omega
     case rel => exact ⟨(true), (wrap64 (x10_1 + 1)), (by first | rfl | (simp; done) | (simp [*]; done)), (by first | rfl | (simp; done) | (simp [*]; done)), H', ⟨by have := HK1.out; omega⟩, ⟨by repeat (first | (with_reducible first | exact HB.out | apply below_alloc | apply pw_below_drewN | apply below_drew1) | exact HB.out)⟩⟩
    ·
     replace c5 := Bool.eq_false_iff.mpr c5
     subst c5
     have H1 : (if 0 ≤ x10_1 then (bits_Rotate.l0 k1 a0 a1 a2 (a2 == (shl .i64 2 x10_1)) (wrap64 (x10_1 + 1))) else (none)) = some (r1, r2) := by rw [if_neg (show ¬ (false = true) by decide)] at H; exact H
     clear H
     have H := H1
     clear H1
     by_cases c6 : 0 ≤ x10_1
     ·
      rw [if_pos c6] at H
      have c6b0 := eq_true c6
      have c6b1 : decide (0 ≤ x10_1) = true := decide_eq_true c6
      clear c6
      obtain ⟨ji7, hji7⟩ : ∃ j_ : Int, (shl .i64 2 x10_1) = j_ := ⟨_, rfl⟩
      replace H : (bits_Rotate.l0 k1 a0 a1 a2 (a2 == (ji7)) (wrap64 (x10_1 + 1))) = some (r1, r2) := by first | (rw [hji7] at H; exact H) | (simp only [hji7] at H ⊢; exact H)
      have hji7_ : (IntKind.i64.wrap (2 * 2 ^ min x10_1.toNat 64)) = ji7 := hji7
      have hji7z : x10_1 ≤ 64 → (IntKind.i64.wrap (2 * 2 ^ x10_1.toNat)) = ji7 := shl_small hji7
      have hji7y : (wrap64 (2 * 2 ^ min x10_1.toNat 64)) = ji7 := (i64_w _).symm.trans hji7_
      have hji7x : x10_1 ≤ 64 → (wrap64 (2 * 2 ^ x10_1.toNat)) = ji7 := fun h_ => (i64_w _).symm.trans (hji7z h_)
      have H' := Aside0.mk H
      clear H
      go_wp2
      go_roundg k1
      case measure => have := HK1.out; omega
      case rel => exact ⟨((a2 == (ji7))), (wrap64 (x10_1 + 1)), (by first | rfl | (simp; done) | (simp only [← hji7] <;> (first | rfl | simp)) | (simp [*]; done)), (by first | rfl | (simp; done) | (simp [*]; done)), H', ⟨by have := HK1.out; omega⟩, ⟨by repeat (first | (with_reducible first | exact HB.out | apply below_alloc | apply pw_below_drewN | apply below_drew1) | exact HB.out)⟩⟩
     ·
      rw [if_neg c6] at H
      exact absurd H (by simp)
   ·
    rw [if_neg c4] at H
    have c4b0 : decide (x10_1 < 6) = false := decide_eq_false c4
    clear c4
    have HC8 := Aside0.mk H
    clear H
    go_upto_region 7 with (fail)
    go_cut [21] (fun v21 wc => ∃ (kq : Nat) (x21_7 : Bool), v21 = .bool x21_7 ∧ Aside0 (bits_Rotate.j1 kq a0 a1 a2 x21_7 = some (r1, r2)) ∧ Aside0 (kq ≤ k1) ∧ Aside0 (Below w.heap.size w wc))
    case first =>
     have H := HC8.out
     clear HC8
     (try (rw [drewN_self w]; have n0_ := fun n_ => pw_below_drewN HB.out n_; clear HB; generalize hq_ : World.drewN w _ = w; have HB := Aside0.mk (hq_ ▸ n0_ _); clear hq_ n0_))
     by_cases c9 : x8_1 = true
     ·
      subst c9
      have H1 : (if a1 < 0 then (bits_Rotate.j1 k1 a0 a1 a2 true) else (bits_Rotate.j1 k1 a0 a1 a2 (decide (a1 ≥ a2)))) = some (r1, r2) := by rw [if_pos rfl] at H; exact H
      clear H
      have H := H1
      clear H1
      by_cases c10 : a1 < 0
      ·
       rw [if_pos c10] at H
       have c10b0 : decide (a1 < 0) = true := decide_eq_true c10
       clear c10
       (first | rw [c10b0] | (simp only [i64_w, i32_w]; rw [c10b0]) | skip)
       have H' := Aside0.mk H
       clear H
       go_wp2
       go_meet
       case rel => exact ⟨_, (true), (by first | rfl | (simp; done) | (simp [*]; done)), H', ⟨by have := HK1.out; first | omega | exact Nat.le_refl _⟩, ⟨by repeat (first | (with_reducible first | exact HB.out | apply below_alloc | apply pw_below_drewN | apply below_drew1) | exact HB.out)⟩⟩
      ·
       rw [if_neg c10] at H
       have c10b0 : decide (a1 < 0) = false := decide_eq_false c10
       clear c10
       (first | rw [c10b0] | (simp only [i64_w, i32_w]; rw [c10b0]) | skip)
       have H' := Aside0.mk H
       clear H
       go_wp2
       go_meet
       case rel => exact ⟨_, (decide (a1 ≥ a2)), (by first | rfl | (simp; done) | (simp [*]; done)), H', ⟨by have := HK1.out; first | omega | exact Nat.le_refl _⟩, ⟨by repeat (first | (with_reducible first | exact HB.out | apply below_alloc | apply pw_below_drewN | apply below_drew1) | exact HB.out)⟩⟩
     ·
      replace c9 := Bool.eq_false_iff.mpr c9
      subst c9
      have H1 : (bits_Rotate.j1 k1 a0 a1 a2 true) = some (r1, r2) := by rw [if_neg (show ¬ (false = true) by decide)] at H; exact H
      clear H
      have H := H1
      clear H1
      have H' := Aside0.mk H
      clear H
      go_wp2
      go_meet
      case rel => exact ⟨_, (true), (by first | rfl | (simp; done) | (simp [*]; done)), H', ⟨by have := HK1.out; first | omega | exact Nat.le_refl _⟩, ⟨by repeat (first | (with_reducible first | exact HB.out | apply below_alloc | apply pw_below_drewN | apply below_drew1) | exact HB.out)⟩⟩
    case rest =>
     clear HC8
     try clear c1
     try clear p2
     try clear c4
     try clear c4b0
     try clear c5
     try clear c6
     try clear c6b0
     try clear c6b1
     try clear p6
     try clear c9
     try clear c10
     try clear c10b0
     try clear p2
     obtain ⟨kq, x21_7, rfl, HA, HJ7, HB⟩ := hcut
     cases kq with
     | zero => exact absurd HA.out (by simp [bits_Rotate.j1])
     | succ kj7 =>
      have H := HA.out
      clear HA
      simp only [bits_Rotate.j1] at H
      by_cases c11 : x21_7 = true
      ·
       subst c11
       have H1 : (some (0, 1)) = some (r1, r2) := by rw [if_pos rfl] at H; exact H
       clear H
       have H := H1
       clear H1
       simp only [Option.some.injEq, Prod.mk.injEq] at H
       obtain ⟨rfl, rfl⟩ := H
       go_wp2
       go_ret2
       exact ⟨by first | rfl | (simp [errW_none, errW_some] <;> rfl) | (simp [*, errW_none, errW_some] <;> rfl), by repeat (first | (with_reducible first | exact HB.out | apply below_alloc | apply pw_below_drewN | apply below_drew1) | exact HB.out)⟩
      ·
       replace c11 := Bool.eq_false_iff.mpr c11
       subst c11
       have H1 : ((bits_ones.f a2).bind fun t104 => (if a0 > t104 then (some (0, 4)) else (if 0 ≤ a1 then (if 0 ≤ (wrap64 (a2 - a1)) then ((bits_Low.f (Go.bits .or .u64 (shr .u64 a0 a1) (shl .u64 a0 (wrap64 (a2 - a1)))) a2).bind fun t105 => (some (t105, 0))) else (none)) else (none)))) = some (r1, r2) := by rw [if_neg (show ¬ (false = true) by decide)] at H; exact H
       clear H
       have H := H1
       clear H1
       replace H := Option.bind_eq_some_iff.mp H
       obtain ⟨t104, A120, H⟩ := H
       replace H : (if a0 > t104 then (some (0, 4)) else (if 0 ≤ a1 then (if 0 ≤ (wrap64 (a2 - a1)) then ((bits_Low.f (Go.bits .or .u64 (shr .u64 a0 a1) (shl .u64 a0 (wrap64 (a2 - a1)))) a2).bind fun t105 => (some (t105, 0))) else (none)) else (none))) = some (r1, r2) := H
       have A12 := Aside0.mk A120
       clear A120
       by_cases c13 : a0 > t104
       ·
        rw [if_pos c13] at H
        have c13b0 : decide (t104 < a0) = true := decide_eq_true c13
        clear c13
        simp only [Option.some.injEq, Prod.mk.injEq] at H
        obtain ⟨rfl, rfl⟩ := H
        go_wp2_with (first | ((with_reducible refine gate_callee (f := 37) rfl ?_); refine goesL_ (some 36) rfl rfl Tryd.func37 (by kernel_rfl) rfl #[.int .i64 a2] rfl (by (try simp only [List.map_toArray, List.map_cons, List.map_nil]); first | done | rfl | (simp only [List.length_drop, List.length_take]; rfl)) ?_; (with_reducible refine (bits_ones.calls a2 t104 _ A12.out).mono ?_); rintro e w' ⟨rfl, ⟨nd, rfl⟩⟩; refine ⟨_, rfl, ?_⟩))
        go_ret2
        exact ⟨by first | rfl | (simp [errW_none, errW_some] <;> rfl) | (simp [*, errW_none, errW_some] <;> rfl), by repeat (first | (with_reducible first | exact HB.out | apply below_alloc | apply pw_below_drewN | apply below_drew1) | exact HB.out)⟩
       ·
        rw [if_neg c13] at H
        have c13b0 : decide (t104 < a0) = false := decide_eq_false c13
        clear c13
        by_cases c14 : 0 ≤ a1
        ·
         rw [if_pos c14] at H
         have c14b0 := eq_true c14
         have c14b1 : decide (0 ≤ a1) = true := decide_eq_true c14
         clear c14
         obtain ⟨ji15, hji15⟩ : ∃ j_ : Int, (shr .u64 a0 a1) = j_ := ⟨_, rfl⟩
         replace H : (if 0 ≤ (wrap64 (a2 - a1)) then ((bits_Low.f (Go.bits .or .u64 (ji15) (shl .u64 a0 (wrap64 (a2 - a1)))) a2).bind fun t105 => (some (t105, 0))) else (none)) = some (r1, r2) := by first | (rw [hji15] at H; exact H) | (simp only [hji15] at H ⊢; exact H)
         (try rw [hji15] at A12)
         have hji15_ : (a0 / 2 ^ min a1.toNat 64) = ji15 := hji15
         have hji15z : a1 ≤ 64 → (a0 / 2 ^ a1.toNat) = ji15 := shr_small hji15
         obtain ⟨ji16, hji16⟩ : ∃ j_ : Int, (wrap64 (a2 - a1)) = j_ := ⟨_, rfl⟩
         replace H : (if 0 ≤ (ji16) then ((bits_Low.f (Go.bits .or .u64 (ji15) (shl .u64 a0 (ji16))) a2).bind fun t105 => (some (t105, 0))) else (none)) = some (r1, r2) := by first | (rw [hji16] at H; exact H) | (simp only [hji16] at H ⊢; exact H)
         (try rw [hji16] at A12)
         have hji16w : (IntKind.i64.wrap (a2 - a1)) = ji16 := (i64_w _).trans hji16
         by_cases c17 : 0 ≤ (ji16)
         ·
          rw [if_pos c17] at H
          have c17b0 := eq_true c17
          have c17b1 : decide (0 ≤ (ji16)) = true := decide_eq_true c17
          clear c17
          obtain ⟨ji18, hji18⟩ : ∃ j_ : Int, (shl .u64 a0 (ji16)) = j_ := ⟨_, rfl⟩
          replace H : ((bits_Low.f (Go.bits .or .u64 (ji15) (ji18)) a2).bind fun t105 => (some (t105, 0))) = some (r1, r2) := by first | (rw [hji18] at H; exact H) | (simp only [hji18] at H ⊢; exact H)
          (try rw [hji18] at A12)
          have hji18_ : (IntKind.u64.wrap (a0 * 2 ^ min (ji16).toNat 64)) = ji18 := hji18
          have hji18z : (ji16) ≤ 64 → (IntKind.u64.wrap (a0 * 2 ^ (ji16).toNat)) = ji18 := shl_small hji18
          replace H := Option.bind_eq_some_iff.mp H
          obtain ⟨t105, A190, H⟩ := H
          replace H : (some (t105, 0)) = some (r1, r2) := H
          have A19 := Aside0.mk A190
          clear A190
          simp only [Option.some.injEq, Prod.mk.injEq] at H
          obtain ⟨rfl, rfl⟩ := H
          try go_wp2_with (first | ((with_reducible refine gate_callee (f := 37) rfl ?_); refine goesL_ (some 36) rfl rfl Tryd.func37 (by kernel_rfl) rfl #[.int .i64 a2] rfl (by (try simp only [List.map_toArray, List.map_cons, List.map_nil]); first | done | rfl | (simp only [List.length_drop, List.length_take]; rfl)) ?_; (with_reducible refine (bits_ones.calls a2 t104 _ A12.out).mono ?_); rintro e w' ⟨rfl, ⟨nd, rfl⟩⟩; refine ⟨_, rfl, ?_⟩))
          (try (rw [drewN_self wc]; generalize hq_ : World.drewN wc _ = wc; have n0_ : Aside0 (Below w.heap.size w wc) := ⟨by rw [← hq_]; exact (by repeat (first | (with_reducible first | exact HB.out | apply below_alloc | apply pw_below_drewN | apply below_drew1) | exact HB.out))⟩; clear HB hq_; have HB := n0_; clear n0_))
          have n0_ := Aside0.mk (below_drew1 HB.out)
          clear HB
          have HB := n0_
          clear n0_
          refine start_ (n := 13) (S := fun w' => True) (ds := []) #[false, false, false, false, false, false, false, false, false, false, false, false, false] (by kernel_rfl) rfl rfl trivial (fun hHeld => ?_); refine with_tabW bits_Rotate.tab11 bits_Rotate.bits11 (fun HT_ HW_ => ?_)
          generalize wc.drew = w20 at HB hHeld ⊢
          refine pure_ (i := 0) (N := some 38) (v := ?_) (a' := ?_) #[true, false, false, false, false, false, false, false, false, false, false, false, false] rfl rfl (any_of HT_.out (by kernel_rfl)) (fun _ _ _ h => h) (Or.inl ⟨by rfl, ?_⟩) ?_ ?_
          rotate_left
          · intro w'; go_simp; with_reducible rfl
          rotate_left
          · simp only [qa_, qb_, qc_, qd_, i64_w, i32_w]; rfl
          refine pure_ (i := 1) (N := some 39) (v := ?_) (a' := ?_) #[true, true, false, false, false, false, false, false, false, false, false, false, false] rfl rfl (any_of HT_.out (by kernel_rfl)) (fun _ _ _ h => h) (Or.inl ⟨by rfl, ?_⟩) ?_ ?_
          rotate_left
          · intro w'; go_simp; with_reducible rfl
          rotate_left
          · simp only [qa_, qb_, qc_, qd_, i64_w, i32_w]; rfl
          refine pure_ (i := 2) (N := some 40) (v := ?_) (a' := ?_) #[true, true, true, false, false, false, false, false, false, false, false, false, false] rfl rfl (any_of HT_.out (by kernel_rfl)) (fun _ _ _ h => h) (Or.inl ⟨by rfl, ?_⟩) ?_ ?_
          rotate_left
          · intro w'; go_simp; with_reducible rfl
          rotate_left
          · simp only [qa_, qb_, qc_, qd_, i64_w, i32_w]; rfl
          refine pure_ (i := 3) (N := some 41) (v := ?_) (a' := ?_) #[true, true, true, true, false, false, false, false, false, false, false, false, false] rfl rfl (any_of HT_.out (by kernel_rfl)) (fun _ _ _ h => h) (Or.inl ⟨by rfl, ?_⟩) ?_ ?_
          rotate_left
          · intro w'; go_simp; with_reducible rfl
          rotate_left
          · simp only [qa_, qb_, qc_, qd_, i64_w, i32_w]; rfl
          refine pure_ (i := 4) (N := some 42) (v := ?_) (a' := ?_) #[true, true, true, true, true, false, false, false, false, false, false, false, false] rfl rfl (any_of HT_.out (by kernel_rfl)) (fun _ _ _ h => h) (Or.inl ⟨by rfl, ?_⟩) ?_ ?_
          rotate_left
          · intro w'; go_simp; with_reducible rfl
          rotate_left
          · simp only [qa_, qb_, qc_, qd_, i64_w, i32_w]; rfl
          refine pure_ (i := 5) (N := some 43) (v := ?_) (a' := ?_) #[true, true, true, true, true, true, false, false, false, false, false, false, false] rfl rfl (any_of HT_.out (by kernel_rfl)) (fun _ _ _ h => h) (Or.inl ⟨by rfl, ?_⟩) ?_ ?_
          rotate_left
          · intro w'; go_simp; with_reducible rfl
          rotate_left
          · simp only [qa_, qb_, qc_, qd_, i64_w, i32_w]; rfl
          refine pure_ (i := 6) (N := some 44) (v := ?_) (a' := ?_) #[true, true, true, true, true, true, true, false, false, false, false, false, false] rfl rfl (any_of HT_.out (by kernel_rfl)) (fun _ _ _ h => h) (Or.inl ⟨by rfl, ?_⟩) ?_ ?_
          rotate_left
          · intro w'; go_simp; with_reducible rfl
          rotate_left
          · simp only [qa_, qb_, qc_, qd_, i64_w, i32_w]; rfl
          refine pure_ (i := 7) (N := some 45) (v := ?_) (a' := ?_) #[true, true, true, true, true, true, true, true, false, false, false, false, false] rfl rfl (any_of HT_.out (by kernel_rfl)) (fun _ _ _ h => h) (Or.inl ⟨by rfl, ?_⟩) ?_ ?_
          rotate_left
          · intro w'; go_simp; with_reducible rfl
          rotate_left
          · simp only [qa_, qb_, qc_, qd_, i64_w, i32_w]; rfl
          refine pure_ (i := 8) (N := some 46) (v := ?_) (a' := ?_) #[true, true, true, true, true, true, true, true, true, false, false, false, false] rfl rfl (any_of HT_.out (by kernel_rfl)) (fun _ _ _ h => h) (Or.inl ⟨by rfl, ?_⟩) ?_ ?_
          rotate_left
          · intro w'; go_simp; with_reducible rfl
          rotate_left
          · simp only [qa_, qb_, qc_, qd_, i64_w, i32_w]; rfl
          refine pure_ (i := 9) (N := some 47) (v := ?_) (a' := ?_) #[true, true, true, true, true, true, true, true, true, true, false, false, false] rfl rfl (any_of HT_.out (by kernel_rfl)) (fun _ _ _ h => h) (Or.inl ⟨by rfl, ?_⟩) ?_ ?_
          rotate_left
          · intro w'; go_simp; with_reducible rfl
          rotate_left
          · simp only [qa_, qb_, qc_, qd_, i64_w, i32_w]; rfl
          refine one_ (i := 10) (N := some 48) #[true, true, true, true, true, true, true, true, true, true, true, false, false] rfl rfl (one_of HT_.out (by kernel_rfl)) (by decide) (fun K hK => ?_)
          refine goes_ Tryd.func89 (by kernel_rfl) rfl #[.int .u64 (Go.bits .or .u64 (ji15) (ji18)), .int .i64 a2] (by rfl) rfl rfl (by (try simp only [List.map_toArray, List.map_cons, List.map_nil]); first | done | (simp only [hji15, hji18]; rfl) | rfl | (simp only [List.length_drop, List.length_take]; rfl)) ?_
          with_reducible refine (bits_Low.calls (Go.bits .or .u64 (ji15) (ji18)) a2 t105 _ A19.out).mono ?_
          rintro e w21 ⟨rfl, hb⟩
          refine ⟨_, rfl, ?_⟩
          have n0_ := Aside0.mk (below_step (by repeat (first | (with_reducible first | exact HB.out | apply below_alloc | apply pw_below_drewN | apply below_drew1) | exact HB.out)) hb)
          clear HB
          have HB := n0_
          clear n0_
          (try clear hb)
          (try clear hb2)
          (try clear hk)
          (try clear hi)
          refine hK.out _ _ trivial (fun hHeld => ?_)
          clear hK K
          refine norm_ (a' := ?_) ?_ ?_
          rotate_left
          ·
           show Act.put _ (some 48) _ = _
           simp only [qa_, qb_, qc_, qd_, i64_w, i32_w]
           rfl
          refine pure_ (i := 11) (N := some 6) (v := ?_) (a' := ?_) #[true, true, true, true, true, true, true, true, true, true, true, true, false] rfl rfl (any_of HT_.out (by kernel_rfl)) (fun _ _ _ h => h) (Or.inl ⟨by rfl, ?_⟩) ?_ ?_
          rotate_left
          · intro w'; go_simp; with_reducible rfl
          rotate_left
          · simp only [qa_, qb_, qc_, qd_, i64_w, i32_w]; rfl
          refine pure_ (i := 12) (N := some 7) (v := ?_) (a' := ?_) #[true, true, true, true, true, true, true, true, true, true, true, true, true] rfl rfl (any_of HT_.out (by kernel_rfl)) (fun _ _ _ h => h) (Or.inl ⟨by rfl, ?_⟩) ?_ ?_
          rotate_left
          · intro w'; go_simp; with_reducible rfl
          rotate_left
          · simp only [qa_, qb_, qc_, qd_, i64_w, i32_w]; rfl
          refine done_ (done_of HT_.out (by kernel_rfl)) ?_
          try go_wp2
          go_ret2
          exact ⟨by first | rfl | (simp [errW_none, errW_some] <;> rfl) | (simp only [← hji15, ← hji16, ← hji18]; first | rfl | (simp [errW_none, errW_some] <;> rfl)) | (simp [*, errW_none, errW_some] <;> rfl), by repeat (first | (with_reducible first | exact HB.out | apply below_alloc | apply pw_below_drewN | apply below_drew1) | exact HB.out)⟩
         ·
          rw [if_neg c17] at H
          exact absurd H (by simp)
        ·
         rw [if_neg c14] at H
         exact absurd H (by simp)

/-! ### mask_front: function 94 -/
def mask_front.f (a0 : Int) : Option (Int) := if a0 = 64 then (some 0) else (some (wrap64 (64 - (wrap64 (2 * a0)))))
set_option maxHeartbeats 8000000 in
set_option maxRecDepth 100000 in
theorem mask_front.calls (a0 : Int) (r : Int) (w : World) (h : mask_front.f a0 = some r) :
    Calls Tryd.prog 94 #[.int .i64 a0] w fun e w' => e = .returned (.int .i64 r) ∧ Drawn0 w w' := by
 have H : (if a0 = 64 then (some 0) else (some (wrap64 (64 - (wrap64 (2 * a0)))))) = some r := h
 clear h
 by_cases c2 : a0 = 64
 ·
  rw [if_pos c2] at H
  have c2b0 : (a0 == 64) = true := beq_iff_eq.mpr c2
  have c2b1 : (a0 != 64) = false := bne_eq_false_iff_eq.mpr c2
  clear c2
  obtain rfl := Option.some.inj H
  go_enter Tryd.func94, Tryd.ntmps94
  go_wp2
  go_ret
  exact ⟨by first | rfl | (simp; done) | (simp [*]; done), by repeat (first | exact Drawn0.refl _ | apply Drawn0.step)⟩
 ·
  rw [if_neg c2] at H
  have c2b0 : (a0 == 64) = false := beq_eq_false_iff_ne.mpr c2
  have c2b1 : (a0 != 64) = true := bne_iff_ne.mpr c2
  obtain rfl := Option.some.inj H
  go_enter Tryd.func94, Tryd.ntmps94
  go_wp2
  go_ret
  exact ⟨by first | rfl | (simp; done) | (simp [*]; done), by repeat (first | exact Drawn0.refl _ | apply Drawn0.step)⟩

end Go.Proofs.YtkpkkjbigndnoaaDoor.P
